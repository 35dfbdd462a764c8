/-
 A framework for runs of Go code over abstract data: what it needs, and that it is sound, part 7.
 Conditions: none.
-/
import Derived.Test.YteealakhniofoaaGreatDoorEf
set_option linter.all false
set_option maxRecDepth 100000
set_option maxHeartbeats 4000000
open Bool renaming and_eq_true->bg,true_and->qt
open Go.E.C renaming toInt->aq
open Go.E.RD renaming kind->pc
open Go.E.S renaming obj->jt
open Go.E.Ty renaming beq->wg,beq_iff->rn
open Go.E.V renaming oks->vg
open List renaming all_eq_true->dv,find?_some->sd,getD_eq_getElem?_getD->bq,isEmpty_iff->qv,map_cons->dt,mem_append->eh,mem_cons->ij,mem_cons_of_mem->fp,mem_cons_self->ga,mem_of_find?_eq_some->sv
open Nat renaming add_assoc->fv,add_comm->qz,add_zero->il,beq->df,eq_of_beq_eq_true->ei,zero_add->bf
open Option renaming ite_none_right_eq_some->az,ne_none_iff_exists'->ry
namespace Go.E
open Go
section
def Mi {R:Type} (X:Cx) (call:Ei R) (ext:EY) (ops:Array Oper) (yh:List Nat) (tbl:List (Nat × Nat)):List Oper->S->(List (Nat × Nat)->S->Option R)->Option R
 | [],s,K=>K [] s|o::rest,s,K=>
  match o.guard with
  |none=>RS X call ext (DP yh tbl o (BL X.gl s) s) o s fun v s1=>Mi X call ext ops yh tbl rest ((s1.wA s.A).set o.dst v) fun ml s2=>K ((BH o,DP yh tbl o (BL X.gl s) s)::ml) s2
  |some (j,want)=>Ri ops s j want (fun s=>RS X call ext (DP yh tbl o (BL X.gl s) s) o s fun v s1=>Mi X call ext ops yh tbl rest ((s1.wA s.A).set o.dst v) fun ml s2=>K ((BH o,DP yh tbl o (BL X.gl s) s)::ml) s2)
    (fun s=>Mi X call ext ops yh tbl rest (s.set o.dst (.tup [])) K)
theorem vK:∀(n:Nat) {loc:List (Key × O)} (ks:List Key),∀p∈Jk n loc ks,AZ loc p.1=some p.2
 |0,_,_,p,hp=>by simp[Jk]at hp
 |n+1,loc,ks,p,hp=>by simp only[Jk,List.mem_flatMap]at hp;obtain⟨k,h1,hp⟩:=hp;split at hp;{rename_i o ho;rcases ij.1 hp with rfl|hp;{exact ho};{split at hp;{exact vK n _ p hp};{simp at hp}}};{simp at hp}
def Ke (base s:S) (xs:List V):S:=bif (V.HU xs).all (fun k=>(base.obj k).isSome)then base else base.see s xs
theorem Wv (base s:S) (xs:List V):Ke base s xs=base\/Ke base s xs=base.see s xs:=by unfold Ke;cases(V.HU xs).all _;{exact .inr rfl};{exact .inl rfl}
theorem Wu (base s:S) (xs:List V):(Ke base s xs).A=base.A:=by rcases Wv base s xs with h|h <;> rw[h] <;> rfl
theorem yF {base s:S} {xs:List V} (hb:∀k o,base.obj k=some o->s.obj k=some o) (k:Key) (o:O) (h:(Ke base s xs).obj k=some o):s.obj k=some o:=by
 rcases Wv base s xs with e|e <;> rw[e]at h;{exact hb k o h}
 ·unfold jt S.see Cs at h;simp only[LZ]at h;cases hl:AZ (Jk 3 s.loc (V.HU xs)) k with
  |some o'=>
   rw[hl]at h;cases h;exact rL (vK 3 _ (k,o) (aF hl))
  |none=>
   rw[hl]at h;exact hb k o h
def ekK {R:Type} (X:Cx) (call:Ei R) (ext:EY) (m:Nat) (o:Oper) (base s:S) (K:RD->Option R):Option R:=
 if ZY o=true then
  (match RV ext o (BL X.gl s)with
  |some r=>(match r with|some v=>K (.k0 v)|none=>none)
  |none=>if df m 8=true then Uc X call o (BL X.gl s) s (fun v=>K (.k1 v [] []))else if df m 7=true then KA X call false o (BL X.gl s) s00 fun v L=>if Li L (v.tkR 2000)=true then K (.k0 ((v.Da 2000).ren (dn (BH o)) (rk (BH o))))else none else(match m with
   |0=>KA X call false o (BL X.gl s) (Ke base s (Fl o (BL X.gl s))) fun v L=>if Hw L=true then(if Fs s (dnL (BH o) L)=true/\LM s (dnT (BH o) (v.tkR 2000))=true then K (.k1 ((v.Da 2000).ren (dn (BH o)) (rk (BH o))) (dnL (BH o) L) (dnT (BH o) (v.tkR 2000)))else none)
      else if Hj s (BH o) L=true/\JG s (BH o) (v.tkR 2000)=true then K (.k2 ((v.Da 2000).ren (dn (BH o)) (rk (BH o))) (s.ret false (Fl o (BL X.gl s)) (BH o) v L))else none
   |m=>KA X call (m==1) o (BL X.gl s) s fun v L=>if Hj s (BH o) L=true/\JG s (BH o) (v.tkR 2000)=true then K (.k2 ((v.Da 2000).ren (dn (BH o)) (rk (BH o))) (s.Wm (m==1) (Fl o (BL X.gl s)) (BH o) v L))else none))
 else if pK m o (BL X.gl s)=true then ekT X m (BH o) o (BL X.gl s) s fun v s1=>K (.k2 v s1)
 else if pE o (BL X.gl s)=true then Ua X o (BL X.gl s) (fun v=>K (.k0 v)) (ekI X m (BH o) o (BL X.gl s) s00 fun v lo tn=>if Li lo tn=true then K (.k0 v)else none)
 else if(q2V o (BL X.gl s)&& !(df m 4||df m 20))=true then ekI X m (BH o) o (BL X.gl s) s00 fun v lo tn=>if Li lo tn=true then K (.k0 v)else none
 else ekI X m (BH o) o (BL X.gl s) s fun v lo tn=>if Fs s lo=true/\LM s tn=true then K (.k1 v lo tn)else none
def Hf {R:Type} (X:Cx) (call:Ei R) (ext:EY) (ops:Array Oper) (yh:List Nat) (tbl:List (Nat × Nat)):List Oper->S->S->(List (Nat × Nat)->List Nat->S->Option R)->Option R
 | [],_,s,K=>K [] [] s|o::rest,base,s,K=>
  match o.guard with
  |none=>ekK X call ext (DP yh tbl o (BL X.gl s) s) o base s fun r=>match r with| .k0 v=>Hf X call ext ops yh tbl rest base (s.set o.dst v) fun ml ts s2=>K ((BH o,DP yh tbl o (BL X.gl s) s)::ml) (0::ts) s2| .k1 v lo tn=>Hf X call ext ops yh tbl rest base ((s.add lo tn).set o.dst v) fun ml ts s2=>K ((BH o,DP yh tbl o (BL X.gl s) s)::ml) (1::ts) s2| .k2 v s1=>Hf X call ext ops yh tbl rest ((s1.wA s.A).set o.dst v) ((s1.wA s.A).set o.dst v) fun ml ts s2=>K ((BH o,DP yh tbl o (BL X.gl s) s)::ml) (2::ts) s2
  |some (j,want)=>Ri ops s j want (fun s=>ekK X call ext (DP yh tbl o (BL X.gl s) s) o base s fun r=>match r with
    | .k0 v=>Hf X call ext ops yh tbl rest base (s.set o.dst v) fun ml ts s2=>K ((BH o,DP yh tbl o (BL X.gl s) s)::ml) (0::ts) s2| .k1 v lo tn=>Hf X call ext ops yh tbl rest base ((s.add lo tn).set o.dst v) fun ml ts s2=>K ((BH o,DP yh tbl o (BL X.gl s) s)::ml) (1::ts) s2| .k2 v s1=>Hf X call ext ops yh tbl rest ((s1.wA s.A).set o.dst v) ((s1.wA s.A).set o.dst v) fun ml ts s2=>K ((BH o,DP yh tbl o (BL X.gl s) s)::ml) (2::ts) s2)
    (fun s=>Hf X call ext ops yh tbl rest base (s.set o.dst (.tup [])) fun ml ts s2=>K ml (0::ts) s2)
section
variable {X:Cx} {R:Type} {call:Ei R} {ext:EY} (hc:JM X call) (he:Ig X ext)
include hc he
theorem Yc {ops:Array Oper} {yh:List Nat} {tbl:List (Nat × Nat)} {r:R}:∀(l:List Oper) (s:S) {K:List (Nat × Nat)->S->Option R},Mi X call ext ops yh tbl l s K=some r->
  ∃ml s2,K ml s2=some r/\s2.A=s.A/\∀A',leA s.A A'->∀md:List (Nat × Nat),(∀p∈ml,Ck md p.1=p.2)->∀Φ:S->Prop,Φ (s2.wA A')->vc X md ops Φ l (s.wA A')
 | [],s,K,h=>⟨_,_,h,rfl,fun A' hA md hm Φ hΦ=>hΦ⟩|o::rest,s,K,h=>by
  have go:(RS X call ext (DP yh tbl o (BL X.gl s) s) o s fun v s1=>Mi X call ext ops yh tbl rest ((s1.wA s.A).set o.dst v) fun ml s2=>K ((BH o,DP yh tbl o (BL X.gl s) s)::ml) s2)=some r->
    ∃ml s2,K ml s2=some r/\s2.A=s.A/\∀A',leA s.A A'->∀md:List (Nat × Nat),(∀p∈ml,Ck md p.1=p.2)->∀Φ:S->Prop,Φ (s2.wA A')->sop X md (BH o) o (s.wA A') fun v s'=>vc X md ops Φ rest (s'.set o.dst v):=by
   intro h;obtain⟨v,s1,h1,h2⟩:=q1E hc he h;obtain⟨ml,s2,h3,h4,h5⟩:=Yc rest _ h1;refine⟨_,s2,h3,by rw[h4,Dh];rfl,fun A' hA md hm Φ hΦ=>h2 A' hA md (hm (BH o,_) (ga ..)) _ ?_⟩;have:=h5 A' (by rw[Dh];exact hA) md (fun p hp=>hm p (fp _ hp)) Φ hΦ;rw[<-JE]at this;exact this
  simp only[Mi]at h;simp only[vc];cases hg:o.guard with
  |none=>
   rw[hg]at h;exact go h
  |some jw=>
   obtain⟨j,want⟩:=jw;rw[hg]at h;dsimp only at h ⊢;simp only[ZR];rcases ZO h with⟨h1,h2⟩|⟨h1,h2⟩;{obtain⟨ml,s2,h3,h4,h5⟩:=go h1;exact⟨ml,s2,h3,h4,fun A' hA md hm Φ hΦ=>h2 _ _ (h5 A' hA md hm Φ hΦ)⟩};{obtain⟨ml,s2,h3,h4,h5⟩:=Yc rest _ h1;refine⟨ml,s2,h3,by rw[h4,Dh],fun A' hA md hm Φ hΦ=>h2 _ _ ?_⟩;rw[JE];exact h5 A' (by rw[Dh];exact hA) md hm Φ hΦ}
theorem lQ {m:Nat} {o:Oper} {base s:S} (hb:∀k o,base.obj k=some o->s.obj k=some o) (hAb:base.A=s.A) {Kr:RD->Option R} {r:R} (h:ekK X call ext m o base s Kr=some r):
  ∃rd,Kr rd=some r/\(∀v lo tn,rd= .k1 v lo tn->Fs s lo=true)/\∀A',leA s.A A'->∀md:List (Nat × Nat),Ck md (BH o)=m->∀(K0:V->Prop) (K1:V->List (Key × O)->List (Nat × Option Nat)->Prop) (K2:V->S->Prop),RD.post s A' K0 K1 K2 rd->kop X md (some rd.kind) (base.wA A') (s.wA A') o K0 K1 K2:=by
 have z8N:∀A',leA s.A A'->leA base.A A':=fun A' hA=>by rw[hAb];exact hA
 unfold ekK at h;split at h
 ·split at h;{rename_i x e0;split at h;{refine⟨_,h,fun _ _ _ e=>(by cases e),fun A' hA md hm K0 K1 K2 hK=>?_⟩;simp only[kop,pc];rw[Fp];exact .inl (nA he e0 ⟨rfl,rfl,hK⟩)};{cases h}}
  ·split at h;{obtain⟨v,h1,h2⟩:=lW hc h;refine⟨_,h1,fun v' lo' tn' e=>(by cases e;rfl),fun A' hA md hm K0 K1 K2 hK=>?_⟩;simp only[kop,pc];rw[Fp];exact h2 A' hA md _ _ _ (hK trivial trivial rfl)};split at h;{obtain⟨v,L,h1,h2⟩:=Yb (dst:=BH o) (s:=s00) (base:=s00) hc (.inl rfl) h;simp only[az]at h1;obtain⟨h3,h1⟩:=h1;simp only[Li,bg,qv]at h3;refine⟨_,h1,fun _ _ _ e=>(by cases e),fun A' hA md hm K0 K1 K2 hK=>?_⟩;simp only[kop,pc];rw[Fp];have:=(h2 s00.A (fun _ _ h=>h) md fun v lo tn=>lo=[]/\tn=[]/\K0 v).1 (by rw[h3.1];rfl) ⟨by rw[h3.1];rfl,by rw[h3.2];rfl,hK⟩;exact .inl this};split at h
   ·obtain⟨v,L,h1,h2⟩:∃v L,(if Hw L=true then(if Fs s (dnL (BH o) L)=true/\LM s (dnT (BH o) (v.tkR 2000))=true then Kr (.k1 ((v.Da 2000).ren (dn (BH o)) (rk (BH o))) (dnL (BH o) L) (dnT (BH o) (v.tkR 2000)))else none)
      else if Hj s (BH o) L=true/\JG s (BH o) (v.tkR 2000)=true then Kr (.k2 ((v.Da 2000).ren (dn (BH o)) (rk (BH o))) (s.ret false (Fl o (BL X.gl s)) (BH o) v L))else none)=some r/\∀A',leA (Ke base s (Fl o (BL X.gl s))).A A'->∀(md:List (Nat × Nat)) (K:V->List (Key × O)->List (Nat × Option Nat)->Prop),(Hw L=true->K ((v.Da 2000).ren (dn (BH o)) (rk (BH o))) (dnL (BH o) L) (dnT (BH o) (v.tkR 2000))->iop X md (base.wA A') (BH o) o (BL X.gl s) (s.wA A') K)/\
   (Ck md (BH o)=0->(∀k o',(Ke base s (Fl o (BL X.gl s))).obj k=some o'->s.obj k=some o')->leA s.A A'->Hj s (BH o) L=true->JG s (BH o) (v.tkR 2000)=true->∀K2:V->S->Prop,K2 ((v.Da 2000).ren (dn (BH o)) (rk (BH o))) ((s.ret false (Fl o (BL X.gl s)) (BH o) v L).wA A')->top X md (BH o) o (BL X.gl s) (s.wA A') K2):=
     Yb hc (Wv base s _) h
    split at h1;{rename_i hl;simp only[az]at h1;obtain⟨h3,h1⟩:=h1;refine⟨_,h1,fun v' lo' tn' e=>(by cases e;exact h3.1),fun A' hA md hm K0 K1 K2 hK=>?_⟩;simp only[kop,pc];rw[Fp];exact(h2 A' (by rw[Wu];exact z8N A' hA) md K1).1 hl (hK (Rg h3.1) (Rh h3.2) h3.1)};{simp only[az]at h1;obtain⟨h3,h1⟩:=h1;refine⟨_,h1,fun _ _ _ e=>(by cases e),fun A' hA md hm K0 K1 K2 hK=>?_⟩;simp only[kop,pc];rw[Fp];exact(h2 A' (by rw[Wu];exact z8N A' hA) md (fun _ _ _=>True)).2 hm (yF hb) hA h3.1 h3.2 K2 hK}
   ·obtain⟨v,L,h1,hq,h2⟩:=lN (dst:=BH o) hc h;rw[hq]at h1;simp only[az]at h1;obtain⟨h3,h1⟩:=h1;refine⟨_,h1,fun _ _ _ e=>(by cases e),fun A' hA md hm K0 K1 K2 hK=>?_⟩;simp only[kop,pc];rw[Fp];exact h2 h3.1 h3.2 A' hA md (by rw[hm]) K2 hK
 ·split at h;{obtain⟨v,s1,h1,h2⟩:=Yg h;refine⟨_,h1,fun _ _ _ e=>(by cases e),fun A' hA md hm K0 K1 K2 hK=>?_⟩;simp only[kop,pc];rw[Fp];exact h2 A' hA md hm K2 hK}
  ·have z9F:(ekI X m (BH o) o (BL X.gl s) s00 fun v lo tn=>if Li lo tn=true then Kr (.k0 v)else none)=some r->
     ∃rd,Kr rd=some r/\(∀v lo tn,rd= .k1 v lo tn->Fs s lo=true)/\∀A',leA s.A A'->∀md:List (Nat × Nat),Ck md (BH o)=m->∀(K0:V->Prop) (K1:V->List (Key × O)->List (Nat × Option Nat)->Prop) (K2:V->S->Prop),RD.post s A' K0 K1 K2 rd->kop X md (some rd.kind) (base.wA A') (s.wA A') o K0 K1 K2:=by
    intro h;obtain⟨v,lo,tn,h1,h2⟩:=Ub h;simp only[az]at h1;obtain⟨h3,h1⟩:=h1;refine⟨_,h1,fun _ _ _ e=>(by cases e),fun A' hA md hm K0 K1 K2 hK=>?_⟩;simp only[kop,pc];rw[Fp];simp only[Li,bg,qv]at h3;exact .inl (h2 s00.A (fun _ _ h=>h) md s00 hm _ ⟨h3.1,h3.2,hK⟩)
   split at h;{rcases lP h with⟨v,h1,h2⟩|h;{refine⟨_,h1,fun _ _ _ e=>(by cases e),fun A' hA md hm K0 K1 K2 hK=>?_⟩;simp only[kop,pc];rw[Fp];exact .inr (h2 _ hK)};{exact z9F h}};split at h;{exact z9F h};{obtain⟨v,lo,tn,h1,h2⟩:=Ub h;simp only[az]at h1;obtain⟨h3,h1⟩:=h1;refine⟨_,h1,fun v' lo' tn' e=>(by cases e;exact h3.1),fun A' hA md hm K0 K1 K2 hK=>?_⟩;simp only[kop,pc];rw[Fp];exact h2 A' hA md _ hm _ (hK (Rg h3.1) (Rh h3.2) h3.1)}
theorem RT {ops:Array Oper} {yh:List Nat} {tbl:List (Nat × Nat)} {r:R}:∀(l:List Oper) (base s:S) {K:List (Nat × Nat)->List Nat->S->Option R},base.A=s.A->(∀k o,base.obj k=some o->s.obj k=some o)->Hf X call ext ops yh tbl l base s K=some r->
  ∃ml ts s2,K ml ts s2=some r/\s2.A=s.A/\∀A',leA s.A A'->∀md:List (Nat × Nat),(∀p∈ml,Ck md p.1=p.2)->∀Φ:S->Prop,Φ (s2.wA A')->vd X md ops Φ l ts (base.wA A') (s.wA A')
 | [],base,s,K,hAb,hb,h=>⟨_,_,_,h,rfl,fun A' hA md hm Φ hΦ=>hΦ⟩|o::rest,base,s,K,hAb,hb,h=>by
  have go:(ekK X call ext (DP yh tbl o (BL X.gl s) s) o base s fun r=>match r with
    | .k0 v=>Hf X call ext ops yh tbl rest base (s.set o.dst v) fun ml ts s2=>K ((BH o,DP yh tbl o (BL X.gl s) s)::ml) (0::ts) s2| .k1 v lo tn=>Hf X call ext ops yh tbl rest base ((s.add lo tn).set o.dst v) fun ml ts s2=>K ((BH o,DP yh tbl o (BL X.gl s) s)::ml) (1::ts) s2| .k2 v s1=>Hf X call ext ops yh tbl rest ((s1.wA s.A).set o.dst v) ((s1.wA s.A).set o.dst v) fun ml ts s2=>K ((BH o,DP yh tbl o (BL X.gl s) s)::ml) (2::ts) s2)=some r->
    ∃ml ts s2,K ml ts s2=some r/\s2.A=s.A/\∀A',leA s.A A'->∀md:List (Nat × Nat),(∀p∈ml,Ck md p.1=p.2)->∀Φ:S->Prop,Φ (s2.wA A')->kop X md ts.head? (base.wA A') (s.wA A') o (fun v=>vd X md ops Φ rest ts.tail (base.wA A') ((s.wA A').set o.dst v))
    (fun v lo tn=>GD (s.wA A') lo/\GG (s.wA A') tn/\vd X md ops Φ rest ts.tail (base.wA A') (((s.wA A').add lo tn).set o.dst v))
    (fun v s'=>vd X md ops Φ rest ts.tail (s'.set o.dst v) (s'.set o.dst v)):=by
   intro h;obtain⟨rd,h1,hf,h2⟩:=lQ hc he hb hAb h;cases rd with
   |k0 v=>
    obtain⟨ml,ts,s2,h3,h4,h5⟩:=RT rest base _ (by rw[Dh];exact hAb) (fun k o' hk=>by rw[IM];exact hb k o' hk) h1;refine⟨_,_,s2,h3,by rw[h4,Dh],fun A' hA md hm Φ hΦ=>h2 A' hA md (hm (BH o,_) (ga ..)) _ _ _ ?_⟩;have:=h5 A' (by rw[Dh];exact hA) md (fun p hp=>hm p (fp _ hp)) Φ hΦ;rw[<-JE]at this;exact this
   |k1 v lo tn=>
    have hfr:=hf v lo tn rfl;obtain⟨ml,ts,s2,h3,h4,h5⟩:=RT rest base _ (by rw[Dh];exact hAb) (fun k o' hk=>by rw[IM];exact bR hfr (hb k o' hk)) h1;refine⟨_,_,s2,h3,by rw[h4,Dh];rfl,fun A' hA md hm Φ hΦ=>h2 A' hA md (hm (BH o,_) (ga ..)) _ _ _ ?_⟩;intro f1 f2 f3;refine⟨f1,f2,?_⟩;have:=h5 A' (by rw[Dh];exact hA) md (fun p hp=>hm p (fp _ hp)) Φ hΦ;rw[<-JE]at this;exact this
   |k2 v s1=>
    obtain⟨ml,ts,s2,h3,h4,h5⟩:=RT rest ((s1.wA s.A).set o.dst v) ((s1.wA s.A).set o.dst v) rfl (fun _ _ h=>h) h1;refine⟨_,_,s2,h3,by rw[h4,Dh];rfl,fun A' hA md hm Φ hΦ=>h2 A' hA md (hm (BH o,_) (ga ..)) _ _ _ ?_⟩;have:=h5 A' (by rw[Dh];exact hA) md (fun p hp=>hm p (fp _ hp)) Φ hΦ;rw[<-JE]at this;exact this
  simp only[Hf]at h;simp only[vd];cases hg:o.guard with
  |none=>
   rw[hg]at h;exact go h
  |some jw=>
   obtain⟨j,want⟩:=jw;rw[hg]at h;dsimp only at h ⊢;simp only[ZR];rcases ZO h with⟨h1,h2⟩|⟨h1,h2⟩;{obtain⟨ml,ts,s2,h3,h4,h5⟩:=go h1;exact⟨ml,ts,s2,h3,h4,fun A' hA md hm Φ hΦ=>h2 _ _ (h5 A' hA md hm Φ hΦ)⟩};{obtain⟨ml,ts,s2,h3,h4,h5⟩:=RT rest base _ (by rw[Dh];exact hAb) (fun k o' hk=>by rw[IM];exact hb k o' hk) h1;refine⟨ml,_,s2,h3,by rw[h4,Dh],fun A' hA md hm Φ hΦ=>h2 _ _ ?_⟩;rw[JE];exact h5 A' (by rw[Dh];exact hA) md hm Φ hΦ}
end
end
section
theorem pO:∀(σ:List (Nat × List Nat)) (s:S) (k:Key),(Ev σ s).obj k=s.obj k
 | [],_,_=>rfl|(_,_)::σ,s,k=>(pO σ _ k).trans rfl
theorem q1J {R:Type} {X:Cx} {m dst:Nat} {o:Oper} {ρ:Operand->V} {s:S} {T:TypeId} {p y:Operand} {k:Key} {q:List Nat} {τ:Ty} (ho:o.op= .store T p y) (hp:ρ p= .ptr k q τ) {K:KS R} {r:R} (h:ekT X m dst o ρ s K=some r):
  ∃v s1,ekT X m dst o ρ s (fun v s1=>some (v,s1))=some (v,s1)/\K v s1=some r/\∀A' j,j≠k->(s1.wA A').obj j=(s.wA A').obj j:=by
 unfold ekT at h ⊢;generalize o.op=op at ho h ⊢;subst ho;dsimp only at h ⊢;generalize ρ p=pv at hp h ⊢;subst hp;dsimp only at h ⊢;have Cn:∀(ob:O) (A':Key->Option O) (j:Key),j≠k->((s.put k ob).wA A').obj j=(s.wA A').obj j:=fun ob A' j hj=>by show((s.wA A').put k ob).obj j=_;rw[EG,if_neg (fun e=>hj e.symm)]
 have y0f:∀(ob:O) (t:Nat) (A':Key->Option O) (j:Key),j≠k->(((s.put k ob).tok t none).wA A').obj j=(s.wA A').obj j:=fun ob t A' j hj=>(Cn ob A' j hj);generalize s.obj k=ok at h ⊢;cases ok with
 |none=>cases h
 |some ob=>
  cases ob with
  |box x=>
   dsimp only at h ⊢;simp only[az]at h;obtain⟨h1,h⟩:=h;rw[if_pos h1];generalize Cj τ (ρ y)=z at h ⊢;cases z with
   |sl eb e cs t=>
    dsimp only at h ⊢;generalize LX s t cs.length=lv at h ⊢;cases lv with
    |none=>exact⟨_,_,rfl,h,fun A' j hj=>Cn _ A' j hj⟩|some b=>
     cases b;{cases h};{exact⟨_,_,rfl,h,fun A' j hj=>y0f _ _ A' j hj⟩}
   |_=>
    dsimp only at h ⊢;generalize V.HT _ _=nb at h ⊢;cases nb;{cases h};{exact⟨_,_,rfl,h,fun A' j hj=>by rw[<-VI];exact(pO _ _ _).trans (Cn _ A' j hj)⟩}
  |_=>cases h
inductive RF where
 |k0 (v:V)|k1 (v:V) (lo:List (Key × O)) (tn:List (Nat × Option Nat))|k3 (v:V) (s:S)|k4 (v:V)
def RF.kind:RF->Nat
 | .k0 _=>0| .k1 _ _ _=>1| .k3 _ _=>3| .k4 _=>4
def RF.post (s:S) (A':Key->Option O) (K0:V->Prop) (K1:V->List (Key × O)->List (Nat × Option Nat)->Prop) (K2:V->S->Prop):RF->Prop
 | .k0 v=>K0 v| .k1 v lo tn=>GD (s.wA A') lo->GG (s.wA A') tn->Fs s lo=true->K1 v lo tn| .k3 v s1=>K2 v (s1.wA A')| .k4 v=>K0 v
def uC (F:List Key) (L:List (Key × O)):Bool:=F.all fun k=>(AZ L k).isNone
def noF (F:List Key) (k:Key):Bool:=F.all fun j=>decide (j≠k)
def yS (o:Oper) (ρ:Operand->V):Option Key:=match o.op with| .store _ p _=>(match ρ p with| .ptr k _ _=>some k|_=>none)|_=>none
def RM {R:Type} (X:Cx) (call:Ei R) (ext:EY) (F:List Key) (m:Nat) (o:Oper) (base s:S) (K:RF->Option R):Option R:=
 if df m 19=true then ekI X m (BH o) o (BL X.gl s) (sF F s) fun v lo tn=>if Li lo tn=true then K (.k4 v)else none
 else match yS o (BL X.gl s)with
 |some k=>if noF F k=true then ekT X m (BH o) o (BL X.gl s) s fun v s1=>K (.k3 v s1)else none
 |none=>if ZY o=true/\df m 0=true/\(RV ext o (BL X.gl s)).isNone=true then
    KA X call false o (BL X.gl s) (Ke base s (Fl o (BL X.gl s))) fun v L=>if Hw L=true then(if Fs s (dnL (BH o) L)=true/\LM s (dnT (BH o) (v.tkR 2000))=true then K (.k1 ((v.Da 2000).ren (dn (BH o)) (rk (BH o))) (dnL (BH o) L) (dnT (BH o) (v.tkR 2000)))else none)
      else if uC F (dnL (BH o) L)=true/\Hj s (BH o) L=true/\JG s (BH o) (v.tkR 2000)=true then K (.k3 ((v.Da 2000).ren (dn (BH o)) (rk (BH o))) (s.ret false (Fl o (BL X.gl s)) (BH o) v L))else none
   else ekK X call ext m o base s fun r=>match r with| .k0 v=>K (.k0 v)| .k1 v lo tn=>K (.k1 v lo tn)| .k2 _ _=>none
theorem q8C {F:List Key} {s:S} {A':Key->Option O} (hF:∀k∈F,s.obj k≠none) (hA:leA s.A A'):sF F (s.wA A')=sF F s:=by
 have:∀(G:List Key),(∀k∈G,s.obj k≠none)->G.filterMap (fun k=>((s.wA A').obj k).map fun o=>(k,o))=G.filterMap fun k=>(s.obj k).map fun o=>(k,o):=by
  intro G
  induction G with
  |nil=>intro _;rfl|cons k G ih=>
   intro h;simp only[List.filterMap_cons];have hk:=h k (ga ..);cases ho:s.obj k with
   |none=>exact absurd ho hk|some ob=>
    rw[Dz hA ho,ih fun j hj=>h j (fp _ hj)]
 unfold sF;rw[this F hF]
section
variable {X:Cx} {R:Type} {call:Ei R} {ext:EY} (hc:JM X call) (he:Ig X ext)
include hc he
theorem q1r {F:List Key} {m:Nat} {o:Oper} {base s:S} (hb:∀k o,base.obj k=some o->s.obj k=some o) (hAb:base.A=s.A) (hF:∀k∈F,s.obj k≠none) {Kr:RF->Option R} {r:R} (h:RM X call ext F m o base s Kr=some r):
  ∃rd,Kr rd=some r/\(∀v lo tn,rd= .k1 v lo tn->Fs s lo=true)/\(∀v s1,rd= .k3 v s1->∀A',∀k∈F,(s1.wA A').obj k=(s.wA A').obj k)/\
   ∀A',leA s.A A'->∀md:List (Nat × Nat),Ck md (BH o)=m->∀(K0:V->Prop) (K1:V->List (Key × O)->List (Nat × Option Nat)->Prop) (K2:V->S->Prop),RF.post s A' K0 K1 K2 rd->Jd X F md (some rd.kind) (base.wA A') (s.wA A') o K0 K1 K2:=by
 have z8N:∀A',leA s.A A'->leA base.A A':=fun A' hA=>by rw[hAb];exact hA
 unfold RM at h;split at h;{obtain⟨v,lo,tn,h1,h2⟩:=Ub h;simp only[az]at h1;obtain⟨h3,h1⟩:=h1;refine⟨_,h1,fun _ _ _ e=>(by cases e),fun _ _ e=>(by cases e),fun A' hA md hm K0 K1 K2 hK=>?_⟩;simp only[Li,bg,qv]at h3;simp only[Jd,RF.kind];rw[Fp,q8C hF hA];exact h2 (sF F s).A (fun _ _ h=>h) md (sF F s) hm _ ⟨h3.1,h3.2,hK⟩}
 ·split at h
  ·rename_i k hk;simp only[az]at h;obtain⟨hn,h⟩:=h;have hn':∀j∈F,j≠k:=by simpa[noF]using hn
   unfold yS at hk;split at hk;{rename_i T p y ho;split at hk;{rename_i k' q τ hp;cases hk;obtain⟨v,s1,g1,g2,g3⟩:=q1J ho hp h;obtain⟨v',s1',e1,h2⟩:=Yg g1;cases e1;refine⟨_,g2,fun _ _ _ e=>(by cases e),fun _ _ e=>(by cases e;exact fun A' j hj=>g3 A' j (hn' j hj)),fun A' hA md hm K0 K1 K2 hK=>?_⟩;simp only[Jd,RF.kind];rw[Fp];exact h2 A' hA md hm _ ⟨fun j hj=>g3 A' j (hn' j hj),hK⟩};{cases hk}};{cases hk}
  ·split at h
   ·rename_i hcl;obtain⟨v,L,h1,h2⟩:=Yb (dst:=BH o) hc (Wv base s _) h;split at h1;{rename_i hl;simp only[az]at h1;obtain⟨h3,h1⟩:=h1;refine⟨_,h1,fun v' lo' tn' e=>(by cases e;exact h3.1),fun _ _ e=>(by cases e),fun A' hA md hm K0 K1 K2 hK=>?_⟩;simp only[Jd,kop,RF.kind];rw[Fp];exact(h2 A' (by rw[Wu];exact z8N A' hA) md K1).1 hl (hK (Rg h3.1) (Rh h3.2) h3.1)}
    ·simp only[az]at h1;obtain⟨⟨ho,h3⟩,h1⟩:=h1;have ho':∀k∈F,AZ (dnL (BH o) L) k=none:=by simpa[uC,Option.isNone_iff_eq_none]using ho
     have kp:∀A',∀k∈F,((s.ret false (Fl o (BL X.gl s)) (BH o) v L).wA A').obj k=(s.wA A').obj k:=fun A' k hk=>by rw[<-dZ,xH];unfold S.back jt Cs;simp only[LZ,ho' k hk]
     refine⟨_,h1,fun _ _ _ e=>(by cases e),fun _ _ e=>(by cases e;exact kp),fun A' hA md hm K0 K1 K2 hK=>?_⟩;simp only[Jd,RF.kind];rw[Fp];exact(h2 A' (by rw[Wu];exact z8N A' hA) md (fun _ _ _=>True)).2 (hm.trans (ei hcl.2.1)) (yF hb) hA h3.1 h3.2 _ ⟨kp A',hK⟩
   ·obtain⟨rd,h1,hf,h2⟩:=lQ hc he hb hAb h;cases rd with|k0 v=>exact⟨_,h1,fun _ _ _ e=>(by cases e),fun _ _ e=>(by cases e),fun A' hA md hm K0 K1 K2 hK=>h2 A' hA md hm K0 K1 K2 hK⟩|k1 v lo tn=>exact⟨_,h1,fun _ _ _ e=>(by cases e;exact hf v lo tn rfl),fun _ _ e=>(by cases e),fun A' hA md hm K0 K1 K2 hK=>h2 A' hA md hm K0 K1 K2 hK⟩|k2 v s1=>cases h1
end
def GU {R:Type} (X:Cx) (call:Ei R) (ext:EY) (F:List Key) (ops:Array Oper) (yh:List Nat) (tbl:List (Nat × Nat)):List Oper->S->S->(List (Nat × Nat)->List Nat->S->Option R)->Option R
 | [],_,s,K=>K [] [] s|o::rest,base,s,K=>
  match o.guard with
  |none=>RM X call ext F (DP yh tbl o (BL X.gl s) s) o base s fun r=>match r with| .k0 v=>GU X call ext F ops yh tbl rest base (s.set o.dst v) fun ml ts s2=>K ((BH o,DP yh tbl o (BL X.gl s) s)::ml) (0::ts) s2| .k1 v lo tn=>GU X call ext F ops yh tbl rest base ((s.add lo tn).set o.dst v) fun ml ts s2=>K ((BH o,DP yh tbl o (BL X.gl s) s)::ml) (1::ts) s2| .k3 v s1=>GU X call ext F ops yh tbl rest ((s1.wA s.A).set o.dst v) ((s1.wA s.A).set o.dst v) fun ml ts s2=>K ((BH o,DP yh tbl o (BL X.gl s) s)::ml) (3::ts) s2| .k4 v=>GU X call ext F ops yh tbl rest base (s.set o.dst v) fun ml ts s2=>K ((BH o,DP yh tbl o (BL X.gl s) s)::ml) (4::ts) s2
  |some (j,want)=>Ri ops s j want (fun s=>RM X call ext F (DP yh tbl o (BL X.gl s) s) o base s fun r=>match r with
    | .k0 v=>GU X call ext F ops yh tbl rest base (s.set o.dst v) fun ml ts s2=>K ((BH o,DP yh tbl o (BL X.gl s) s)::ml) (0::ts) s2| .k1 v lo tn=>GU X call ext F ops yh tbl rest base ((s.add lo tn).set o.dst v) fun ml ts s2=>K ((BH o,DP yh tbl o (BL X.gl s) s)::ml) (1::ts) s2| .k3 v s1=>GU X call ext F ops yh tbl rest ((s1.wA s.A).set o.dst v) ((s1.wA s.A).set o.dst v) fun ml ts s2=>K ((BH o,DP yh tbl o (BL X.gl s) s)::ml) (3::ts) s2| .k4 v=>GU X call ext F ops yh tbl rest base (s.set o.dst v) fun ml ts s2=>K ((BH o,DP yh tbl o (BL X.gl s) s)::ml) (4::ts) s2)
    (fun s=>GU X call ext F ops yh tbl rest base (s.set o.dst (.tup [])) fun ml ts s2=>K ml (0::ts) s2)
section
variable {X:Cx} {R:Type} {call:Ei R} {ext:EY} (hc:JM X call) (he:Ig X ext)
include hc he
theorem PB {F:List Key} {ops:Array Oper} {yh:List Nat} {tbl:List (Nat × Nat)} {r:R}:∀(l:List Oper) (base s:S) {K:List (Nat × Nat)->List Nat->S->Option R},base.A=s.A->(∀k o,base.obj k=some o->s.obj k=some o)->(∀k∈F,s.obj k≠none)->GU X call ext F ops yh tbl l base s K=some r->
  ∃ml ts s2,K ml ts s2=some r/\s2.A=s.A/\∀A',leA s.A A'->∀md:List (Nat × Nat),(∀p∈ml,Ck md p.1=p.2)->∀Φ:S->Prop,Φ (s2.wA A')->vdF X F md ops Φ l ts (base.wA A') (s.wA A')
 | [],base,s,K,hAb,hb,hF,h=>⟨_,_,_,h,rfl,fun A' hA md hm Φ hΦ=>hΦ⟩|o::rest,base,s,K,hAb,hb,hF,h=>by
  have go:(RM X call ext F (DP yh tbl o (BL X.gl s) s) o base s fun r=>match r with
    | .k0 v=>GU X call ext F ops yh tbl rest base (s.set o.dst v) fun ml ts s2=>K ((BH o,DP yh tbl o (BL X.gl s) s)::ml) (0::ts) s2| .k1 v lo tn=>GU X call ext F ops yh tbl rest base ((s.add lo tn).set o.dst v) fun ml ts s2=>K ((BH o,DP yh tbl o (BL X.gl s) s)::ml) (1::ts) s2| .k3 v s1=>GU X call ext F ops yh tbl rest ((s1.wA s.A).set o.dst v) ((s1.wA s.A).set o.dst v) fun ml ts s2=>K ((BH o,DP yh tbl o (BL X.gl s) s)::ml) (3::ts) s2| .k4 v=>GU X call ext F ops yh tbl rest base (s.set o.dst v) fun ml ts s2=>K ((BH o,DP yh tbl o (BL X.gl s) s)::ml) (4::ts) s2)=some r->
    ∃ml ts s2,K ml ts s2=some r/\s2.A=s.A/\∀A',leA s.A A'->∀md:List (Nat × Nat),(∀p∈ml,Ck md p.1=p.2)->∀Φ:S->Prop,Φ (s2.wA A')->Jd X F md ts.head? (base.wA A') (s.wA A') o (fun v=>vdF X F md ops Φ rest ts.tail (base.wA A') ((s.wA A').set o.dst v))
    (fun v lo tn=>GD (s.wA A') lo/\GG (s.wA A') tn/\vdF X F md ops Φ rest ts.tail (base.wA A') (((s.wA A').add lo tn).set o.dst v))
    (fun v s'=>vdF X F md ops Φ rest ts.tail (s'.set o.dst v) (s'.set o.dst v)):=by
   intro h;obtain⟨rd,h1,hf,hk3,h2⟩:=q1r hc he hb hAb hF h;cases rd with
   |k0 v=>
    obtain⟨ml,ts,s2,h3,h4,h5⟩:=PB rest base _ (by rw[Dh];exact hAb) (fun k o' hk=>by rw[IM];exact hb k o' hk) (fun k hk=>by rw[IM];exact hF k hk) h1;refine⟨_,_,s2,h3,by rw[h4,Dh],fun A' hA md hm Φ hΦ=>h2 A' hA md (hm (BH o,_) (ga ..)) _ _ _ ?_⟩;have:=h5 A' (by rw[Dh];exact hA) md (fun p hp=>hm p (fp _ hp)) Φ hΦ;rw[<-JE]at this;exact this
   |k1 v lo tn=>
    have hfr:=hf v lo tn rfl
    obtain⟨ml,ts,s2,h3,h4,h5⟩:=PB rest base _ (by rw[Dh];exact hAb) (fun k o' hk=>by rw[IM];exact bR hfr (hb k o' hk)) (fun k hk=>by
     rw[IM];cases ho:s.obj k with
     |none=>exact absurd ho (hF k hk)|some ob=>rw[bR hfr ho];exact fun e=>by cases e) h1
    refine⟨_,_,s2,h3,by rw[h4,Dh];rfl,fun A' hA md hm Φ hΦ=>h2 A' hA md (hm (BH o,_) (ga ..)) _ _ _ ?_⟩;intro f1 f2 f3;refine⟨f1,f2,?_⟩;have:=h5 A' (by rw[Dh];exact hA) md (fun p hp=>hm p (fp _ hp)) Φ hΦ;rw[<-JE]at this;exact this
   |k3 v s1=>
    obtain⟨ml,ts,s2,h3,h4,h5⟩:=PB rest ((s1.wA s.A).set o.dst v) ((s1.wA s.A).set o.dst v) rfl (fun _ _ h=>h) (fun k hk=>by
     rw[IM,hk3 v s1 rfl s.A k hk];exact hF k hk) h1
    refine⟨_,_,s2,h3,by rw[h4,Dh];rfl,fun A' hA md hm Φ hΦ=>h2 A' hA md (hm (BH o,_) (ga ..)) _ _ _ ?_⟩;have:=h5 A' (by rw[Dh];exact hA) md (fun p hp=>hm p (fp _ hp)) Φ hΦ;rw[<-JE]at this;exact this
   |k4 v=>
    obtain⟨ml,ts,s2,h3,h4,h5⟩:=PB rest base _ (by rw[Dh];exact hAb) (fun k o' hk=>by rw[IM];exact hb k o' hk) (fun k hk=>by rw[IM];exact hF k hk) h1;refine⟨_,_,s2,h3,by rw[h4,Dh],fun A' hA md hm Φ hΦ=>h2 A' hA md (hm (BH o,_) (ga ..)) _ _ _ ?_⟩;have:=h5 A' (by rw[Dh];exact hA) md (fun p hp=>hm p (fp _ hp)) Φ hΦ;rw[<-JE]at this;exact this
  simp only[GU]at h;simp only[vdF];cases hg:o.guard with
  |none=>
   rw[hg]at h;exact go h
  |some jw=>
   obtain⟨j,want⟩:=jw;rw[hg]at h;dsimp only at h ⊢;simp only[ZR];rcases ZO h with⟨h1,h2⟩|⟨h1,h2⟩;{obtain⟨ml,ts,s2,h3,h4,h5⟩:=go h1;exact⟨ml,ts,s2,h3,h4,fun A' hA md hm Φ hΦ=>h2 _ _ (h5 A' hA md hm Φ hΦ)⟩};{obtain⟨ml,ts,s2,h3,h4,h5⟩:=PB rest base _ (by rw[Dh];exact hAb) (fun k o' hk=>by rw[IM];exact hb k o' hk) (fun k hk=>by rw[IM];exact hF k hk) h1;refine⟨ml,_,s2,h3,by rw[h4,Dh],fun A' hA md hm Φ hΦ=>h2 _ _ ?_⟩;rw[JE];exact h5 A' (by rw[Dh];exact hA) md hm Φ hΦ}
end
end
section
def q2Y (tbl:List (Nat × Nat)):List Key:=tbl.filterMap fun p=>bif df p.2 19 then(bif Nat.ble 3000000 p.1 then some (.g (.l (p.1-3000000)))else bif Nat.ble 2000000 p.1 then some (.l (p.1-2000000))else none)else none
def Yd {R:Type} (X:Cx) (call:Ei R) (ext:EY) (tbl:List (Nat × Nat)) (n:Nat) (ops:List Oper) (draw:Bool) (s:S) (K:S->Option R):Option R:=
 if ops.all (IP n)=true then
  (match draw with
  |true=>(match q2Y tbl with| []=>Hf X call ext ops.toArray (Tv ops) tbl ops s s fun ml ts s2=>if Pc ml ml=true/\Pj ops ts=true then K s2 else none|k::F=>if(k::F).all (fun k=>(s.obj k).isSome)=true then GU X call ext (k::F) ops.toArray (Tv ops) tbl ops s s fun ml ts s2=>if Pc ml ml=true/\Pj ops (ts.map tK)=true then K s2 else none else none)|false=>Mi X call ext ops.toArray (Tv ops) tbl ops s fun ml s2=>if Pc ml ml=true then K s2 else none)
 else none
abbrev KE (R:Type):=Exit->S->Option R
def RO {R:Type} (body:S->KE R->Option R) (Cn:List Nat):Nat->S->KE R->Option R
 |0,_,_=>none|k+1,s,K=>body s fun e s1=>match e with| .normal=>if gcB Cn s1=true then RO body Cn k (gcS Cn s1) K else none|e=>K e s1
section
variable {X:Cx} {R:Type} {call:Ei R} {ext:EY} (hP:BS X.P=true) (hmo:X.P.follows .mixedOrders=true) (hc:JM X call) (he:Ig X ext)
def MK (X:Cx) (n:Nat) (c:Code) (s:S) {R:Type} (r:R) (K:KE R):Prop:=
 ∃e s',K e s'=some r/\s'.A=s.A/\∀A',leA s.A A'->∀Ψ:Exit->S->Prop,Ψ e (s'.wA A')->DC X n c (s.wA A') Ψ
theorem lT {c:Code} {n:Nat} {Cn:List Nat} {body:S->KE R->Option R} {r:R} (hb:∀s (K:KE R),body s K=some r->MK X n c s r K):
  ∀(k:Nat) (s:S) (K:KE R),RO body Cn k s K=some r->∃e s',K e s'=some r/\s'.A=s.A/\∀A',leA s.A A'->∀Ψ:Exit->S->Prop,Ψ e (s'.wA A')->∀(Γ0:G) (a:Act) (w:World),At X n Γ0 (s.wA A') a w->Code.rounds X.P c (fun e a w=>∃s',Ψ e s'/\At X n Γ0 s' a w) k a w
 |0,s,K,h=>by simp[RO]at h
 |k+1,s,K,h=>by
  simp only[RO]at h;obtain⟨e0,s1,h1,hA1,hD⟩:=hb _ _ h;have z8O:∀(hne:e0≠.normal),K e0 s1=some r->∃e s',K e s'=some r/\s'.A=s.A/\∀A',leA s.A A'->∀Ψ:Exit->S->Prop,Ψ e (s'.wA A')->∀(Γ0:G) (a:Act) (w:World),At X n Γ0 (s.wA A') a w->Code.rounds X.P c (fun e a w=>∃s',Ψ e s'/\At X n Γ0 s' a w) (k+1) a w:=by
   intro hne h1;refine⟨e0,s1,h1,hA1,fun A' hA Ψ hΨ Γ0 a w hat=>?_⟩;rw[rounds_succ];refine wp_mono (hD A' hA (fun e1 s2=>e1=e0/\s2=s1.wA A') ⟨rfl,rfl⟩ Γ0 a w hat) ?_;rintro e1 a1 w1 ⟨s2,⟨rfl,rfl⟩,z8x⟩;cases e1 with
   |normal=>exact absurd rfl hne|exit _|goto _|ret|panic _|outgrown=>exact⟨_,hΨ,z8x⟩
  cases e0 with
  |normal=>
   simp only[az]at h1;obtain⟨h2,h1⟩:=h1;obtain⟨e,s',h3,h4,h5⟩:=lT hb k (gcS Cn s1) K h1;refine⟨e,s',h3,by rw[h4];exact hA1,fun A' hA Ψ hΨ Γ0 a w hat=>?_⟩;have hA2:leA (gcS Cn s1).A A':=by show leA s1.A A';rw[hA1];exact hA
   rw[rounds_succ];refine wp_mono (hD A' hA (fun e1 s2=>e1= .normal/\s2=s1.wA A') ⟨rfl,rfl⟩ Γ0 a w hat) ?_;rintro e1 a1 w1 ⟨s2,⟨rfl,rfl⟩,z8x⟩;exact h5 A' hA2 Ψ hΨ Γ0 a1 w1 (q2e A' h2 Γ0 a1 w1 z8x)
  |exit _|goto _|ret|panic _|outgrown=>exact z8O (by simp) h1
include hP hmo hc he
theorem q1w {tbl:List (Nat × Nat)} {n id:Nat} {ops:List Oper} {draw:Bool} {s:S} {r:R} {K:S->Option R} (h:Yd X call ext tbl n ops draw s K=some r):
  ∃s',K s'=some r/\s'.A=s.A/\∀A',leA s.A A'->∀Ψ:Exit->S->Prop,Ψ .normal (s'.wA A')->DC X n (.region id ops.toArray draw) (s.wA A') Ψ:=by
 unfold Yd at h;simp only[az]at h;obtain⟨h1,h⟩:=h;cases draw with
 |true=>
  dsimp only at h;split at h;{obtain⟨ml,ts,s2,h2,h3,h4⟩:=RT hc he ops s s rfl (fun _ _ h=>h) h;simp only[az]at h2;obtain⟨⟨h5,h6⟩,h2⟩:=h2;exact⟨s2,h2,h3,fun A' hA Ψ hΨ=>q0x hP hmo ml ts h1 h6 (h4 A' hA ml (Vn h5) _ hΨ)⟩}
  ·rename_i k F _;simp only[az]at h;obtain⟨hq,h⟩:=h;have hF:∀j∈k::F,s.obj j≠none:=fun j hj e=>by have:=dv.1 hq j hj;rw[e]at this;cases this
   obtain⟨ml,ts,s2,h2,h3,h4⟩:=PB hc he ops s s rfl (fun _ _ h=>h) hF h;simp only[az]at h2;obtain⟨⟨h5,h6⟩,h2⟩:=h2;refine⟨s2,h2,h3,fun A' hA Ψ hΨ=>q0y hP hmo (k::F) ml ts h1 h6 (fun j hj e=>?_) (h4 A' hA ml (Vn h5) _ hΨ)⟩;cases ho:s.obj j with
   |none=>exact hF j hj ho|some ob=>rw[Dz hA ho]at e;cases e
 |false=>
  obtain⟨ml,s2,h2,h3,h4⟩:=Yc hc he ops s h;simp only[az]at h2;obtain⟨h5,h2⟩:=h2;exact⟨s2,h2,h3,fun A' hA Ψ hΨ=>DE hP ml h1 (h4 A' hA ml (Vn h5) _ hΨ)⟩
end
def Pl {R:Type} (s:S):List V->(List V->Option R)->Option R
 | [],K=>K []|x::xs,K=>(match x with| .sl eb e cs t=>(match LX s t cs.length with|some b=>bif b then Pl s xs (fun vs=>K (.ts eb e cs::vs))else none|none=>Pl s xs (fun vs=>K (.d (.slice eb e) (.slice cs)::vs)))|x=>Pl s xs (fun vs=>K (x.GI::vs)))
theorem WD {R:Type} {s:S} {r:R}:∀{xs:List V} {K:List V->Option R},Pl s xs K=some r->K (JA s xs)=some r
 | [],K,h=>h|x::xs,K,h=>by
  simp only[Pl]at h;split at h
  ·rename_i eb e cs t;split at h
   ·rename_i b e0;cases b with
    |false=>cases h
    |true=>
     have hl:=Zx e0;have:=WD (xs:=xs) h;simp only[JA,NS,if_pos hl];exact this
   ·rename_i e0;have hl:s.live t=none:=by unfold LX at e0;split at e0;{cases e0};{rename_i e5;exact e5}
    have:=WD (xs:=xs) h;simp only[JA,NS];rw[if_neg (by rw[hl];simp)];exact this
  ·rename_i hx;have:=WD (xs:=xs) h;simp only[JA];have e:NS s x=x.GI:=by cases x <;> first|rfl|exact(hx _ _ _ _ rfl).elim
   rw[e];exact this
def lV {R:Type} (X:Cx) (fn:Func) (s:S) (K:V->List (Key × O)->Option R):Option R:=
 Pl s (Fh X s fn.results.toList) fun vs=>
  if TI X s fn.results.toList=true/\SL (Fh X s fn.results.toList)=true/\Gb (Cd (Gy s.loc (reach s.loc 100000 (V.KK vs++Jb s.loc) []) s.loc)) vs=true/\HB (JF (GN 2000 (Fh X s fn.results.toList) vs))=true/\Kw (Gy s.loc (reach s.loc 100000 (V.KK vs++Jb s.loc) []) s.loc)=true/\
   Fy (Cd (Gy s.loc (reach s.loc 100000 (V.KK vs++Jb s.loc) []) s.loc)) CQ (Gy s.loc (reach s.loc 100000 (V.KK vs++Jb s.loc) []) s.loc)=true/\Ik (Gy s.loc (reach s.loc 100000 (V.KK vs++Jb s.loc) []) s.loc) s.loc=true then
   K (cD vs) (Gy s.loc (reach s.loc 100000 (V.KK vs++Jb s.loc) []) s.loc)else none
theorem q1x {X:Cx} {fn:Func} {s:S} {R:Type} {r:R} {K:V->List (Key × O)->Option R} (h:lV X fn s K=some r):∃v L,K v L=some r/\∀A',leA s.A A'->Ez X fn A' v L (s.wA A'):=by have h:=WD h;simp only[az]at h;obtain⟨h1,h⟩:=h;refine⟨_,_,h,fun A' hA=>q1S hA ?_⟩;simp only[Yp,if_pos h1]
abbrev OvK (R:Type):=FuncId->Option (List V->(Key->Option O)->(V->List (Key × O)->Option R)->Option R)
def Xd (X:Cx) {R:Type} (ov:OvK R):Prop:=∀f g,ov f=some g->∀xs A Kr r,g xs A Kr=some r->∃v L,Cc X f xs A v L/\Kr v L=some r
section
variable {X:Cx} {R:Type} {ov:OvK R} {ext:EY} (hP:BS X.P=true) (hmo:X.P.follows .mixedOrders=true) (hov:Xd X ov) (he:Ig X ext)
include hP hmo hov he
end
abbrev kR:V->List (Key × O)->Option (V × List (Key × O)):=fun v L=>some (v,L)
end
section
section
variable {e:Exit} {s:S} {Q:Exit->S->Prop} {T T':Option (Exit × S)}
end
theorem DC.post {X:Cx} {n:Nat} {c:Code} {s:S} {Ψ Ψ':Exit->S->Prop} (h:DC X n c s Ψ) (hq:∀e s,Ψ e s->∃s',EI X n s s'/\Ψ' e s'):DC X n c s Ψ':=
 fun Γ0 a w hat=>wp_mono (h Γ0 a w hat) fun e a w ⟨s1,h1,h2⟩=>by obtain⟨s2,h3,h4⟩:=hq e s1 h1;exact⟨s2,h4,h3 Γ0 a w h2⟩
abbrev OvG (R:Type):=List V->(Key->Option O)->(V->List (Key × O)->Option R)->Option R
def GOk (X:Cx) (f:FuncId) {R:Type} (g:OvG R):Prop:=∀xs A Kr r,g xs A Kr=some r->∃v L,Cc X f xs A v L/\Kr v L=some r
def KL {R:Type}:List (FuncId × OvG R)->FuncId->Option (OvG R)
 | [],_=>none|(f,g)::l,i=>bif df f i then some g else KL l i
structure OvS (X:Cx) where
 g:(R:Type)->List (FuncId × OvG R)
 ok:∀R,∀p∈g R,GOk X p.1 p.2
theorem rJ {R:Type}:∀{l:List (FuncId × OvG R)} {f:FuncId} {g:OvG R},KL l f=some g->(f,g)∈l
 |(j,y)::l,f,g,h=>by
  simp only[KL]at h;cases hb:df j f with
  |true=>
   rw[hb]at h;cases h;rw[ei hb];exact ga ..
  |false=>
   rw[hb]at h;exact fp _ (rJ h)
def OvS.ov {X:Cx} (o:OvS X) (R:Type):OvK R:=fun f=>KL (o.g R) f
theorem OvS.cC {X:Cx} (o:OvS X) (R:Type):Xd X (o.ov R):=fun f g h=>o.ok R (f,g) (rJ h)
theorem q0C {X:Cx} {f:FuncId} {eb:Nat} {e:Ty} {A:Key->Option O} {v:List C->V} {L:List C->List (Key × O)} (h:∀cs,Cc X f [.d (.slice eb e) (.slice cs)] A (v cs) (L cs)) (c:C):Cc X f [.d (.slice eb e) c] A (v c.elems) (L c.elems):=by intro A' Γ w args hA hg hc hn hr;have hs:args.size=1:=hn.symm;have h0:AK Γ (.d (.slice eb e) c) args[0]:=hr 0 _ _ rfl (Array.getElem?_eq_getElem (by omega:0<args.size));obtain⟨h1,_⟩:=(Ch rfl rfl).1 h0;simp only[AA,AU]at h1;obtain⟨_,_,_,cs,rfl,_⟩:=h1;exact h cs A' Γ w args hA hg hc hn hr
def MZ {R:Type} (eb:Nat) (e:Ty):OvG R:=fun xs _ K=>match xs with| [.d (.slice eb' e') c]=>if eb'=eb/\e'=e then K (.ts eb e c.elems) []else none|_=>none
theorem Qr {X:Cx} {f:FuncId} {eb:Nat} {e:Ty} (h:∀(A:Key->Option O) cs,Cc X f [.d (.slice eb e) (.slice cs)] A (.ts eb e cs) []) {R:Type}:GOk X f (MZ (R:=R) eb e):=by intro xs A Kr r hr;unfold MZ at hr;split at hr;{simp only[az]at hr;obtain⟨⟨rfl,rfl⟩,hr⟩:=hr;exact⟨_,_,q0C (v:=fun cs=>.ts _ _ cs) (L:=fun _=>[]) (h A) _,hr⟩};{cases hr}
theorem qP {A A':Key->Option O} (h:∀k,A k=none):leA A A':=fun k o e=>by rw[h k]at e;cases e
end
def Ce (f:Nat->Nat):Key->Key
 | .l n=>.l (f n)| .g k=>.g k
def S.ren (s:S) (f g:Nat->Nat):S:=
 ⟨s.env.map fun p=>(p.1,p.2.ren (Ce f) g),s.loc.map fun p=>(Ce f p.1,p.2.ren (Ce f)),s.A,s.tk.map fun p=>(g p.1,p.2)⟩
def GX:List (Key × O)->List Nat
 | []=>[]|(.l n,_)::l=>n::GX l|(.g _,_)::l=>GX l
def Gj:List (Nat × Option Nat)->List Nat
 | []=>[]|(t,_)::l=>t::Gj l
def KH (f:Nat->Nat) (l:List Nat):Bool:=l.all fun a=>l.all fun b=> !(df (f a) (f b))||df a b
theorem oZ {f:Nat->Nat} {l:List Nat} (h:KH f l=true) {a b:Nat} (ha:a∈l) (hb:b∈l) (e:f a=f b):a=b:=by simp only[KH,dv]at h;have:=h a ha b hb;rw[e,Nat.beq_refl]at this;simpa[Nat.beq_eq]using this
theorem Rn:∀{l:List (Key × O)} {n:Nat},AZ l (.l n)≠none->n∈GX l
 | [],_,h=>by simp[AZ]at h
 |(.l m,o)::l,n,h=>by simp only[AZ]at h;simp only[GX,ij];by_cases e:m=n;{exact .inl e.symm};{rw[if_neg (by intro e';cases e';exact e rfl)]at h;exact .inr (Rn h)}
 |(.g m,o)::l,n,h=>by simp only[AZ]at h;rw[if_neg (by intro e';cases e')]at h;exact Rn (l:=l) h
theorem aH {f:Nat->Nat}:∀{l:List (Key × O)} {k':Key} {o':O},AZ (l.map fun p=>(Ce f p.1,p.2.ren (Ce f))) k'=some o'->∃k o,Ce f k=k'/\AZ l k=some o/\o'=o.ren (Ce f)
 | [],_,_,h=>by simp[AZ]at h
 |(j,p)::l,k',o',h=>by simp only[dt,AZ]at h;by_cases e:Ce f j=k';{rw[if_pos e]at h;cases h;exact⟨j,p,e,by simp[AZ],rfl⟩};{rw[if_neg e]at h;obtain⟨k,o,h1,h2,h3⟩:=aH h;refine⟨k,o,h1,?_,h3⟩;simp only[AZ];rw[if_neg (fun e'=>e (by rw[e'];exact h1))];exact h2}
theorem Rz {f:Nat->Nat}:∀{l:List (Key × O)} {k:Key},AZ (l.map fun p=>(Ce f p.1,p.2.ren (Ce f))) (.g k)=(AZ l (.g k)).map fun o=>o.ren (Ce f)
 | [],_=>rfl|(.l m,p)::l,k=>by simp only[dt,AZ,Ce];rw[if_neg (by intro e;cases e),if_neg (by intro e;cases e)];exact Rz
 |(.g m,p)::l,k=>by simp only[dt,AZ,Ce];by_cases e:Key.g m= .g k;{rw[if_pos e,if_pos e];rfl};{rw[if_neg e,if_neg e];exact Rz}
theorem rT {g:Nat->Nat}:∀{l:List (Nat × Option Nat)} {u:Nat} {x:Option Nat},look (l.map fun p=>(g p.1,p.2)) u=some x->∃t,g t=u/\look l t=some x/\t∈Gj l
 | [],_,_,h=>by simp[look]at h
 |(j,p)::l,u,x,h=>by simp only[dt,look]at h;by_cases e:g j=u;{rw[if_pos e]at h;cases h;exact⟨j,e,by simp[look],by simp[Gj]⟩};{rw[if_neg e]at h;obtain⟨t,h1,h2,h3⟩:=rT h;refine⟨t,h1,?_,by simp[Gj,h3]⟩;simp only[look];rw[if_neg (fun e'=>e (by rw[e'];exact h1))];exact h2}
theorem pT {g:Nat->Nat}:∀{l:List (Nat × Option Nat)} {t:Nat},t∈Gj l->(look (l.map fun p=>(g p.1,p.2)) (g t)).isSome=true
 | [],_,h=>by simp[Gj]at h
 |(j,p)::l,t,h=>by simp only[Gj,ij]at h;simp only[dt,look];by_cases e:g j=g t;{rw[if_pos e];rfl};{rw[if_neg e];rcases h with h|h;{subst h;exact absurd rfl e};{exact pT h}}
theorem yU:∀{l:List (Nat × Option Nat)} {t:Nat},(look l t).isSome=true->t∈Gj l
 | [],_,h=>by simp[look]at h
 |(j,p)::l,t,h=>by simp only[look]at h;simp only[Gj,ij];by_cases e:j=t;{exact .inl e.symm};{rw[if_neg e]at h;exact .inr (yU h)}
theorem aL {f:V->V}:∀(l:List (Nat × V)) (i:Nat),look (l.map fun p=>(p.1,f p.2)) i=(look l i).map f
 | [],_=>rfl|(j,x)::l,i=>by simp only[dt,look];by_cases e:j=i;{rw[if_pos e,if_pos e];rfl};{rw[if_neg e,if_neg e];exact aL l i}
theorem q2k (s:S) (f g:Nat->Nat) (i:Nat):(s.ren f g).get i=(s.get i).ren (Ce f) g:=by unfold S.get S.ren;rw[aL];cases look s.env i <;> rfl
mutual
theorem V.TA {f g:Nat->Nat}:∀(x:V),x.ok CQ CQ=true->x.ren (Ce f) g=x
 | .sl _ _ _ t,h=>by simp[V.ok,CQ]at h
 | .ptr (.l k) _ _,h| .mp (.l k),h| .sr (.l k) _ _ _ _ _ _,h=>by simp[V.ok,CQ]at h
 | .agg _ vs,h| .fn _ vs,h| .tup vs,h=>by simp only[V.ok]at h;simp only[V.ren,V.wW vs h]
 | .ptr (.g _) _ _,_| .mp (.g _),_| .sr (.g _) _ _ _ _ _ _,_| .d _ _,_| .ts _ _ _,_| .emp _ _,_| .ye,_| .yf _ _,_| .top _,_| .any,_=>by simp[V.ren,Ce]
theorem V.wW {f g:Nat->Nat}:∀(xs:List V),vg CQ CQ xs=true->V.Dt (Ce f) g xs=xs
 | [],_=>rfl|x::xs,h=>by simp only[vg,bg]at h;simp only[V.Dt,V.TA x h.1,V.wW xs h.2]
end
theorem mT {f:Nat->Nat}:∀{es:List (C × V)},V.Ds CQ CQ es=true->es.map (fun c=>(c.1,c.2.ren (Ce f) id))=es
 | [],_=>rfl|x::xs,h=>by simp only[V.Ds,bg]at h;simp only[dt,V.TA x.2 h.1,mT h.2]
theorem O.TA {f:Nat->Nat} {o:O} (h:o.ok CQ CQ=true):o.ren (Ce f)=o:=by
 cases o with
 |box x=>simp only[O.ren];rw[V.TA x h]|map kτ vτ es=>
  simp only[O.ren];rw[mT h];cases vτ.FG <;> rfl
 |it=>rfl|dead=>rfl
def Tip.ren (f g:Nat->Nat):Tip->Tip
 | .tok t=>.tok (g t)| .home k p=>.home (Ce f k) p
def G.GK (Γ:G) (s:S) (f g:Nat->Nat):G:=
 {Γ with
  ι:=fun k=>match k with| .g k=>Γ.ι (.g k)| .l m=>match(GX s.loc).find? (fun n=>decide (f n=m))with|some n=>Γ.ι (.l n)|none=>none
  τ:=fun u=>match(Gj s.tk).find? (fun t=>decide (g t=u))with|some t=>Γ.τ t|none=>none
  κ:=fun b=>(Γ.κ b).map fun p=>(p.1.ren f g,p.2)}
theorem nL {f:Nat->Nat} {l:List Nat} (h:KH f l=true) {n:Nat} (hn:n∈l):l.find? (fun a=>decide (f a=f n))=some n:=by
 cases hf:l.find? (fun a=>decide (f a=f n))with
 |none=>
  have:=List.find?_eq_none.1 hf n hn;simp at this
 |some a=>
  have h1:=sd hf;have h2:=sv hf;rw[oZ h h2 hn (by simpa using h1)]
theorem bS {s:S} {n:Nat}:s.obj (.l n)=AZ s.loc (.l n):=by unfold jt Cs;cases AZ s.loc (.l n) <;> rfl
theorem z0q {X:Cx} {n:Nat} {s:S} (f g:Nat->Nat) (hf:KH f (GX s.loc)=true) (hg:KH g (Gj s.tk)=true):EI X n s (s.ren f g):=by
 rintro Γ0 a w ⟨Γ,g1,g3,c,hs,hn,hfr,hA⟩
 have lin:∀m x,Γ.ι (.l m)=some x->m∈GX s.loc:=fun m x h=>Rn (by
  have:=c.dom (.l m) (by rw[h];simp)
  rwa [bS]at this)
 have tin:∀t x,Γ.τ t=some x->t∈Gj s.tk:=fun t x h=>yU (c.yu t (by rw[h];simp));have ιl:∀m,m∈GX s.loc->(Γ.GK s f g).ι (.l (f m))=Γ.ι (.l m):=fun m hm=>by simp only[G.GK,nL hf hm]
 have y0g:∀k,s.obj k≠none->Γ.ι k=none->(Γ.GK s f g).ι (Ce f k)=none:=by
  intro k ho hn;cases k with
  |g k=>exact hn|l m=>
   have hm:m∈GX s.loc:=Rn (by rw[<-bS];exact ho);exact(ιl m hm).trans hn
 have ιk:∀k x,Γ.ι k=some x->(Γ.GK s f g).ι (Ce f k)=some x:=by
  intro k x h;cases k with
  |g k=>exact h|l m=>exact(ιl m (lin m x h)).trans h
 have τk:∀t x,Γ.τ t=some x->(Γ.GK s f g).τ (g t)=some x:=by intro t x h;simp only[G.GK,nL hg (tin t x h)];exact h
 have back:∀k' x,(Γ.GK s f g).ι k'=some x->∃k,Ce f k=k'/\Γ.ι k=some x:=by
  intro k' x h;cases k' with
  |g k=>exact⟨.g k,rfl,h⟩|l m=>
   simp only[G.GK]at h;split at h;{rename_i n' hfd;exact⟨.l n',by simp only[Ce];rw[show f n'=m by simpa using sd hfd],h⟩};{cases h}
 have pr:∀hm,HH Γ (Γ.GK s f g) (Ce f) hm:=fun hm=>⟨Hp.le_refl _,ιk,fun _ _ h=>h,fun k b p sz _ hk=>⟨by simp[G.GK,hk,Tip.ren],rfl⟩⟩;have z9Y:∀k x,Γ.ι k=some x->(s.ren f g).obj (Ce f k)≠none:=by
  intro k x h1;cases k with
  |l m=>
   have hm:=lin m x h1;show jt (s.ren f g) (.l (f m))≠none;rw[bS];intro y0h;have key:∀{l:List (Key × O)},m∈GX l->AZ (l.map fun p=>(Ce f p.1,p.2.ren (Ce f))) (.l (f m))≠none:=by
    intro l
    induction l with
    |nil=>intro h;simp[GX]at h|cons p l ih=>
     obtain⟨j,o⟩:=p;intro h;simp only[dt,AZ];by_cases e:Ce f j= .l (f m);{rw[if_pos e];simp}
     ·rw[if_neg e];cases j with
      |g j=>exact ih (by simpa[GX]using h)|l j=>
       simp only[GX,ij]at h;rcases h with rfl|h;{exact absurd rfl e};{exact ih h}
   exact key hm y0h
  |g k=>
   have h2:=c.dom (.g k) (by rw[h1];simp);show jt (s.ren f g) (.g k)≠none;unfold jt Cs at h2 ⊢;rw[show AZ (s.ren f g).loc (.g k)=_ from Rz];cases hl:AZ s.loc (.g k)with
   |none=>rw[hl]at h2;exact h2|some o=>simp
 have yv:∀k x,Γ.ι k=some x->s.CY k=true->(s.ren f g).CY (Ce f k)=true:=by
  intro k x h1 hd;cases ho':(s.ren f g).obj (Ce f k)with
  |none=>exact absurd ho' (z9Y k x h1)|some o1=>
   rw[FV ho'];cases hl:AZ (s.ren f g).loc (Ce f k)with
   |some o2=>
    have e:o2=o1:=by unfold jt Cs at ho';rw[hl]at ho';exact Option.some.inj ho'
    subst e;obtain⟨k2,o,h2,h3,rfl⟩:=aH hl;have hk:k2=k:=by
     cases k with
     |g k=>cases k2 with|g k2=>simpa[Ce]using h2|l m2=>simp[Ce]at h2
     |l m=>cases k2 with
      |g k2=>simp[Ce]at h2|l m2=>
       simp only[Ce,Key.l.injEq]at h2;rw[oZ hf (Rn (by rw[h3];simp)) (lin m x h1) h2]
    subst hk;rw[O.Sz];rw[FV (Vv h3)]at hd;exact hd
   |none=>
    cases k with
    |l m=>unfold jt Cs at ho';rw[show Ce f (.l m)= .l (f m) from rfl]at ho' hl;rw[hl]at ho';cases ho'
    |g k=>
     have h0:AZ s.loc (.g k)=none:=by
      have:=Rz (f:=f) (l:=s.loc) (k:=k);rw[show AZ (s.loc.map _) (.g k)=none from hl]at this;cases hx:AZ s.loc (.g k)with
      |none=>rfl|some y=>rw[hx]at this;cases this
     have e1:(s.ren f g).obj (.g k)=s.A k:=by unfold jt Cs;rw[show AZ (s.ren f g).loc (.g k)=none from hl];rfl
     have e2:s.obj (.g k)=s.A k:=by unfold jt Cs;rw[h0]
     rw[FV (e2.trans (e1.symm.trans ho'))]at hd;exact hd
 refine⟨Γ.GK s f g,⟨g1.H,g1.Z,g1.ZH,g1.g,g1.gl,g1.oo,g1.σ,g1.gn⟩,g3,?_,fun i=>?_,hn,hfr,hA⟩
 ·refine⟨c.hH,c.hZ,fun b o sz h=>?_,fun k' o' h=>?_,fun k' h=>?_,fun k k' b τ τ' h1 h2=>?_,fun u L h=>?_,fun u h=>?_,c.hgl,c.hoo,c.hσ⟩
  ·cases hk:Γ.κ b with
   |none=>simp[G.GK,hk]at h|some p=>
    obtain⟨t,sz'⟩:=p;simp[G.GK,hk]at h;obtain⟨a1,a2,arr,T,a3,a4,a5⟩:=c.hκ b t sz' hk;rw[<-h.2,<-h.1];exact⟨a1,a2,arr,T,a3,a4,by cases t with|tok=>trivial|home _ p=>cases p <;> exact a5⟩
  ·have own:∀k o,s.obj k=some o->((Γ.GK s f g).ι (Ce f k)=none/\(o.ren (Ce f)).Jr)\/Own (Γ.GK s f g) w (Ce f k) (o.ren (Ce f)):=fun k o ho=>
    (c.obj k o ho).imp (fun h=>⟨y0g k (by rw[ho];simp) h.1,O.XR h.2⟩) fun yp=>Own.ren (pr _) (fun hd b τ hb=>by
     obtain⟨e1,e2,_⟩:=c.FR hb ho hd;exact⟨rfl,e1,e2⟩) (Nat.le_refl _) yp
   unfold jt Cs at h;cases hl:AZ (s.ren f g).loc k' with
   |some o1=>
    rw[hl]at h;cases h;obtain⟨k,o,h1,h2,rfl⟩:=aH hl;rw[<-h1];exact own k o (Vv h2)
   |none=>
    rw[hl]at h;cases k' with
    |l m=>cases h
    |g k=>
     have h':s.A k=some o':=h;have h0:AZ s.loc (.g k)=none:=by
      have:=Rz (f:=f) (l:=s.loc) (k:=k);rw[show AZ (s.loc.map _) (.g k)=none from hl]at this;cases hx:AZ s.loc (.g k)with
      |none=>rfl|some y=>rw[hx]at this;cases this
     have:=own (.g k) o' (by simp[jt,Cs,h0,h']);rw[O.TA (hA k o' h')]at this;exact this
  ·obtain⟨x,hx⟩:=ry.1 h;obtain⟨k,rfl,h1⟩:=back k' x hx;exact z9Y k x h1
  ·obtain⟨k0,rfl,h3⟩:=back k _ h1;obtain⟨k1,rfl,h4⟩:=back k' _ h2;exact(c.inj _ _ _ _ _ h3 h4).imp (fun e=>by rw[e]) (And.imp (Or.imp (yv _ _ h3) (yv _ _ h4)) id)
  ·unfold S.live Ed at h;cases hl:look (s.ren f g).tk u with
   |none=>simp[hl]at h|some x=>
    cases x with
    |none=>simp[hl]at h|some M=>
     simp[hl]at h;subst h;obtain⟨t,rfl,h2,h3⟩:=rT hl;obtain⟨x,a1,a2⟩:=c.tok t M (by simp[S.live,Ed,h2]);refine⟨x,τk t _ a1,fun b pos sz hx=>?_⟩;obtain⟨a3,a4⟩:=a2 b pos sz hx;exact⟨a3,by simp[G.GK,a4,Tip.ren]⟩
  ·obtain⟨x,hx⟩:=ry.1 h;simp only[G.GK]at hx;split at hx
   ·rename_i t hfd;have e:g t=u:=by simpa using sd hfd
    rw[<-e];exact pT (sv hfd)
   ·cases hx
 ·rw[q2k];exact AK.ren (pr none) τk (hs i)
def U (ds:List C) (i:Nat):C:=ds.getD i .nil
abbrev Es:=List (C × C)
def dm (ms:List Es) (i:Nat):Es:=ms.getD i []
inductive Cap where
 |c (τ:Ty)|v (x:V)
 deriving Inhabited
def JS:List Cap->Nat
 | []=>0| .c _::l=>JS l+1| .v _::l=>JS l
def Gp:List Cap->Nat->List C->List V
 | [],_,_=>[]| .c τ::l,i,ds=>.yf τ (U ds i)::Gp l (i+1) ds| .v x::l,i,ds=>x::Gp l i ds
inductive Sh where
 |d (τ:Ty)|sl (eb:Nat) (e:Ty) (t:Nat)|ts (eb:Nat) (e:Ty)|sr (k:Key) (q:List Nat) (cp:Bool) (eb:Nat) (e:Ty)|yf (τ:Ty)|arr (e:Ty)|agg (τ:Ty) (l:List Sh)|as (v:V)|vec (k:Key) (eb:Nat) (e:Ty)|fnc (f:FuncId) (l:List Cap)
 deriving Inhabited
inductive OSh where
 |box (x:Sh)|map (kτ vτ:Ty)|dead (e:Ty)|it
 deriving Inhabited
structure SSh where
 env:List (Nat × Sh)
 loc:List (Key × OSh)
mutual
def Sh.many:Sh->Nat
 | .sr _ _ cp _ _=>bif cp then 3 else 2| .agg _ l=>Sh.Hs l| .as _=>0| .fnc _ l=>JS l|_=>1
def Sh.Hs:List Sh->Nat
 | []=>0|s::l=>s.many+Sh.Hs l
end
mutual
def Sh.fill:Sh->Nat->List C->V
 | .d τ,i,ds=>.d τ (U ds i)| .sl eb e t,i,ds=>.sl eb e (U ds i).elems t| .ts eb e,i,ds=>.ts eb e (U ds i).elems| .sr k q cp eb e,i,ds=>.sr k q (U ds i).toInt.toNat (U ds (i+1)).toInt.toNat (bif cp then some (U ds (i+2)).toInt.toNat else none) eb e| .yf τ,i,ds=>.yf τ (U ds i)| .arr e,i,ds=>.d (.arr (U ds i).elems.length e) (U ds i)| .agg τ l,i,ds=>.agg τ (Sh.Er l i ds)| .as v,_,_=>v| .vec k eb e,i,ds=>.sr k [] 0 (U ds i).toInt.toNat none eb e| .fnc f l,i,ds=>.fn f (Gp l i ds)
def Sh.Er:List Sh->Nat->List C->List V
 | [],_,_=>[]|s::l,i,ds=>s.fill i ds::Sh.Er l (i+s.many) ds
end
mutual
def V.same:V->V->Bool
 | .emp a e,.emp b f=>decide (a=b)&&wg e f| .ye,.ye=>true| .ptr k q τ,.ptr k' q' τ'=>decide (k=k')&&decide (q=q')&&wg τ τ'| .mp k,.mp k'=>decide (k=k')| .any,.any=>true| .top τ,.top τ'=>wg τ τ'| .fn f l,.fn f' l'=>decide (f=f')&&V.Ng l l'| .tup l,.tup l'=>V.Ng l l'| .d τ c,.d τ' c'=>wg τ τ'&&C.beq c c'|_,_=>false
def V.Ng:List V->List V->Bool
 | [],[]=>true|x::xs,y::ys=>V.same x y&&V.Ng xs ys|_,_=>false
end
mutual
theorem V.Ws:∀(x y:V),V.same x y=true->x=y
 | .emp a e,y,h=>by cases y <;> simp only[V.same,bg,decide_eq_true_eq,rn,reduceCtorEq]at h;obtain⟨rfl,rfl⟩:=h;rfl
 | .ye,y,h=>by cases y <;> simp only[V.same,reduceCtorEq]at h;rfl
 | .ptr k q τ,y,h=>by cases y <;> simp only[V.same,bg,decide_eq_true_eq,rn,reduceCtorEq]at h;obtain⟨⟨rfl,rfl⟩,rfl⟩:=h;rfl
 | .mp k,y,h=>by cases y <;> simp only[V.same,decide_eq_true_eq,reduceCtorEq]at h;subst h;rfl
 | .any,y,h=>by cases y <;> simp only[V.same,reduceCtorEq]at h;rfl
 | .top τ,y,h=>by cases y <;> simp only[V.same,rn,reduceCtorEq]at h;subst h;rfl
 | .fn f l,y,h=>by cases y <;> simp only[V.same,bg,decide_eq_true_eq,reduceCtorEq]at h;obtain⟨rfl,h⟩:=h;rw[V.eJ l _ h]
 | .tup l,y,h=>by cases y <;> simp only[V.same,reduceCtorEq]at h;rw[V.eJ l _ h]
 | .d τ c,y,h=>by cases y <;> simp only[V.same,bg,rn,C.beq_iff,reduceCtorEq]at h;obtain⟨rfl,rfl⟩:=h;rfl
 | .sl _ _ _ _,y,h=>by cases y <;> simp[V.same]at h
 | .ts _ _ _,y,h=>by cases y <;> simp[V.same]at h
 | .yf _ _,y,h=>by cases y <;> simp[V.same]at h
 | .sr _ _ _ _ _ _ _,y,h=>by cases y <;> simp[V.same]at h
 | .agg _ _,y,h=>by cases y <;> simp[V.same]at h
theorem V.eJ:∀(xs ys:List V),V.Ng xs ys=true->xs=ys
 | [],ys,h=>by cases ys <;> simp[V.Ng]at h;rfl
 |x::xs,ys,h=>by
  cases ys with
  |nil=>simp[V.Ng]at h|cons y ys=>
   simp only[V.Ng,bg]at h;rw[V.Ws x y h.1,V.eJ xs ys h.2]
end
def YJ {R:Type} (τ:Ty) (x:V) (K:List C->Option R):Option R:=
 match x with
 | .ye=>(match τ with| .slice _ _=>K [.slice []]|_=>none)|x=>(match Cl x with|some c=>if x.ty=τ then K [c]else none|none=>none)
def Im {R:Type}:List Cap->List V->(List C->Option R)->Option R
 | [],[],K=>K []| .c τ::l,x::xs,K=>(match x with| .yf τ' c=>if τ'=τ then Im l xs fun ds=>K (c::ds)else none|_=>none)| .v y::l,x::xs,K=>if V.same x y=true then Im l xs K else none|_,_,_=>none
theorem UH:∀(l:List Cap) (i i':Nat) (ds ds':List C),(∀j,j<JS l->U ds (i+j)=U ds' (i'+j))->Gp l i ds=Gp l i' ds'
 | [],_,_,_,_,_=>by simp only[Gp]
 | .c τ::l,i,i',ds,ds',h=>by
  simp only[Gp,JS]at h ⊢;have h0:=h 0 (by omega);simp only[il]at h0
  rw[h0,UH l (i+1) (i'+1) ds ds' fun j hj=>by
   have:=h (1+j) (by omega)
   rwa [<-fv,<-fv]at this]
 | .v x::l,i,i',ds,ds',h=>by simp only[Gp,JS]at h ⊢;rw[UH l i i' ds ds' h]
theorem UG {R:Type} {r:R}:∀(l:List Cap) (xs:List V) {K:List C->Option R},Im l xs K=some r->∃ds,K ds=some r/\ds.length=JS l/\Gp l 0 ds=xs
 | [],[],K,h=>⟨[],by simpa only[Im]using h,by simp[JS],by simp[Gp]⟩| [],_::_,K,h=>by simp[Im]at h
 | .c _::_,[],K,h=>by simp[Im]at h
 | .v _::_,[],K,h=>by simp[Im]at h
 | .c τ::l,x::xs,K,h=>by simp only[Im]at h;split at h;{simp only[az]at h;obtain⟨rfl,h⟩:=h;obtain⟨ds,h1,h2,h3⟩:=UG l xs h;refine⟨_,h1,by simp[JS,h2],?_⟩;rename_i c;simp only[Gp,bf];rw[UH l 1 0 (c::ds) ds fun j _=>by unfold U;simp[qz 1 j],h3];rfl};{cases h}
 | .v y::l,x::xs,K,h=>by simp only[Im,az]at h;obtain⟨h0,h⟩:=h;have:=V.Ws _ _ h0;subst this;obtain⟨ds,h1,h2,h3⟩:=UG l xs h;exact⟨ds,h1,by simp only[JS];exact h2,by simp only[Gp];rw[h3]⟩
mutual
def Sh.coe {R:Type}:Sh->V->(List C->Option R)->Option R
 | .d τ,x,K=>YJ τ x K| .sl eb e t,x,K=>(match x with| .sl eb' e' cs t'=>if eb'=eb/\e'=e/\t'=t then K [.slice cs]else none|_=>none)| .ts eb e,x,K=>(match x with| .ts eb' e' cs=>if eb'=eb/\e'=e then K [.slice cs]else none|_=>none)| .sr k q cp eb e,x,K=>(match x with| .sr k' q' lo n cp' eb' e'=>if k'=k/\q'=q/\eb'=eb/\e'=e then(match cp,cp' with|false,none=>K [.int lo,.int n]|true,some c=>K [.int lo,.int n,.int c]|_,_=>none)else none|_=>none)| .yf τ,x,K=>(match x with| .yf τ' c=>if τ'=τ then K [c]else none|_=>none)| .arr e,x,K=>(match x with| .d (.arr n e') c=>if e'=e then(if n=c.elems.length then K [c]else none)else none|_=>none)| .agg τ l,x,K=>(match x with| .agg τ' vs=>if τ'=τ then Sh.OX l vs K else none|_=>none)| .as v,x,K=>if V.same x v=true then K []else none| .vec k eb e,x,K=>(match x with| .sr k' q' lo n cp' eb' e'=>if k'=k/\q'=[]/\lo=0/\cp'.isNone=true/\eb'=eb/\e'=e then K [.int n]else none|_=>none)| .fnc f l,x,K=>(match x with| .fn f' vs=>if f'=f then Im l vs K else none|_=>none)
def Sh.OX {R:Type}:List Sh->List V->(List C->Option R)->Option R
 | [],[],K=>K []|s::l,x::xs,K=>if(match x with| .ye=>true|_=>false)=false then s.coe x fun J=>Sh.OX l xs fun I=>K (J++I)else none|_,_,_=>none
end
theorem Jz {a b:List C} {j:Nat} (h:j<a.length):U (a++b) j=U a j:=by unfold U;rw[bq,bq,List.getElem?_append_left h]
theorem Mf {a b:List C} {j:Nat} (h:a.length<=j):U (a++b) j=U b (j-a.length):=by unfold U;rw[bq,bq,List.getElem?_append_right h]
mutual
theorem Sh.LJ:∀(s:Sh) (i i':Nat) (ds ds':List C),(∀j,j<s.many->U ds (i+j)=U ds' (i'+j))->s.fill i ds=s.fill i' ds'
 | .d τ,i,i',ds,ds',h=>by simp only[Sh.fill];have:=h 0 (by simp[Sh.many]);simp only[il]at this;rw[this]
 | .sl eb e t,i,i',ds,ds',h=>by simp only[Sh.fill];have:=h 0 (by simp[Sh.many]);simp only[il]at this;rw[this]
 | .ts eb e,i,i',ds,ds',h=>by simp only[Sh.fill];have:=h 0 (by simp[Sh.many]);simp only[il]at this;rw[this]
 | .sr k q cp eb e,i,i',ds,ds',h=>by
  simp only[Sh.fill];have h0:=h 0 (by cases cp <;> simp[Sh.many]);have h1:=h 1 (by cases cp <;> simp[Sh.many]);simp only[il]at h0;rw[h0,h1];cases cp with
  |false=>rfl|true=>rw[h 2 (by simp[Sh.many])]
 | .yf τ,i,i',ds,ds',h=>by simp only[Sh.fill];have:=h 0 (by simp[Sh.many]);simp only[il]at this;rw[this]
 | .arr e,i,i',ds,ds',h=>by simp only[Sh.fill];have:=h 0 (by simp[Sh.many]);simp only[il]at this;rw[this]
 | .agg τ l,i,i',ds,ds',h=>by simp only[Sh.fill];rw[Sh.RX l i i' ds ds' (by simpa only[Sh.many]using h)]
 | .as v,_,_,_,_,_=>by simp only[Sh.fill]
 | .vec k eb e,i,i',ds,ds',h=>by simp only[Sh.fill];have:=h 0 (by simp[Sh.many]);simp only[il]at this;rw[this]
 | .fnc f l,i,i',ds,ds',h=>by simp only[Sh.fill];rw[UH l i i' ds ds' (by simpa only[Sh.many]using h)]
theorem Sh.RX:∀(l:List Sh) (i i':Nat) (ds ds':List C),(∀j,j<Sh.Hs l->U ds (i+j)=U ds' (i'+j))->Sh.Er l i ds=Sh.Er l i' ds'
 | [],_,_,_,_,_=>by simp only[Sh.Er]
 |s::l,i,i',ds,ds',h=>by
  simp only[Sh.Er];simp only[Sh.Hs]at h
  rw[Sh.LJ s i i' ds ds' (fun j hj=>h j (by omega)),Sh.RX l (i+s.many) (i'+s.many) ds ds' (fun j hj=>by
   have:=h (s.many+j) (by omega)
   rwa [<-fv,<-fv]at this)]
end
theorem H9 {R:Type} {r:R} {τ:Ty} {x:V} {K:List C->Option R} (h:YJ τ x K=some r):∃c,K [c]=some r/\V.BZ x (.d τ c)/\(x≠.ye->(V.d τ c).ty=x.ty):=by
 cases x <;> simp only[YJ]at h
 case ye=>
  split at h;{exact⟨_,h,by simp[V.BZ],fun h=>absurd rfl h⟩};{cases h}
 all_goals
  split at h;{rename_i c hc;simp only[az]at h;obtain⟨h1,h⟩:=h;refine⟨c,h,?_,fun _=>h1.symm⟩;simp only[V.BZ];exact⟨hc,h1⟩};{cases h}
mutual
theorem Sh.YK {R:Type} {r:R}:∀(s:Sh) (x:V) {K:List C->Option R},s.coe x K=some r->∃ds,K ds=some r/\ds.length=s.many/\V.BZ x (s.fill 0 ds)/\(x≠.ye->(s.fill 0 ds).ty=x.ty)
 | .d τ,x,K,h=>by simp only[Sh.coe]at h;obtain⟨c,h1,h2,h3⟩:=H9 h;exact⟨[c],h1,by simp[Sh.many],by simp only[Sh.fill];exact h2,by simp only[Sh.fill];exact h3⟩
 | .sl eb e t,x,K,h=>by cases x <;> simp only[Sh.coe,reduceCtorEq,az]at h;obtain⟨⟨rfl,rfl,rfl⟩,h⟩:=h;exact⟨_,h,by simp[Sh.many],by simp[Sh.fill,U,C.elems,V.BZ],fun _=>rfl⟩
 | .ts eb e,x,K,h=>by cases x <;> simp only[Sh.coe,reduceCtorEq,az]at h;obtain⟨⟨rfl,rfl⟩,h⟩:=h;exact⟨_,h,by simp[Sh.many],by simp[Sh.fill,U,C.elems,V.BZ],fun _=>rfl⟩
 | .sr k q cp eb e,x,K,h=>by cases x <;> simp only[Sh.coe,reduceCtorEq,az]at h;obtain⟨⟨rfl,rfl,rfl,rfl⟩,h⟩:=h;split at h;{exact⟨_,h,by simp[Sh.many],by simp[Sh.fill,U,aq,V.BZ],fun _=>rfl⟩};{exact⟨_,h,by simp[Sh.many],by simp[Sh.fill,U,aq,V.BZ],fun _=>rfl⟩};{cases h}
 | .yf τ,x,K,h=>by cases x <;> simp only[Sh.coe,reduceCtorEq,az]at h;obtain⟨rfl,h⟩:=h;exact⟨_,h,by simp[Sh.many],by simp[Sh.fill,U,V.BZ],fun _=>rfl⟩
 | .arr e,x,K,h=>by simp only[Sh.coe]at h;split at h;{simp only[az]at h;obtain⟨rfl,h1,h⟩:=h;subst h1;exact⟨_,h,by simp[Sh.many],by simp[Sh.fill,U,V.BZ,Cl,V.ty],fun _=>rfl⟩};{cases h}
 | .agg τ l,x,K,h=>by cases x <;> simp only[Sh.coe,reduceCtorEq,az]at h;obtain⟨rfl,h⟩:=h;obtain⟨ds,h1,h2,h3⟩:=Sh.kD l _ h;exact⟨ds,h1,by simpa only[Sh.many]using h2,by simp only[Sh.fill,V.BZ];exact⟨trivial,h3⟩,fun _=>rfl⟩
 | .as v,x,K,h=>by simp only[Sh.coe,az]at h;obtain⟨h1,h⟩:=h;have:=V.Ws _ _ h1;subst this;exact⟨_,h,by simp[Sh.many],by simp only[Sh.fill];exact V.Ms _,fun _=>by simp only[Sh.fill]⟩
 | .vec k eb e,x,K,h=>by
  cases x <;> simp only[Sh.coe,reduceCtorEq,az]at h;obtain⟨⟨rfl,rfl,rfl,hc,rfl,rfl⟩,h⟩:=h;rename_i cp _ _;cases cp with
  |some c=>cases hc
  |none=>exact⟨_,h,by simp[Sh.many],by simp[Sh.fill,U,aq,V.BZ],fun _=>rfl⟩
 | .fnc f l,x,K,h=>by cases x <;> simp only[Sh.coe,reduceCtorEq,az]at h;obtain⟨rfl,h⟩:=h;obtain⟨ds,h1,h2,h3⟩:=UG l _ h;exact⟨ds,h1,by simpa only[Sh.many]using h2,by simp only[Sh.fill,V.BZ,h3],fun _=>rfl⟩
theorem Sh.kD {R:Type} {r:R}:∀(l:List Sh) (xs:List V) {K:List C->Option R},Sh.OX l xs K=some r->∃ds,K ds=some r/\ds.length=Sh.Hs l/\V.GW xs (Sh.Er l 0 ds)
 | [],xs,K,h=>by cases xs <;> simp only[Sh.OX,reduceCtorEq]at h;exact⟨_,h,by simp[Sh.Hs],by simp[Sh.Er,V.GW]⟩
 |s::l,[],K,h=>by simp[Sh.OX]at h
 |s::l,x::xs,K,h=>by
  simp only[Sh.OX,az]at h;obtain⟨hn,h⟩:=h;obtain⟨J,h1,h2,h3,h4⟩:=Sh.YK s x h;obtain⟨I,h5,h6,h7⟩:=Sh.kD l xs h1;refine⟨_,h5,by simp[Sh.Hs,h2,h6],?_⟩;have e1:s.fill 0 (J++I)=s.fill 0 J:=Sh.LJ s 0 0 _ _ fun j hj=>Jz (by omega);have e2:Sh.Er l s.many (J++I)=Sh.Er l 0 I:=Sh.RX l _ 0 _ _ fun j hj=>by rw[Mf (by omega),h2];congr 1;omega
  simp only[Sh.Er,V.GW,bf,e1,e2];exact⟨h3,h4 (by intro e;subst e;simp at hn),h7⟩
end
def JW:List (Nat × Sh)->Nat
 | []=>0|(_,s)::l=>s.many+JW l
def Gs:List (Nat × Sh)->Nat->List C->List (Nat × V)
 | [],_,_=>[]|(j,s)::l,i,ds=>(j,s.fill i ds)::Gs l (i+s.many) ds
def Gt:List (Nat × Sh)->Nat->List C->List (Nat × Option Nat)
 | [],_,_=>[]|(_,s)::l,i,ds=>(match s with| .sl _ _ t=>(t,some (U ds i).elems.length)::Gt l (i+s.many) ds|_=>Gt l (i+s.many) ds)
def Fx:List (Key × OSh)->Nat
 | []=>0|(_,.box s)::l=>s.many+Fx l|(_,.map _ _)::l=>Fx l|(_,.dead _)::l=>1+Fx l|(_,.it)::l=>2+Fx l
def dE (τ:Ty) (l:Es):List (C × V):=l.map fun p=>(p.1,.d τ p.2)
def isD (τ:Ty):V->Bool
 | .d τ' _=>decide (τ'=τ)|_=>false
def unV:V->C
 | .d _ c=>c|_=>.nil
def HL (τ:Ty):List (C × V)->Bool
 | []=>true|(_,v)::es=>isD τ v&&HL τ es
def unE (es:List (C × V)):Es:=es.map fun p=>(p.1,unV p.2)
theorem YU {τ:Ty}:∀{es:List (C × V)},HL τ es=true->dE τ (unE es)=es
 | [],_=>rfl|(k,v)::es,h=>by simp only[HL,bg]at h;have:=YU h.2;simp only[dE,unE,dt,List.map_map]at this ⊢;rw[this];cases v <;> simp only[isD,reduceCtorEq,decide_eq_true_eq]at h <;> first|exact h.1.elim|(rw[h.1];rfl)
theorem Ae (τ:Ty):∀(l:Es),HL τ (dE τ l)=true
 | []=>rfl|(k,v)::l=>by have:=Ae τ l;simp only[dE,dt,HL,isD,decide_true,qt]at this ⊢;exact this
theorem Af (τ:Ty) (l:Es):unE (dE τ l)=l:=by
 induction l with
 |nil=>rfl|cons p l ih=>simp only[dE,unE,dt,unV]at ih ⊢;rw[ih]
theorem iC (τ:Ty):∀m:Es,EJ τ (dE τ m)=true
 | []=>rfl|_::m=>by have:=iC τ m;have h:wg τ τ=true:=(rn τ τ).2 rfl;simp only[dE,dt,EJ,h,qt]at this ⊢;exact this
def CW:List (Key × OSh)->Nat->Nat->List C->List Es->List (Key × O)
 | [],_,_,_,_=>[]|(k,.box s)::l,i,j,ds,ms=>(k,.box (s.fill i ds))::CW l (i+s.many) j ds ms|(k,.map kτ vτ)::l,i,j,ds,ms=>(k,.map kτ vτ (dE vτ (dm ms j)))::CW l i (j+1) ds ms|(k,.dead e)::l,i,j,ds,ms=>(k,.dead (.arr (U ds i).toInt.toNat e))::CW l (i+1) j ds ms|(k,.it)::l,i,j,ds,ms=>(k,.it (U ds i).toStr (U ds (i+1)).toInt.toNat)::CW l (i+2) j ds ms
def KB (sh:SSh) (A:Key->Option O) (ds:List C) (ms:List Es):S:=
 ⟨Gs sh.env 0 ds,CW sh.loc (JW sh.env) 0 ds ms,A,Gt sh.env 0 ds⟩
def fV (s:S) (sh:Sh) (d:List C):Bool:=
 match sh with
 | .sl _ _ t=>(match Ed s.tk t with|some L=>df L (U d 0).elems.length|none=>false)|_=>true
def Ug {R:Type} (s:S):List (Nat × Sh)->(List C->Option R)->Option R
 | [],K=>K []|(j,sh)::l,K=>sh.coe (s.get j) fun J=>if(sh.fill 0 J).ty.isAgg=(s.get j).ty.isAgg then(bif fV s sh J then Ug s l fun I=>K (J++I)else none)else none
def pF:V->Bool
 | .ye=>true|_=>false
def Je {R:Type} (s:S):List (Key × OSh)->(List C->List Es->Option R)->Option R
 | [],K=>K [] []|(k,.box sh)::l,K=>(match s.obj k with|some (.box x)=>if pF x=false then sh.coe x fun J=>if(sh.fill 0 J).plain=true/\(sh.fill 0 J).BW=true then Je s l fun I m2=>K (J++I) m2 else none else none|_=>none)|(k,.map kτ vτ)::l,K=>(match s.obj k with|some (.map kτ' vτ' es)=>if kτ'=kτ/\vτ'=vτ then(if HL vτ es=true then Je s l fun I m2=>K I (unE es::m2)else none)else none|_=>none)|(k,.dead e)::l,K=>(match s.obj k with|some o=>(match o.ty with| .arr M e'=>if e'=e then Je s l fun I m2=>K (.int M::I) m2 else none|_=>none)|_=>none)|(k,.it)::l,K=>(match s.obj k with|some (.it x p)=>Je s l fun I m2=>K (.str x:: .int p::I) m2|_=>none)
def OT (f g:Nat->Bool):List Cap->Bool
 | []=>true| .c _::l=>OT f g l| .v x::l=>x.ok f g&&OT f g l
theorem Xv {f g:Nat->Bool}:∀(l:List Cap) (i:Nat) (ds:List C),OT f g l=true->vg f g (Gp l i ds)=true
 | [],_,_,_=>rfl| .c _::l,i,ds,h=>by simp only[OT]at h;simp only[Gp,vg,V.ok,qt];exact Xv l _ _ h
 | .v x::l,i,ds,h=>by simp only[OT,bg]at h;simp only[Gp,vg,bg];exact⟨h.1,Xv l _ _ h.2⟩
mutual
def Sh.okB (f g:Nat->Bool):Sh->Bool
 | .sl _ _ t=>g t| .sr (.l k) _ _ _ _=>f k| .vec (.l k) _ _=>f k| .agg _ l=>Sh.Vy f g l| .as v=>v.ok f g| .fnc _ l=>OT f g l|_=>true
def Sh.Vy (f g:Nat->Bool):List Sh->Bool
 | []=>true|s::l=>s.okB f g&&Sh.Vy f g l
end
mutual
theorem Sh.PC {f g:Nat->Bool}:∀(s:Sh) (i:Nat) (ds:List C),s.okB f g=true->(s.fill i ds).ok f g=true
 | .sl _ _ t,_,_,h=>by simpa only[Sh.fill,V.ok,Sh.okB]using h
 | .sr (.l k) _ _ _ _,_,_,h=>by simpa only[Sh.fill,V.ok,Sh.okB]using h
 | .sr (.g k) _ _ _ _,_,_,h=>by simp only[Sh.fill,V.ok]
 | .vec (.l k) _ _,_,_,h=>by simpa only[Sh.fill,V.ok,Sh.okB]using h
 | .vec (.g k) _ _,_,_,h=>by simp only[Sh.fill,V.ok]
 | .agg _ l,_,_,h=>by simp only[Sh.fill,V.ok,Sh.okB]at h ⊢;exact Sh.nF l _ _ h
 | .as v,_,_,h=>by simpa only[Sh.fill,Sh.okB]using h
 | .fnc _ l,i,ds,h=>by simp only[Sh.fill,V.ok,Sh.okB]at h ⊢;exact Xv l i ds h
 | .d _,_,_,_| .ts _ _,_,_,_| .yf _,_,_,_| .arr _,_,_,_=>by simp only[Sh.fill,V.ok]
theorem Sh.nF {f g:Nat->Bool}:∀(l:List Sh) (i:Nat) (ds:List C),Sh.Vy f g l=true->vg f g (Sh.Er l i ds)=true
 | [],_,_,_=>rfl|s::l,i,ds,h=>by simp only[Sh.Vy,bg]at h;simp only[Sh.Er,vg,bg];exact⟨Sh.PC s _ _ h.1,Sh.nF l _ _ h.2⟩
end
def OSh.okB (f g:Nat->Bool):OSh->Bool
 | .box s=>s.okB f g| .map _ _=>true| .dead _| .it=>true
def LV:List (Key × OSh)->Key->Bool
 | [],_=>false|(j,_)::l,k=>if j=k then true else LV l k
def VB (l:List (Key × OSh)) (n:Nat):Bool:=LV l (.l n)
def Mo:List (Nat × Sh)->Nat->Bool
 | [],_=>false|(_,.sl _ _ t)::l,u=>if t=u then true else Mo l u|_::l,u=>Mo l u
def OE (L:List (Key × OSh)):List (Key × O)->Bool
 | []=>true|(.g k,_)::l=>LV L (.g k)&&OE L l|(.l _,_)::l=>OE L l
def PS (f g:Nat->Bool):List (Key × OSh)->Bool
 | []=>true|(_,o)::l=>o.okB f g&&PS f g l
def Uh (f g:Nat->Bool):List (Nat × Sh)->Bool
 | []=>true|(_,s)::l=>s.okB f g&&Uh f g l
def okS (sh:SSh) (loc:List (Key × O)):Bool:=
 PS (VB sh.loc) (Mo sh.env) sh.loc&&OE sh.loc loc&&Uh (VB sh.loc) (Mo sh.env) sh.env
theorem VH:∀(l:List (Key × OSh)) (i j:Nat) (ds:List C) (ms:List Es) (k:Key),(AZ (CW l i j ds ms) k).isSome=LV l k
 | [],_,_,_,_,_=>rfl|(n,.box s)::l,i,j,ds,ms,k=>by simp only[CW,AZ,LV];split;{rfl};{exact VH l _ _ _ _ _}
 |(n,.map _ _)::l,i,j,ds,ms,k|(n,.dead _)::l,i,j,ds,ms,k|(n,.it)::l,i,j,ds,ms,k=>by simp only[CW,AZ,LV];split;{rfl};{exact VH l _ _ _ _ _}
theorem q2z (l:List (Key × OSh)) (i j:Nat) (ds:List C) (ms:List Es):Cd (CW l i j ds ms)=VB l:=by funext n;exact VH l i j ds ms (.l n)
theorem oQ:∀(l:List (Nat × Sh)) (i:Nat) (ds:List C),DW (Gt l i ds)=Mo l
 | [],_,_=>rfl|(_,s)::l,i,ds=>by have ih:=oQ l (i+s.many) ds;funext u;have ih:=congrFun ih u;unfold DW at ih ⊢;cases s <;> simp only[Gt,Mo,look] <;> (try exact ih);split;{rfl};{exact ih}
theorem VV {f g:Nat->Bool}:∀(l:List (Key × OSh)) (i j:Nat) (ds:List C) (ms:List Es),PS f g l=true->Fy f g (CW l i j ds ms)=true
 | [],_,_,_,_,_=>rfl|(n,.box s)::l,i,j,ds,ms,h=>by simp only[PS,bg]at h;simp only[CW,Fy,bg,O.okB,O.ok];exact⟨Sh.PC s _ _ h.1,VV l _ _ _ _ h.2⟩
 |(n,.map _ vτ)::l,i,j,ds,ms,h=>by simp only[PS,bg]at h;simp only[CW,Fy,bg,O.okB,O.ok];exact⟨by rw[iC vτ _,Bool.or_true],VV l _ _ _ _ h.2⟩
 |(n,.dead _)::l,i,j,ds,ms,h|(n,.it)::l,i,j,ds,ms,h=>by simp only[PS,bg]at h;simp only[CW,Fy,bg,O.okB,O.ok];exact⟨trivial,VV l _ _ _ _ h.2⟩
theorem mJ {f g:Nat->Bool}:∀(l:List (Nat × Sh)) (i:Nat) (ds:List C),Uh f g l=true->JO f g (Gs l i ds)=true
 | [],_,_,_=>rfl|(n,s)::l,i,ds,h=>by simp only[Uh,bg]at h;simp only[Gs,JO,bg];exact⟨Sh.PC s _ _ h.1,mJ l _ _ h.2⟩
theorem Xl {L:List (Key × OSh)} {i j:Nat} {ds:List C} {ms:List Es}:∀{l:List (Key × O)},OE L l=true->Ik (CW L i j ds ms) l=true
 | [],_=>rfl|(.g k,_)::l,h=>by simp only[OE,bg]at h;simp only[Ik,bg,VH];exact⟨h.1,Xl h.2⟩
 |(.l _,_)::l,h=>by simp only[OE]at h;simp only[Ik];exact Xl h
def UL {R:Type} (sh:SSh) (s:S) (K:List C->List Es->Option R):Option R:=
 Ug s sh.env fun J=>Je s sh.loc fun I ms=>if okS sh s.loc=true then K (J++I) ms else none
theorem Yi:∀(l:List (Nat × Sh)) (i i':Nat) (ds ds':List C),(∀j,j<JW l->U ds (i+j)=U ds' (i'+j))->Gs l i ds=Gs l i' ds'
 | [],_,_,_,_,_=>rfl|(n,s)::l,i,i',ds,ds',h=>by
  simp only[JW]at h;simp only[Gs]
  rw[Sh.LJ s i i' ds ds' (fun j hj=>h j (by omega)),Yi l (i+s.many) (i'+s.many) ds ds' (fun j hj=>by
   have:=h (s.many+j) (by omega)
   rwa [<-fv,<-fv]at this)]
theorem Yj:∀(l:List (Nat × Sh)) (i i':Nat) (ds ds':List C),(∀j,j<JW l->U ds (i+j)=U ds' (i'+j))->Gt l i ds=Gt l i' ds'
 | [],_,_,_,_,_=>rfl|(n,s)::l,i,i',ds,ds',h=>by
  simp only[JW]at h;simp only[Gt]
  have e:=Yj l (i+s.many) (i'+s.many) ds ds' (fun j hj=>by
   have:=h (s.many+j) (by omega)
   rwa [<-fv,<-fv]at this)
  cases s <;> simp only at e ⊢ <;> (try exact e);have h0:=h 0 (by simp only[Sh.many];omega);simp only[il]at h0;rw[e,h0]
theorem Jf:∀(l:List (Key × OSh)) (i i' m:Nat) (ds ds':List C) (ms:List Es),(∀j,j<Fx l->U ds (i+j)=U ds' (i'+j))->CW l i m ds ms=CW l i' m ds' ms
 | [],_,_,_,_,_,_,_=>rfl|(n,.box s)::l,i,i',m,ds,ds',ms,h=>by
  simp only[Fx]at h;simp only[CW]
  rw[Sh.LJ s i i' ds ds' (fun j hj=>h j (by omega)),Jf l (i+s.many) (i'+s.many) m ds ds' ms (fun j hj=>by
   have:=h (s.many+j) (by omega)
   rwa [<-fv,<-fv]at this)]
 |(n,.map _ _)::l,i,i',m,ds,ds',ms,h=>by simp only[Fx]at h;simp only[CW];rw[Jf l i i' (m+1) ds ds' ms h]
 |(n,.dead e)::l,i,i',m,ds,ds',ms,h=>by
  simp only[Fx]at h;simp only[CW];have h0:=h 0 (by omega);simp only[il]at h0
  rw[h0,Jf l (i+1) (i'+1) m ds ds' ms (fun j hj=>by
   have:=h (1+j) (by omega)
   rwa [<-fv,<-fv]at this)]
 |(n,.it)::l,i,i',m,ds,ds',ms,h=>by
  simp only[Fx]at h;simp only[CW];have h0:=h 0 (by omega);have h1:=h 1 (by omega);simp only[il]at h0
  rw[h0,h1,Jf l (i+2) (i'+2) m ds ds' ms (fun j hj=>by
   have:=h (2+j) (by omega)
   rwa [<-fv,<-fv]at this)]
theorem Ry:∀(l:List (Key × OSh)) (i m:Nat) (ds:List C) (e:Es) (ms:List Es),CW l i (m+1) ds (e::ms)=CW l i m ds ms
 | [],_,_,_,_,_=>rfl|(n,.box s)::l,i,m,ds,e,ms=>by simp only[CW];rw[Ry l]
 |(n,.map _ _)::l,i,m,ds,e,ms=>by simp only[CW];rw[Ry l];rfl
 |(n,.dead _)::l,i,m,ds,e,ms|(n,.it)::l,i,m,ds,e,ms=>by simp only[CW];rw[Ry l]
theorem mF {R:Type} {r:R} {s:S}:∀(l:List (Nat × Sh)) {K:List C->Option R},Ug s l K=some r->
  ∃ds,K ds=some r/\ds.length=JW l/\(∀f g,JO f g (Gs l 0 ds)=true->IB f g s (Gs l 0 ds))/\tkW s (Gt l 0 ds)
 | [],K,h=>⟨[],h,rfl,fun _ _ _=>trivial,trivial⟩|(n,sh)::l,K,h=>by
  simp only[Ug]at h;obtain⟨J,h1,h2,h3,h4⟩:=Sh.YK sh _ h;simp only[az]at h1;obtain⟨h5,h1⟩:=h1;cases htk:fV s sh J with
  |false=>rw[htk]at h1;cases h1
  |true=>
   rw[htk,cond_true]at h1;obtain⟨I,h6,h7,h8,h9⟩:=mF l h1;have e1:sh.fill 0 (J++I)=sh.fill 0 J:=Sh.LJ sh 0 0 _ _ fun j hj=>Jz (by omega);have sft:∀j,U (J++I) (sh.many+j)=U I (0+j):=fun j=>by rw[Mf (by omega),h2];congr 1;omega
   have e2:Gs l sh.many (J++I)=Gs l 0 I:=Yi l _ 0 _ _ fun j hj=>sft j;have e3:Gt l sh.many (J++I)=Gt l 0 I:=Yj l _ 0 _ _ fun j hj=>sft j;refine⟨_,h6,by simp[JW,h2,h7],fun f g hok=>?_,?_⟩;{simp only[Gs,bf,e1,e2,JO,bg]at hok ⊢;exact⟨h3,hok.1,.inr h5,h8 f g hok.2⟩};{simp only[Gt,bf];cases sh <;> simp only[e3] <;> (try exact h9);simp only[fV]at htk;simp only[Sh.many]at h2;rw[Jz (by omega)];refine⟨?_,h9⟩;split at htk;{rename_i L hL;have:=ei htk;show s.live _=some _;rw[<-this];exact hL};{cases htk}}
theorem zN {s:S} {A':Key->Option O}:∀{l:List (Nat × Option Nat)},tkW s l->tkW (s.wA A') l
 | [],_=>trivial|(_,_)::_,h=>⟨h.1,zN h.2⟩
theorem mM {f g:Nat->Bool} {s:S} {A':Key->Option O}:∀{l:List (Nat × V)},IB f g s l->IB f g (s.wA A') l
 | [],_=>trivial|(_,_)::_,h=>⟨h.1,h.2.1,h.2.2.1,mM h.2.2.2⟩
theorem F1 {R:Type} {r:R} {sh:SSh} {s:S} {K:List C->List Es->Option R} (h:UL sh s K=some r):
  ∃ds ms,K ds ms=some r/\∀(X:Cx) (n:Nat) (A':Key->Option O),leA s.A A'->EI X n (s.wA A') ((KB sh s.A ds ms).wA A'):=by
 unfold UL at h;obtain⟨J,h1,h2,h3,h4⟩:=mF _ h;have det:∃I ms,K (J++I) ms=some r/\okS sh s.loc=true/\I.length=Fx sh.loc/\∀A',leA s.A A'->GZ (s.wA A') (CW sh.loc 0 0 I ms):=by
  -- what is read does not lean on A'
  have gen:∀(l:List (Key × OSh)) {K:List C->List Es->Option R},Je s l K=some r->∃ds ms,K ds ms=some r/\ds.length=Fx l/\∀A',leA s.A A'->GZ (s.wA A') (CW l 0 0 ds ms):=by
   intro l
   induction l with
   |nil=>intro K h;exact⟨[],[],h,rfl,fun _ _=>trivial⟩|cons p l ih=>
    obtain⟨k,o⟩:=p;intro K h;cases o with
    |box sh=>
     simp only[Je]at h;split at h
     ·rename_i x hx;simp only[az]at h;obtain⟨h0,h⟩:=h;obtain⟨J,h1,h2,h3,h4⟩:=Sh.YK sh _ h;simp only[az]at h1;obtain⟨h5,h1⟩:=h1;obtain⟨I,ms,h6,h7,h8⟩:=ih h1;have e1:sh.fill 0 (J++I)=sh.fill 0 J:=Sh.LJ sh 0 0 _ _ fun j hj=>Jz (by omega);have e2:CW l sh.many 0 (J++I) ms=CW l 0 0 I ms:=Jf l _ 0 0 _ _ _ fun j hj=>by rw[Mf (by omega),h2];congr 1;omega
      refine⟨_,_,h6,by simp[Fx,h2,h7],fun A' hA=>?_⟩;simp only[CW,bf,e1,e2,GZ];rw[Dz hA hx];exact⟨⟨h3,h4 (by intro e;subst e;simp[pF]at h0),h5.1,h5.2⟩,h8 A' hA⟩
     ·cases h
    |map kτ vτ=>
     simp only[Je]at h;split at h;{rename_i kτ' vτ' es hx;simp only[az]at h;obtain⟨⟨rfl,rfl⟩,hd,h⟩:=h;obtain⟨I,ms,h6,h7,h8⟩:=ih h;refine⟨_,_,h6,by simp[Fx,h7],fun A' hA=>?_⟩;simp only[CW,GZ,Ry];rw[Dz hA hx];exact⟨⟨rfl,rfl,(YU hd).symm⟩,h8 A' hA⟩};{cases h}
    |dead e=>
     simp only[Je]at h;split at h
     ·rename_i o hx;split at h
      ·rename_i M e' ht;simp only[az]at h;obtain⟨rfl,h⟩:=h;obtain⟨I,ms,h6,h7,h8⟩:=ih h;have e2:CW l 1 0 (.int M::I) ms=CW l 0 0 I ms:=Jf l _ 0 0 _ _ _ fun j hj=>by unfold U;simp[qz 1 j]
       refine⟨_,_,h6,by simp[Fx,h7,qz],fun A' hA=>?_⟩;simp only[CW,bf,e2,GZ];rw[Dz hA hx];refine⟨?_,h8 A' hA⟩;have:(U (C.int M::I) 0).toInt.toNat=M:=by simp[U,aq]
       rw[this];cases o <;> exact ht.symm
      ·cases h
     ·cases h
    |it=>
     simp only[Je]at h;split at h
     ·rename_i x p hx;obtain⟨I,ms,h6,h7,h8⟩:=ih h;have e2:CW l 2 0 (.str x:: .int p::I) ms=CW l 0 0 I ms:=Jf l _ 0 0 _ _ _ fun j hj=>by unfold U;simp[qz 2 j]
      refine⟨_,_,h6,by simp[Fx,h7];omega,fun A' hA=>?_⟩;simp only[CW,bf,e2,GZ];rw[Dz hA hx];refine⟨?_,h8 A' hA⟩;have e3:(U (C.str x::C.int p::I) 0).toStr=x:=by simp[U,C.toStr]
      have e4:(U (C.str x::C.int p::I) 1).toInt.toNat=p:=by simp[U,aq]
      rw[e3,e4];exact⟨rfl,rfl⟩
     ·cases h
  obtain⟨I,ms,h5,h6,h7⟩:=gen _ h1;simp only[az]at h5;exact⟨I,ms,h5.2,h5.1,h6,h7⟩
 obtain⟨I,ms,h5,h6,h7,h8⟩:=det;refine⟨J++I,ms,h5,fun X n A' hA=>?_⟩;have e1:Gs sh.env 0 (J++I)=Gs sh.env 0 J:=Yi _ 0 0 _ _ fun j hj=>Jz (by omega);have e2:Gt sh.env 0 (J++I)=Gt sh.env 0 J:=Yj _ 0 0 _ _ fun j hj=>Jz (by omega);have e3:CW sh.loc (JW sh.env) 0 (J++I) ms=CW sh.loc 0 0 I ms:=Jf _ _ 0 0 _ _ _ fun j hj=>by rw[Mf (by omega),h2];congr 1;omega
 simp only[okS,bg]at h6;have hL:Cd (KB sh s.A (J++I) ms).loc=VB sh.loc:=q2z ..;have hT:DW (KB sh s.A (J++I) ms).tk=Mo sh.env:=oQ ..;refine y8 rfl ?_ ?_ (OD (Xl h6.1.2)) ?_ ?_;{show GZ (s.wA A') (CW sh.loc (JW sh.env) 0 (J++I) ms);rw[e3];exact h8 A' hA};{show Fy (Cd (KB sh s.A (J++I) ms).loc) (DW (KB sh s.A (J++I) ms).tk) _=true;rw[hL,hT];exact VV _ _ _ _ _ h6.1.1};{show tkW (s.wA A') (Gt sh.env 0 (J++I));rw[e2];exact zN h4};{show IB (Cd (KB sh s.A (J++I) ms).loc) (DW (KB sh s.A (J++I) ms).tk) (s.wA A') (Gs sh.env 0 (J++I));refine mM ?_;rw[hL,hT,e1];exact h3 _ _ (mJ _ _ _ h6.2)}
theorem AY.dW {Γ:G} {w:World} {s:S} (c:AY Γ w s) {k:Key} {x x':V} (h:s.obj k=some (.box x)) (h1:Own Γ w k (.box x)->Own Γ w k (.box x')) (h2:(O.box x).Jr->(O.box x').Jr):AY Γ w (s.put k (.box x')):=by refine⟨c.hH,c.hZ,c.hκ,fun j o hj=>?_,fun j hj=>?_,c.KI (fun j hj=>?_),c.tok,c.yu,c.hgl,c.hoo,c.hσ⟩;{rw[EG]at hj;split at hj;{rename_i e;subst e;cases hj;exact(c.obj _ _ h).imp (fun h=>⟨h.1,h2 h.2⟩) h1};{exact c.obj j o hj}};{rw[EG];split;{simp};{exact c.dom j hj}};{unfold S.CY at hj ⊢;rw[EG];split;{rename_i e;subst e;rw[h]at hj;cases hj};{exact hj}}
def mvK (K:Key) (t:Nat) (k:Key):Key:=if k=K then .l t else k
def AtE (X:Cx) (n:Nat) (Γ0:G) (K:Key) (t:Nat) (s:S) (a:Act) (w:World):Prop:=
 ∃Γ,GLe Γ0 Γ/\Γ.gl=X.gl/\AY Γ w s/\Gm Γ s a.tmps/\a.tmps.size=n/\a.defers=[]/\AOk s.A/\∀x,Γ.ι K=some x->Γ.ι (.l t)=some x
theorem sL {Γ:G} {K:Key} {t:Nat} (h:∀x,Γ.ι K=some x->Γ.ι (.l t)=some x) {hm:Option Key} (hn:hm≠some K):HH Γ Γ (mvK K t) hm:=
 ⟨Hp.le_refl _,fun k x hk=>by
  unfold mvK;split;{rename_i e;subst e;exact h x hk}
  ·exact hk,fun _ _ h=>h,fun k b p sz e hk=>by
  have:mvK K t k=k:=by unfold mvK;split;{rename_i e2;subst e2;exact absurd e hn};{rfl}
  rw[this];exact⟨hk,rfl⟩⟩
theorem AK.mv {Γ:G} {K:Key} {t:Nat} (h:∀x,Γ.ι K=some x->Γ.ι (.l t)=some x) {x:V} {v:Value} (hr:AK Γ x v):AK Γ (x.ren (mvK K t) id) v:=
 AK.ren (sL h (by simp)) (fun _ _ h=>h) hr
def IU (K:Key) (t:Nat):List Key->S->S
 | [],s=>s|k::ks,s=>if k=K\/k= .l t then IU K t ks s else(match s.obj k with|some (.box x)=>IU K t ks (s.put k (.box (x.ren (mvK K t) id)))|_=>IU K t ks s)
theorem Wj (K:Key) (t:Nat):∀(ks:List Key) (s:S),(IU K t ks s).A=s.A
 | [],_=>rfl|k::ks,s=>by simp only[IU];split;{exact Wj K t ks s};{split;{exact Wj K t ks _};{exact Wj K t ks s}}
def WkE (K:Key) (t:Nat) (s s':S):Prop:=s'.A=s.A/\∀(X:Cx) (n:Nat) (A':Key->Option O),leA s.A A'->∀(Γ0:G) (a:Act) (w:World),AtE X n Γ0 K t (s.wA A') a w->AtE X n Γ0 K t (s'.wA A') a w
theorem WkE.refl {K:Key} {t:Nat} (s:S):WkE K t s s:=⟨rfl,fun _ _ _ _ _ _ _ h=>h⟩
theorem WkE.trans {K:Key} {t:Nat} {a b c:S} (h:WkE K t a b) (h':WkE K t b c):WkE K t a c:=
 ⟨h'.1.trans h.1,fun X n A' hA Γ0 ac w hat=>h'.2 X n A' (by rw[h.1];exact hA) Γ0 ac w (h.2 X n A' hA Γ0 ac w hat)⟩
theorem Z0 {X:Cx} {n:Nat} {Γ0:G} {K:Key} {t:Nat} {a:Act} {w:World} {s:S} {k:Key} {x:V} (hk:¬(k=K\/k= .l t)) (hx:s.obj k=some (.box x)) (h:AtE X n Γ0 K t s a w):AtE X n Γ0 K t (s.put k (.box (x.ren (mvK K t) id))) a w:=by
 obtain⟨Γ,g1,g3,c,hs,hn,hf,hA,hι⟩:=h;have hkK:(some k:Option Key)≠some K:=fun e=>hk (.inl (by cases e;rfl));refine⟨Γ,g1,g3,c.dW hx (fun yp=>?_) (fun hv=>?_),hs,hn,hf,hA,hι⟩
 ·obtain⟨b,cells,T,h1,h2,h3,h4,h5,h6,h7,h8⟩:=yp;have hmv:mvK K t k=k:=by unfold mvK;rw[if_neg (fun e=>hk (.inl e))]
  have:=AA.Ce (θ:=id) (sL hι hkK) h8 h6;simp only[Option.map_some,hmv]at this;exact⟨b,cells,T,by rw[V.JB];exact h1,h2,h3,h4,by rw[V.JB];exact h5,by rw[V.JB];exact this,by rw[V.dS];exact h7,by rw[V.Wd];exact h8⟩
 ·obtain⟨e,rfl⟩:=hv;exact⟨e,by simp[V.ren]⟩
theorem Wk (K:Key) (t:Nat):∀(ks:List Key) (s:S),WkE K t s (IU K t ks s)
 | [],s=>WkE.refl s|k::ks,s=>by simp only[IU];split;{exact Wk K t ks s};{rename_i hk;split;{rename_i x hx;exact WkE.trans (b:=s.put k (.box (x.ren (mvK K t) id))) ⟨rfl,fun X n A' hA Γ0 a w h=>Z0 (s:=s.wA A') hk (Dz hA hx) h⟩ (Wk K t ks _)};{exact Wk K t ks s}}
def Qf (K:Key) (t:Nat) (ks:List Key) (s:S):S:=
 match s.obj K with
 |some (.box (.d (.arr M e) cc))=>if(s.obj (.l t)).isNone=true then
   {IU K t ks ((s.put K (.dead (.arr M e))).put (.l t) (.box (.d (.arr M e) cc)))with env:=s.env.map fun p=>(p.1,p.2.ren (mvK K t) id)} else s
 |_=>s
theorem g8 {X:Cx} {n:Nat} {Γ0:G} {K:Key} {t:Nat} {a:Act} {w:World} {s:S} {M:Nat} {e:Ty} {cc:C} (hK:s.obj K=some (.box (.d (.arr M e) cc))) (ht:s.obj (.l t)=none) (h:At X n Γ0 s a w):
  AtE X n Γ0 K t ((s.put K (.dead (.arr M e))).put (.l t) (.box (.d (.arr M e) cc))) a w:=by
 obtain⟨Γ,g1,g3,c,hs,hn,hf,hA⟩:=h;have yi:∀j,jt ((s.put K (.dead (.arr M e))).put (.l t) (.box (.d (.arr M e) cc))) j=jt {s with loc:=(Key.l t,O.box (.d (.arr M e) cc))::(K,O.dead (.arr M e))::s.loc} j:=fun j=>by rw[EG,EG,show jt {s with loc:=(Key.l t,O.box (.d (.arr M e) cc))::(K,O.dead (.arr M e))::s.loc} j=jt {({s with loc:=(K,O.dead (.arr M e))::s.loc}:S)with loc:=(Key.l t,O.box (.d (.arr M e) cc))::({s with loc:=(K,O.dead (.arr M e))::s.loc}:S).loc} j from rfl,DZ,DZ]
 rcases c.obj K _ hK with⟨h1,h2⟩|yp
 · -- without a block
  refine⟨Γ,g1,g3,⟨c.hH,c.hZ,c.hκ,fun j o hj=>?_,fun j hj=>?_,c.KI (fun j hj=>?_),c.tok,c.yu,c.hgl,c.hoo,c.hσ⟩,hs,hn,hf,hA,fun x hx=>by rw[h1]at hx;cases hx⟩;{rw[EG]at hj;split at hj;{rename_i e1;subst e1;cases hj;exact .inl ⟨c.Qd ht,h2⟩};{rw[EG]at hj;split at hj;{rename_i e1;subst e1;cases hj;exact .inl ⟨h1,trivial⟩};{exact c.obj j o hj}}};{rw[EG];split;{simp};{rw[EG];split;{simp};{exact c.dom j hj}}};{unfold S.CY at hj ⊢;rw[EG];split;{rename_i e1;subst e1;rw[ht]at hj;cases hj};{rw[EG];split;{rfl};{exact hj}}}
 ·obtain⟨b,cells,T,e1,e2,e3,⟨fr0,e4,zb⟩,e5,e6,e7,e8⟩:=yp;have hx0:AA Γ none [] (.d (.arr M e) cc) (chunk cells.toList 0 (V.d (.arr M e) cc).ty.size):=by simp only[AA]at e6 ⊢;exact e6
  obtain⟨k1,k2,k3⟩:=c.wS (w':=w) (j:=.l t) (x':=.d (.arr M e) cc) hK rfl e1 ht e4 zb (fun _ _=>rfl) rfl rfl e5 hx0 e7 e8 (fun arr T' fr h=>by rw[e4]at h;cases h;rfl);have hkt:K≠.l t:=fun e=>by rw[e,ht]at hK;cases hK
  refine⟨_,g1.trans k3,by rw[k3.gl];exact g3,k1.congr yi (fun _=>rfl) (fun _ h=>h),hs.Bn k2,hn,hf,hA,fun x hx=>?_⟩;have:Γ.ι K=some x:=by simpa[G.addKey,EW,hkt]using hx
  rw[e1]at this;cases this;simp[G.addKey,EW,V.ty]
theorem j9 (K:Key) (t:Nat) (ks:List Key) (s:S):(Qf K t ks s).A=s.A/\∀(X:Cx) (n:Nat) (A':Key->Option O),leA s.A A'->EI X n (s.wA A') ((Qf K t ks s).wA A'):=by
 unfold Qf;split
 ·rename_i M e cc hK;split
  ·rename_i ht;have ht':s.obj (.l t)=none:=by simpa using ht
   refine⟨Wj K t ks _,fun X n A' hA Γ0 a w hat=>?_⟩;have h1:=g8 (s:=s.wA A') (Dz hA hK) (by rw[KQ];exact ht') hat;obtain⟨_,h2⟩:=Wk K t ks ((s.put K (.dead (.arr M e))).put (.l t) (.box (.d (.arr M e) cc)));obtain⟨Γ,g1,g3,c,hs,hn,hf,zd,hι⟩:=h2 X n A' hA Γ0 a w h1;refine⟨Γ,g1,g3,c.congr (fun _=>rfl) (fun _=>rfl) (fun _ h=>h),fun i=>?_,hn,hf,zd⟩;have zk:((IU K t ks ((s.put K (.dead (.arr M e))).put (.l t) (.box (.d (.arr M e) cc)))).wA A').env=s.env:=by
    have:∀(ks:List Key) (s:S),(IU K t ks s).env=s.env:=by
     intro ks
     induction ks with
     |nil=>intro s;rfl|cons k ks ih=>
      intro s;simp only[IU];split;{exact ih s};{split;{exact ih _};{exact ih s}}
    exact this ks _
   have hi:=hs i;have e1:S.get ((IU K t ks ((s.put K (.dead (.arr M e))).put (.l t) (.box (.d (.arr M e) cc)))).wA A') i=(look s.env i).getD .any:=by unfold S.get;rw[zk]
   rw[e1]at hi;show AK Γ ((look (s.env.map fun p=>(p.1,p.2.ren (mvK K t) id)) i).getD .any) _;rw[aL];cases hl:look s.env i with
   |none=>trivial|some x=>
    rw[hl]at hi;exact AK.mv hι hi
  ·exact⟨rfl,fun _ _ _ _=>EI.refl _⟩
 ·exact⟨rfl,fun _ _ _ _=>EI.refl _⟩
def T0:Nat:=1000000000000000
mutual
def V.Dw:Sh->V->V
 | .vec (.l a) eb e,x=>(match x with| .emp eb' e'=>if eb'=eb/\e'=e then .sr (.l (a+T0)) [] 0 0 none eb e else x|x=>x)| .agg _ l,x=>(match x with| .agg τ xs=>.agg τ (V.GQ l xs)|x=>x)|_,x=>x
def V.GQ:List Sh->List V->List V
 |s::l,x::xs=>V.Dw s x::V.GQ l xs|_,xs=>xs
end
theorem V.ah:∀(l:List Sh) (xs:List V),(V.GQ l xs).length=xs.length
 | [],xs=>by simp[V.GQ]
 |s::l,[]=>by simp[V.GQ]
 |s::l,x::xs=>by simp[V.GQ,V.ah l xs]
theorem V.Tg (s:Sh) (x:V):(V.Dw s x).ty=x.ty:=by unfold V.Dw;split;{split;{split;{rename_i h;obtain⟨rfl,rfl⟩:=h;rfl};{rfl}};{rfl}};{split <;> rfl};{rfl}
theorem V.ag (s:Sh) (x:V):(V.Dw s x).plain=x.plain:=by unfold V.Dw;split;{split;{split;{rfl};{rfl}};{rfl}};{split <;> rfl};{rfl}
mutual
theorem V.ae:∀(s:Sh) (x:V),(V.Dw s x).BW=x.BW
 | .vec (.l a) eb e,x=>by simp only[V.Dw];split;{split <;> simp[V.BW]};{rfl}
 | .agg _ l,x=>by simp only[V.Dw];split;{simp only[V.BW];exact V.ai l _};{rfl}
 | .vec (.g _) _ _,_| .d _,_| .sl _ _ _,_| .ts _ _,_| .sr _ _ _ _ _,_| .yf _,_| .arr _,_| .as _,_| .fnc _ _,_=>by simp[V.Dw]
theorem V.ai:∀(l:List Sh) (xs:List V),V.DB (V.GQ l xs)=V.DB xs
 | [],xs=>by simp[V.GQ]
 |s::l,[]=>by simp[V.GQ]
 |s::l,x::xs=>by simp only[V.GQ,V.DB,V.ae s x,V.ai l xs]
end
mutual
theorem AA.Dw {Γ:G} {hm:Option Key}:∀(s:Sh) (x:V) {p:List Nat} {vs:List Value},AA Γ hm p x vs->AA Γ hm p (V.Dw s x) vs
 | .vec (.l a) eb e,x,p,vs,h=>by simp only[V.Dw];split;{split;{simp only[AA]at h ⊢;obtain⟨a,h⟩:=h;exact .inl ⟨trivial,trivial,a,h⟩};{exact h}};{exact h}
 | .agg _ l,x,p,vs,h=>by simp only[V.Dw];split;{simp only[AA]at h ⊢;exact⟨h.1,h.2.1,by rw[V.ah];exact h.2.2.1,h.2.2.2.1,Ag.GQ l _ h.2.2.2.2⟩};{exact h}
 | .vec (.g _) _ _,_,_,_,h| .d _,_,_,_,h| .sl _ _ _,_,_,_,h| .ts _ _,_,_,_,h| .sr _ _ _ _ _,_,_,_,h| .yf _,_,_,_,h| .arr _,_,_,_,h| .as _,_,_,_,h| .fnc _ _,_,_,_,h=>by simpa only[V.Dw]using h
theorem Ag.GQ {Γ:G} {hm:Option Key}:∀(l:List Sh) (xs:List V) {p:List Nat} {i:Nat} {τ:Ty} {vs:List Value},Ag Γ hm p i τ xs vs->Ag Γ hm p i τ (V.GQ l xs) vs
 | [],xs,_,_,_,_,h=>by simpa only[V.GQ]using h
 |s::l,[],_,_,_,_,h=>by simpa only[V.GQ]using h
 |s::l,x::xs,_,_,_,_,h=>by simp only[Ag,V.GQ,V.Tg]at h ⊢;obtain⟨⟨o,f,h1,h2,h3,h4⟩,h5⟩:=h;exact⟨⟨o,f,h1,h2,h3,AA.Dw s x h4⟩,Ag.GQ l xs h5⟩
end
mutual
def V.gH:Sh->V->List (Nat × Ty)
 | .vec (.l a) eb e,x=>(match x with| .emp eb' e'=>if eb'=eb/\e'=e then[(a+T0,e)]else[]| .ye=>[(a+T0,e)]|_=>[])| .agg _ l,x=>(match x with| .agg _ xs=>V.ab l xs|_=>[])|_,_=>[]
def V.ab:List Sh->List V->List (Nat × Ty)
 |s::l,x::xs=>V.gH s x++V.ab l xs|_,_=>[]
end
def Qa:List (Nat × Ty)->S->S
 | [],s=>s|(t,e)::l,s=>if(s.obj (.l t)).isNone=true then Qa l (s.put (.l t) (.box (.d (.arr 0 e) (.agg []))))else Qa l s
def V.MF (s:Sh) (x:V):V:=
 match s,x with
 | .vec (.l a) eb e,.ye=>.sr (.l (a+T0)) [] 0 0 none eb e|s,x=>V.Dw s x
def Te:List (Nat × Sh)->S->S
 | [],s=>s|(i,sh)::l,s=>(match V.gH sh (s.get i)with| []=>Te l s|ns=>Te l (Qa ns (s.set (some i) (V.MF sh (s.get i)))))
def Np:List (Key × OSh)->S->S
 | [],s=>s|(k,.box sh)::l,s=>(match s.obj k with|some (.box x)=>(match V.gH sh x with| []=>Np l s|ns=>Np l (Qa ns (s.put k (.box (V.Dw sh x)))))|_=>Np l s)|_::l,s=>Np l s
section
mutual
def V.Fw (s:S):V->V
 | .agg τ vs=>.agg τ (V.Hn s vs)|x=>De s x
def V.Hn (s:S):List V->List V
 | []=>[]|x::xs=>V.Fw s x::V.Hn s xs
end
mutual
def V.Rw:V->List Nat
 | .agg _ vs=>V.VT vs|x=>GY x
def V.VT:List V->List Nat
 | []=>[]|x::xs=>V.Rw x++V.VT xs
end
mutual
def V.frz (s:S):Sh->V->V
 | .d _,x=>x.Fw s| .agg _ l,x=>(match x with| .agg τ xs=>.agg τ (V.Ft s l xs)|x=>x)|_,x=>x
def V.Ft (s:S):List Sh->List V->List V
 |sh::l,x::xs=>V.frz s sh x::V.Ft s l xs|_,xs=>xs
end
mutual
def V.Ja:Sh->V->List Nat
 | .d _,x=>x.Rw| .agg _ l,x=>(match x with| .agg _ xs=>V.Uy l xs|_=>[])|_,_=>[]
def V.Uy:List Sh->List V->List Nat
 |sh::l,x::xs=>V.Ja sh x++V.Uy l xs|_,_=>[]
end
theorem AA.Sc {Γ Γ':G} (p:Bg Γ Γ') {q:List Nat} {x:V} {vs:List Value} (h:AA Γ none q x vs):AA Γ' none q x vs:=AA.Bn p (hm:=none) trivial x h
theorem qY (s:S) (x:V):(De s x).ty=x.ty/\(De s x).plain=x.plain:=by
 unfold De;split;{split;{split;{split;{split;{exact⟨rfl,rfl⟩};{exact⟨rfl,rfl⟩}};{exact⟨rfl,rfl⟩}};{exact⟨rfl,rfl⟩}};{exact⟨rfl,rfl⟩}};{exact⟨rfl,rfl⟩}
theorem V.qT (s:S) (x:V):(x.Fw s).ty=x.ty/\(x.Fw s).plain=x.plain:=by cases x <;> simp only[V.Fw] <;> first|exact qY s _|exact⟨rfl,rfl⟩
theorem V.qV (s:S):∀xs:List V,(V.Hn s xs).length=xs.length
 | []=>rfl|x::xs=>by simp[V.Hn,V.qV s xs]
theorem V.ZL (s:S) (sh:Sh) (x:V):(V.frz s sh x).ty=x.ty/\(V.frz s sh x).plain=x.plain:=by unfold V.frz;split;{exact V.qT s x};{split <;> exact⟨rfl,rfl⟩};{exact⟨rfl,rfl⟩}
theorem V.oA (s:S):∀(l:List Sh) (xs:List V),(V.Ft s l xs).length=xs.length
 | [],xs=>by simp[V.Ft]
 |_::_,[]=>by simp[V.Ft]
 |sh::l,x::xs=>by simp[V.Ft,V.oA s l xs]
section
variable {Γ Γ':G} {s:S} {js:List Nat} (p:Bg Γ Γ') (hc:∀(x:V) (v:Value),AK Γ x v->(∀j∈GY x,j∈js)->AK Γ' (De s x) v)
include p hc
theorem AA.De {x:V} {q:List Nat} {vs:List Value} (hx:x.plain=true) (ha:x.ty.isAgg=false) (h:AA Γ none q x vs) (hk:∀j∈GY x,j∈js):AA Γ' none q (De s x) vs:=by
 by_cases hn:GY x=[];{rw[qX (fun j hj=>by rw[hn]at hj;cases hj)];exact h.Sc p}
 ·cases x <;> (try (exact absurd rfl hn));rename_i k q0 lo n cp eb e;cases k with
  |g k=>exact absurd rfl hn|l j=>
   have hv:∃v,vs=[v]/\AK Γ (.sr (.l j) q0 lo n cp eb e) v:=by have h':=h;simp only[AA]at h;rcases h with⟨_,_,a,rfl⟩|⟨b,τ0,o,m,cap,_,_,_,⟨a,rfl,_⟩,_⟩;{exact⟨_,rfl,(Ch rfl rfl).2 ⟨by simpa only[AA]using h',rfl⟩⟩};{exact⟨_,rfl,(Ch rfl rfl).2 ⟨by simpa only[AA]using h',rfl⟩⟩}
   obtain⟨v,rfl,hv⟩:=hv;have h2:=hc _ _ hv hk;have h3:=qY s (.sr (.l j) q0 lo n cp eb e);have hvc:v.cells.toList=[v]:=by rcases Hx hv with⟨_,_,a,rfl⟩|⟨b,τ0,o,m,cap,a,_,_,_,rfl,_⟩ <;> rfl
   obtain⟨h4,_⟩:=(Ca (by rw[h3.2];rfl)).1 h2;rw[hvc]at h4;exact AA.EZ _ h4
mutual
theorem AA.Fw:∀(x:V) {q:List Nat} {vs:List Value},AA Γ none q x vs->(∀j∈x.Rw,j∈js)->AA Γ' none q (x.Fw s) vs
 | .agg τ xs,q,vs,h,hk=>by simp only[V.Fw,V.Rw]at hk ⊢;simp only[AA]at h ⊢;exact⟨h.1,h.2.1,by rw[V.qV];exact h.2.2.1,h.2.2.2.1,Ag.Hn xs h.2.2.2.2 hk⟩
 | .any,q,vs,_,_=>by simp only[V.Fw,Go.E.De,AA]
 | .tup _,q,vs,h,_=>by simp only[AA]at h
 | .d τ c,q,vs,h,_=>by simp only[V.Fw,Go.E.De];exact h.Sc p
 | .sl _ _ _ _,q,vs,h,hk| .ts _ _ _,q,vs,h,hk| .emp _ _,q,vs,h,hk| .ye,q,vs,h,hk| .ptr _ _ _,q,vs,h,hk| .yf _ _,q,vs,h,hk| .mp _,q,vs,h,hk| .fn _ _,q,vs,h,hk| .top _,q,vs,h,hk=>by simp only[V.Fw,Go.E.De];exact h.Sc p
 | .sr k q0 lo n cp eb e,q,vs,h,hk=>by simp only[V.Fw];exact AA.De p hc rfl rfl h (by simpa only[V.Rw]using hk)
theorem Ag.Hn:∀(xs:List V) {q:List Nat} {i:Nat} {τ:Ty} {vs:List Value},Ag Γ none q i τ xs vs->(∀j∈V.VT xs,j∈js)->Ag Γ' none q i τ (V.Hn s xs) vs
 | [],_,_,_,_,_,_=>by simp only[V.Hn,Ag]
 |x::xs,_,_,_,_,h,hk=>by simp only[Ag,V.Hn,(V.qT s x).1]at h ⊢;simp only[V.VT,eh]at hk;obtain⟨⟨o,f,h1,h2,h3,h4⟩,h5⟩:=h;exact⟨⟨o,f,h1,h2,h3,AA.Fw x h4 fun j hj=>hk j (.inl hj)⟩,Ag.Hn xs h5 fun j hj=>hk j (.inr hj)⟩
end
mutual
theorem AA.frz:∀(sh:Sh) (x:V) {q:List Nat} {vs:List Value},AA Γ none q x vs->(∀j∈V.Ja sh x,j∈js)->AA Γ' none q (V.frz s sh x) vs
 | .d _,x,q,vs,h,hk=>by simp only[V.frz,V.Ja]at hk ⊢;exact AA.Fw p hc x h hk
 | .agg _ l,x,q,vs,h,hk=>by simp only[V.frz,V.Ja]at hk ⊢;split;{simp only[AA]at h ⊢;exact⟨h.1,h.2.1,by rw[V.oA];exact h.2.2.1,h.2.2.2.1,Ag.Ft l _ h.2.2.2.2 hk⟩};{exact h.Sc p}
 | .sl _ _ _,x,q,vs,h,_| .ts _ _,x,q,vs,h,_| .sr _ _ _ _ _,x,q,vs,h,_| .yf _,x,q,vs,h,_| .arr _,x,q,vs,h,_| .as _,x,q,vs,h,_| .vec _ _ _,x,q,vs,h,_| .fnc _ _,x,q,vs,h,_=>by simp only[V.frz];exact h.Sc p
theorem Ag.Ft:∀(l:List Sh) (xs:List V) {q:List Nat} {i:Nat} {τ:Ty} {vs:List Value},Ag Γ none q i τ xs vs->(∀j∈V.Uy l xs,j∈js)->Ag Γ' none q i τ (V.Ft s l xs) vs
 | [],xs,_,_,_,_,h,_=>by simp only[V.Ft];exact Ag.Bn p (hm:=none) trivial xs h
 |_::_,[],_,_,_,_,_,_=>by simp only[V.Ft,Ag]
 |sh::l,x::xs,_,_,_,_,h,hk=>by simp only[Ag,V.Ft,(V.ZL s sh x).1]at h ⊢;simp only[V.Uy,eh]at hk;obtain⟨⟨o,f,h1,h2,h3,h4⟩,h5⟩:=h;exact⟨⟨o,f,h1,h2,h3,AA.frz sh x h4 fun j hj=>hk j (.inl hj)⟩,Ag.Ft l xs h5 fun j hj=>hk j (.inr hj)⟩
end
theorem AK.frz {sh:Sh} {x:V} {v:Value} (h:AK Γ x v) (hk:∀j∈V.Ja sh x,j∈js):AK Γ' (V.frz s sh x) v:=by
 by_cases hp:x.plain=true;{obtain⟨h1,h2⟩:=(Ca hp).1 h;exact(Ca (by rw[(V.ZL s sh x).2];exact hp)).2 ⟨AA.frz p hc sh x h1 hk,by rw[(V.ZL s sh x).1];exact h2⟩}
 ·have:V.frz s sh x=x:=by cases x <;> simp[V.plain]at hp <;> (unfold V.frz;split <;> rfl)
  rw[this];exact h.Bn p
end
def Ip (s:S):List (Nat × Sh)->List Nat
 | []=>[]|(i,sh)::l=>V.Ja sh (s.get i)++Ip s l
def Ir (s0:S):List (Nat × Sh)->S->S
 | [],s=>s|(i,sh)::l,s=>Ir s0 l (match V.Ja sh (s0.get i)with| []=>s|_=>s.set (some i) (V.frz s0 sh (s0.get i)))
def KC (sh:SSh) (s:S):S:=
 match Ip s sh.env with
 | []=>s|js=>Ir s sh.env (Ec js s)
theorem ZK (s0:S):∀(l:List (Nat × Sh)) (s:S),(Ir s0 l s).loc=s.loc/\(Ir s0 l s).tk=s.tk/\(Ir s0 l s).A=s.A
 | [],s=>⟨rfl,rfl,rfl⟩|(i,sh)::l,s=>by simp only[Ir];have:=ZK s0 l (match V.Ja sh (s0.get i)with| []=>s|_=>s.set (some i) (V.frz s0 sh (s0.get i)));refine⟨this.1.trans ?_,this.2.1.trans ?_,this.2.2.trans ?_⟩ <;> (split <;> rfl)
theorem nX {Γ':G} {tmps:Array Value} {s0:S} {js:List Nat} (h0:∀i sh,(∀j∈V.Ja sh (s0.get i),j∈js)->AK Γ' (V.frz s0 sh (s0.get i)) (tmps.getD i undef)):∀(l:List (Nat × Sh)) (s:S),(∀j∈Ip s0 l,j∈js)->(∀i,AK Γ' (s.get i) (tmps.getD i undef))->∀i,AK Γ' ((Ir s0 l s).get i) (tmps.getD i undef)
 | [],s,_,h=>h|(i,sh)::l,s,hk,h=>by simp only[Ir];simp only[Ip,eh]at hk;refine nX h0 l _ (fun j hj=>hk j (.inr hj)) fun m=>?_;split;{exact h m};{rw[KF];split;{rename_i e;cases e;exact h0 i sh fun j hj=>hk j (.inl hj)};{exact h m}}
theorem Q9 {X:Cx} {n:Nat} {Γ0:G} {a:Act} {w:World} {sh:SSh} {s:S} (h:At X n Γ0 s a w):At X n Γ0 (KC sh s) a w:=by unfold KC;split;{exact h};{obtain⟨Γ,g1,g3,c,hs,hn,hf,hA⟩:=h;obtain⟨Γ',g,p,c',hcv⟩:=VU (Ip s sh.env) s c;have hl:=ZK s sh.env (Ec (Ip s sh.env) s);have hE:=Rx (Ip s sh.env) s;refine⟨Γ',g1.trans g,g.gl.trans g3,c'.congr (fun k=>?_) (fun t=>?_) (fun t ht=>?_),?_,hn,hf,by rw[hl.2.2,hE.2];exact hA⟩;{unfold jt;rw[hl.1,hl.2.2]};{unfold S.live;rw[hl.2.1]};{unfold S.known at ht ⊢;rw[hl.2.1];exact ht};{refine nX (js:=Ip s sh.env) (fun i sh' hk=>AK.frz p hcv (hs i) hk) sh.env _ (fun j hj=>hj) fun i=>?_;exact Lz hE.1 (hs.Bn p) i}}
mutual
theorem V.qU (s:S) (A':Key->Option O):∀x:V,x.Fw (s.wA A')=x.Fw s
 | .agg τ vs=>by simp only[V.Fw];rw[V.qW s A' vs]
 | .d _ _| .sl _ _ _ _| .ts _ _ _| .emp _ _| .ye| .ptr _ _ _| .yf _ _| .mp _| .fn _ _| .top _| .any| .tup _| .sr _ _ _ _ _ _ _=>by simp only[V.Fw];exact qZ s A' _
theorem V.qW (s:S) (A':Key->Option O):∀xs:List V,V.Hn (s.wA A') xs=V.Hn s xs
 | []=>rfl|x::xs=>by simp only[V.Hn];rw[V.qU s A' x,V.qW s A' xs]
end
mutual
theorem V.nZ (s:S) (A':Key->Option O):∀(sh:Sh) (x:V),V.frz (s.wA A') sh x=V.frz s sh x
 | .d _,x=>by simp only[V.frz];exact V.qU s A' x
 | .agg _ l,x=>by simp only[V.frz];split <;> (try rfl);rw[V.oB s A' l]
 | .sl _ _ _,x| .ts _ _,x| .sr _ _ _ _ _,x| .yf _,x| .arr _,x| .as _,x| .vec _ _ _,x| .fnc _ _,x=>by simp only[V.frz]
theorem V.oB (s:S) (A':Key->Option O):∀(l:List Sh) (xs:List V),V.Ft (s.wA A') l xs=V.Ft s l xs
 | [],xs=>by simp only[V.Ft]
 |_::_,[]=>by simp only[V.Ft]
 |sh::l,x::xs=>by simp only[V.Ft];rw[V.nZ s A' sh x,V.oB s A' l xs]
end
theorem mG (s:S) (A':Key->Option O):∀l:List (Nat × Sh),Ip (s.wA A') l=Ip s l
 | []=>rfl|(i,sh)::l=>by simp only[Ip];rw[mG s A' l];rfl
theorem nY (s0:S) (A':Key->Option O):∀(l:List (Nat × Sh)) (s:S),Ir (s0.wA A') l (s.wA A')=(Ir s0 l s).wA A'
 | [],_=>rfl|(i,sh)::l,s=>by simp only[Ir];rw[<-nY s0 A' l];congr 1;show(match V.Ja sh (s0.get i)with| []=>s.wA A'|_=>(s.wA A').set (some i) (V.frz (s0.wA A') sh (s0.get i)))=_;rw[V.nZ];split <;> rfl
theorem q2d (sh:SSh) (s:S) (A':Key->Option O):KC sh (s.wA A')=(KC sh s).wA A':=by unfold KC;rw[mG];split;{rfl};{rw[Zv];exact nY s A' sh.env _}
end
def IC {R:Type}:Key->(Key->Option R)->Option R
 | .l 0,K=>K (.l 0)| .l (n+1),K=>K (.l (n+1))| .g k,K=>IC k fun k=>K (.g k)
theorem LL {R:Type}:∀(k:Key) (K:Key->Option R),IC k K=K k
 | .l 0,K=>rfl| .l (n+1),K=>rfl| .g k,K=>by simp only[IC,LL k]
mutual
def IE {R:Type}:V->(V->Option R)->Option R
 | .d τ c,K=>K (.d τ c)| .sl eb e cs t,K=>K (.sl eb e cs t)| .ts eb e cs,K=>K (.ts eb e cs)| .emp eb e,K=>K (.emp eb e)| .ye,K=>K .ye| .ptr k q τ,K=>IC k fun k=>K (.ptr k q τ)| .yf τ c,K=>K (.yf τ c)| .sr k q lo n cp eb e,K=>IC k fun k=>K (.sr k q lo n cp eb e)| .mp k,K=>IC k fun k=>K (.mp k)| .agg τ l,K=>PF l fun l=>K (.agg τ l)| .fn f l,K=>K (.fn f l)| .tup l,K=>PF l fun l=>K (.tup l)| .top τ,K=>K (.top τ)| .any,K=>K .any
def PF {R:Type}:List V->(List V->Option R)->Option R
 | [],K=>K []|x::l,K=>IE x fun x=>PF l fun l=>K (x::l)
end
mutual
theorem Rf {R:Type}:∀(x:V) (K:V->Option R),IE x K=K x
 | .d _ _,_| .sl _ _ _ _,_| .ts _ _ _,_| .emp _ _,_| .ye,_| .yf _ _,_| .fn _ _,_| .top _,_| .any,_=>by simp only[IE]
 | .ptr k q τ,K=>by simp only[IE,LL]
 | .sr k q lo n cp eb e,K=>by simp only[IE,LL]
 | .mp k,K=>by simp only[IE,LL]
 | .agg τ l,K=>by simp only[IE,ZG l]
 | .tup l,K=>by simp only[IE,ZG l]
theorem ZG {R:Type}:∀(l:List V) (K:List V->Option R),PF l K=K l
 | [],K=>by simp only[PF]
 |x::l,K=>by simp only[PF,Rf x,ZG l]
end
def Uv {R:Type}:List (Nat × V)->(List (Nat × V)->Option R)->Option R
 | [],K=>K []|(i,x)::l,K=>IE x fun x=>Uv l fun l=>K ((i,x)::l)
theorem nR {R:Type}:∀(l:List (Nat × V)) (K:List (Nat × V)->Option R),Uv l K=K l
 | [],K=>rfl|(i,x)::l,K=>by simp only[Uv,Rf,nR l]
def RZ {R:Type}:List (Key × O)->(List (Key × O)->Option R)->Option R
 | [],K=>K []|(k,.box x)::l,K=>IC k fun k=>IE x fun x=>RZ l fun l=>K ((k,.box x)::l)|(k,o)::l,K=>IC k fun k=>RZ l fun l=>K ((k,o)::l)
theorem nS {R:Type}:∀(l:List (Key × O)) (K:List (Key × O)->Option R),RZ l K=K l
 | [],K=>rfl|(k,o)::l,K=>by cases o <;> simp only[RZ,LL,Rf,nS l]
def Rd {R:Type}:List (Nat × Option Nat)->(List (Nat × Option Nat)->Option R)->Option R
 | [],K=>K []|(i,none)::l,K=>Rd l fun l=>K ((i,none)::l)|(i,some n)::l,K=>Rd l fun l=>K ((i,some n)::l)
theorem nW {R:Type}:∀(l:List (Nat × Option Nat)) (K:List (Nat × Option Nat)->Option R),Rd l K=K l
 | [],K=>rfl|(i,o)::l,K=>by cases o <;> simp only[Rd,nW l]
def frc {R:Type} (s:S) (K:S->Option R):Option R:=
 match s with
 |⟨env,loc,A,tk⟩=>Uv env fun env=>RZ loc fun loc=>Rd tk fun tk=>K ⟨env,loc,A,tk⟩
theorem ZI {R:Type} (s:S) (K:S->Option R):frc s K=K s:=by unfold frc;simp only[nR,nS,nW]
def PE {R:Type}:List Cap->(List Cap->Option R)->Option R
 | [],K=>K []| .c τ::l,K=>PE l fun l=>K (.c τ::l)| .v x::l,K=>IE x fun x=>PE l fun l=>K (.v x::l)
theorem ZD {R:Type}:∀(l:List Cap) (K:List Cap->Option R),PE l K=K l
 | [],K=>rfl| .c τ::l,K=>by simp only[PE,ZD l]
 | .v x::l,K=>by simp only[PE,Rf,ZD l]
mutual
def JZ {R:Type}:Sh->(Sh->Option R)->Option R
 | .sr k q cp eb e,K=>IC k fun k=>K (.sr k q cp eb e)| .vec k eb e,K=>IC k fun k=>K (.vec k eb e)| .agg τ l,K=>Rc l fun l=>K (.agg τ l)| .as v,K=>IE v fun v=>K (.as v)| .d τ,K=>K (.d τ)| .sl eb e t,K=>K (.sl eb e t)| .ts eb e,K=>K (.ts eb e)| .yf τ,K=>K (.yf τ)| .arr e,K=>K (.arr e)| .fnc f l,K=>PE l fun l=>K (.fnc f l)
def Rc {R:Type}:List Sh->(List Sh->Option R)->Option R
 | [],K=>K []|x::l,K=>JZ x fun x=>Rc l fun l=>K (x::l)
end
mutual
theorem ZF {R:Type}:∀(x:Sh) (K:Sh->Option R),JZ x K=K x
 | .d _,_| .sl _ _ _,_| .ts _ _,_| .yf _,_| .arr _,_=>by simp only[JZ]
 | .sr _ _ _ _ _,K=>by simp only[JZ,LL]
 | .vec _ _ _,K=>by simp only[JZ,LL]
 | .as v,K=>by simp only[JZ,Rf]
 | .fnc f l,K=>by simp only[JZ,ZD]
 | .agg τ l,K=>by simp only[JZ,nV l]
theorem nV {R:Type}:∀(l:List Sh) (K:List Sh->Option R),Rc l K=K l
 | [],K=>by simp only[Rc]
 |x::l,K=>by simp only[Rc,ZF x,nV l]
end
def Uw {R:Type}:List (Nat × Sh)->(List (Nat × Sh)->Option R)->Option R
 | [],K=>K []|(i,x)::l,K=>JZ x fun x=>Uw l fun l=>K ((i,x)::l)
theorem nT {R:Type}:∀(l:List (Nat × Sh)) (K:List (Nat × Sh)->Option R),Uw l K=K l
 | [],K=>rfl|(i,x)::l,K=>by simp only[Uw,ZF,nT l]
def Ra {R:Type}:List (Key × OSh)->(List (Key × OSh)->Option R)->Option R
 | [],K=>K []|(k,.box x)::l,K=>IC k fun k=>JZ x fun x=>Ra l fun l=>K ((k,.box x)::l)|(k,o)::l,K=>IC k fun k=>Ra l fun l=>K ((k,o)::l)
theorem nU {R:Type}:∀(l:List (Key × OSh)) (K:List (Key × OSh)->Option R),Ra l K=K l
 | [],K=>rfl|(k,o)::l,K=>by cases o <;> simp only[Ra,LL,ZF,nU l]
def Rb {R:Type} (s:SSh) (K:SSh->Option R):Option R:=
 match s with
 |⟨env,loc⟩=>Uw env fun env=>Ra loc fun loc=>K ⟨env,loc⟩
theorem ZE {R:Type} (s:SSh) (K:SSh->Option R):Rb s K=K s:=by unfold Rb;simp only[nT,nU]
def jQ:List V->Bool
 | []=>false| .yf _ _::_=>true|_::l=>jQ l
def Xx:List V->List Cap
 | []=>[]| .yf τ _::l=>.c τ::Xx l|x::l=>.v x::Xx l
mutual
def V.Tr:V->Sh
 | .d τ _=>(match τ with| .ptr=>.as (.d .ptr .nil)| .map=>.as (.d .map .nil)| .func=>.as (.d .func .nil)|τ=>.d τ)| .sl eb e _ _=>.d (.slice eb e)| .ts eb e _=>.ts eb e| .sr k q _ _ cp eb e=>(match q,cp with| [],none=>.vec k eb e|q,cp=>.sr k q cp.isSome eb e)| .yf τ _=>.yf τ| .agg τ vs=>.agg τ (V.hJ vs)| .tup _=>.as .any| .fn f vs=>bif jQ vs then .fnc f (Xx vs)else .as (.fn f vs)|x=>.as x
def V.hJ:List V->List Sh
 | []=>[]|x::xs=>x.Tr::V.hJ xs
end
mutual
def V.Rm:V->List Key
 | .ptr k _ _| .mp k| .sr k _ _ _ _ _ _=>[k]| .agg _ vs| .fn _ vs| .tup vs=>V.pM vs|_=>[]
def V.pM:List V->List Key
 | []=>[]|x::xs=>x.Rm++V.pM xs
end
def O.Rm:O->List Key
 | .box x=>x.Rm| .map _ _ _=>[]| .it _ _| .dead _=>[]
def Vb:Key->List Key->Bool
 |_,[]=>false|k,j::l=>if j=k then true else Vb k l
def WO (s:S):Nat->List Key->List Key->List Key
 |0,_,acc=>acc|_,[],acc=>acc|f+1,k::ks,acc=>if Vb k acc=true then WO s f ks acc else(match s.obj k with|some o=>WO s f (o.Rm++ks) (acc++[k])|none=>WO s f ks acc)
structure Hint where
 live:List Nat
 new:List (Nat × Sh)
 roots:List Key
 obs:List (Key × OSh)
 drop:List Key
 z9s:List Ty:=[]
def mI (s:S):List Nat->List Key
 | []=>[]|i::l=>(s.get i).Rm++mI s l
def Xg (s:S):List Nat->List (Nat × Sh)
 | []=>[]|i::l=>(match s.get i with| .any=>Xg s l|x=>(i,x.Tr)::Xg s l)
def PL (e:Ty):List Ty->Bool
 | []=>false|t::l=>if wg t e=true then true else PL e l
def UK:Key->Nat
 | .l n=>2*n| .g k=>2*UK k+1
def V1:Nat:=1000000000000
mutual
def Sh.gI (ts:List Ty):Nat->Sh->V->Sh
 |b,.vec (.g k) eb e,_=>if PL e ts=true then .vec (.l (V1+8*UK (.g k)+2)) eb e else .vec (.g k) eb e|b,.as v,_=>(match v with| .emp eb e=>if PL e ts=true then .vec (.l b) eb e else .as v|v=>.as v)|b,.ts eb e,x=>(match x with| .emp _ _=>if PL e ts=true then .vec (.l b) eb e else .ts eb e|_=>.ts eb e)|b,.agg τ l,x=>(match x with| .agg _ xs=>.agg τ (Sh.aj ts (64*b) l xs)|_=>.agg τ l)|_,s,_=>s
def Sh.aj (ts:List Ty):Nat->List Sh->List V->List Sh
 |b,s::l,x::xs=>Sh.gI ts b s x::Sh.aj ts (b+1) l xs|_,_,_=>[]
end
mutual
def Sh.gK:Sh->List (Key × OSh)
 | .vec (.l a) _ e=>if V1<=a then[(.l a,.box (.arr e))]else[]| .agg _ l=>Sh.z6 l|_=>[]
def Sh.z6:List Sh->List (Key × OSh)
 | []=>[]|s::l=>s.gK++Sh.z6 l
end
def mK (s:S) (ts:List Ty):List (Nat × Sh)->List (Nat × Sh)
 | []=>[]|(i,sh)::l=>(i,sh.gI ts (V1+8*i+3) (s.get i))::mK s ts l
def PT (s:S) (ts:List Ty):List (Key × OSh)->List (Key × OSh)
 | []=>[]|(k,.box sh)::l=>(match k,sh with| .g k,.arr e=>if PL e ts=true then(.g k,.dead e)::(.l (V1+8*UK (.g k)+2),.box (.arr e))::PT s ts l else(.g k,.box sh)::PT s ts l|k,sh=>(match s.obj k with|some (.box x)=>(k,.box (sh.gI ts (V1+8*UK k+1) x))::PT s ts l|_=>(k,.box sh)::PT s ts l))|p::l=>p::PT s ts l
def mL:List (Nat × Sh)->List (Key × OSh)
 | []=>[]|(_,sh)::l=>sh.gK++mL l
def aB:List (Key × OSh)->List (Key × OSh)
 | []=>[]|(_,.box sh)::l=>sh.gK++aB l|_::l=>aB l
def Xi:List (Key × OSh)->List (Key × OSh)->List (Key × OSh)
 | [],acc=>acc|(k,o)::l,acc=>if LV acc k=true then Xi l acc else Xi l (acc++[(k,o)])
def z0j (s:S) (ts:List Ty) (sh:SSh):SSh:=
 match ts with
 | []=>sh|ts=>(match mK s ts sh.env,PT s ts sh.loc with|env,loc=>⟨env,Xi (mL env++aB loc) loc⟩)
def Kv (s:S) (h:Hint):List Key->List (Key × OSh)
 | []=>[]
 |k::l=>if Vb k h.drop=true then Kv s h l else if LV h.obs k=true then Kv s h l else(match s.obj k with|some (.box x)=>(k,.box (match x with| .d (.arr M e) _=>(match k,M with|_,_=>if PL e h.z9s=true then .arr e else .d (.arr M e))| .d τ _=>.d τ|x=>(match h.z9s with| []=>bif (Cl x).isSome then .d x.ty else x.Ep.Tr|_=>x.Tr)))::Kv s h l|some (.map kτ vτ _)=>(k,.map kτ vτ)::Kv s h l|some (.it _ _)=>(k,.it)::Kv s h l|some (.dead (.arr _ e))=>(k,.dead e)::Kv s h l|_=>Kv s h l)
def YW:List (Key × O)->List Key
 | []=>[]|(.g k,.dead _)::l=>.g k::YW l|_::l=>YW l
def bC (h:Hint) (s:S):SSh:=
 z0j s h.z9s ⟨Xg s h.live++h.new,h.obs++Kv s h (WO s 1000 (mI s h.live++h.roots) []++YW s.loc)⟩
def Mj:List (Key × OSh)->S->S
 | [],s=>s|(k,.box _)::l,s=>(match s.obj k with|some (.box x)=>Mj l (s.put k (.box x.Ep))|_=>Mj l s)|_::l,s=>Mj l s
def Jq:List (Nat × Sh)->S->S
 | [],s=>s|(i,sh)::l,s=>(match sh with| .sl eb e t=>(match s.get i with| .ye=>if s.known t=false then Jq l (S.set {s with tk:=(t,some 0)::s.tk} (some i) (.sl eb e [] t))else Jq l s| .emp eb' e'=>if eb'=eb/\e'=e/\s.known t=false then Jq l (S.set {s with tk:=(t,some 0)::s.tk} (some i) (.sl eb e [] t))else Jq l s|_=>Jq l s)|_=>Jq l s)
mutual
def V.un:V->V->List (Nat × Nat)
 | .ptr (.l a) _ _,.ptr (.l b) _ _=>[(b,a)]| .mp (.l a),.mp (.l b)=>[(b,a)]| .fn _ l,.fn _ l'=>V.uns l l'| .tup l,.tup l'=>V.uns l l'|_,_=>[]
def V.uns:List V->List V->List (Nat × Nat)
 |x::xs,y::ys=>V.un x y++V.uns xs ys|_,_=>[]
end
def Xw:List Cap->List V->List (Nat × Nat)
 | .v y::l,x::xs=>V.un y x++Xw l xs| .c _::l,_::xs=>Xw l xs|_,_=>[]
mutual
def Sh.un:Sh->V->List (Nat × Nat)
 | .sr (.l a) _ _ _ _,.sr (.l b) _ _ _ _ _ _=>[(b,a)]| .vec (.l a) _ _,.sr (.l b) _ _ _ _ _ _=>[(b,a)]| .as v,x=>V.un v x| .fnc _ l,.fn _ xs=>Xw l xs| .agg _ l,.agg _ xs=>Sh.uns l xs|_,_=>[]
def Sh.uns:List Sh->List V->List (Nat × Nat)
 |s::l,x::xs=>s.un x++Sh.uns l xs|_,_=>[]
end
def fY (s:S):List (Nat × Sh)->List (Nat × Nat)
 | []=>[]|(i,sh)::l=>sh.un (s.get i)++fY s l
def XM (s:S):List (Nat × Sh)->List (Nat × Nat)
 | []=>[]|(i,sh)::l=>(match sh,s.get i with| .sl _ _ t,.sl _ _ _ t'=>(t',t)::XM s l|_,_=>XM s l)
def aI:List (Key × OSh)->Key->Option OSh
 | [],_=>none|(j,x)::l,k=>if j=k then some x else aI l k
def zW (s:S) (l:List (Key × OSh)) (b a:Key):List (Nat × Nat):=
 match aI l a,s.obj b with
 |some (.box sh),some (.box x)=>sh.un x|_,_=>[]
def unG (s:S) (l0:List (Key × OSh)):List (Key × OSh)->List (Nat × Nat)
 | []=>[]|(.g k,_)::l=>zW s l0 (.g k) (.g k)++unG s l0 l|(.l _,_)::l=>unG s l0 l
def XK (s:S) (l:List (Key × OSh)):Nat->List (Nat × Nat)->List (Nat × Nat)->List (Nat × Nat)
 |0,_,acc=>acc|_,[],acc=>acc|f+1,(b,a)::todo,acc=>(match look acc b with|some _=>XK s l f todo acc|none=>XK s l f (zW s l (.l b) (.l a)++todo) ((b,a)::acc))
def Qg:List (Nat × Nat)->Bool
 | []=>true|(a,b)::l=>df a b&&Qg l
def OM (l:List (Nat × Nat)) (n:Nat):Nat:=(look l n).getD (n+1000000000)
def Td (s:S):List (Nat × Sh)->Bool
 | []=>false|(i,sh)::l=>(match sh,s.get i with| .sl _ _ t,.ye=>s.known t||Td s l| .sl _ _ t,.emp _ _=>s.known t||Td s l|_,_=>Td s l)
def WI (sh:SSh) (s:S):S:=
 match XK s sh.loc 1000 (fY s sh.env++unG s sh.loc sh.loc) [],XM s sh.env with
 |ps,ts=>bif Qg ps&&Qg ts&& !Td s sh.env then s
  else bif KH (OM ps) (GX s.loc)&&KH (OM ts) (Gj s.tk)then s.ren (OM ps) (OM ts)else s
mutual
def Sh.ad:Sh->V->List (Key × Nat)
 | .vec (.l a) _ _,.sr (.g b) _ _ _ _ _ _=>[(.g b,a+T0)]| .agg _ l,.agg _ xs=>Sh.ads l xs|_,_=>[]
def Sh.ads:List Sh->List V->List (Key × Nat)
 |s::l,x::xs=>s.ad x++Sh.ads l xs|_,_=>[]
end
def hR (s:S):List (Nat × Sh)->List (Key × Nat)
 | []=>[]|(i,sh)::l=>sh.ad (s.get i)++hR s l
def Tt (s:S):List (Key × OSh)->List (Key × Nat)
 | []=>[]|(k,.box sh)::l=>(match s.obj k with|some (.box x)=>sh.ad x++Tt s l|_=>Tt s l)|_::l=>Tt s l
def pN {α:Type}:List (Key × α)->List Key
 | []=>[]|(k,_)::l=>k::pN l
def Xj (ks:List Key):List (Key × Nat)->S->S
 | [],s=>s|(K,t)::l,s=>Xj ks l (Qf K t ks s)
def iL:List (Key × OSh)->Bool
 | []=>false|(_,.box (.arr _))::_=>true|_::l=>iL l
def XO (sh:SSh) (s:S):S:=
 match iL sh.loc with
 |false=>s|true=>(match Xj (pN sh.loc) (hR s sh.env++Tt s sh.loc) s with|s=>Np sh.loc (Te sh.env s))
def JT {R:Type} (sh:SSh) (s:S) (K:List C->List Es->Option R):Option R:=
 frc (KC sh s) fun s=>frc (XO sh s) fun s=>frc (Jq sh.env (Mj sh.loc (WI sh s))) fun s=>UL sh s K
theorem F0 {R:Type} (sh:SSh) (s:S) (K:List C->List Es->Option R):JT sh s K=UL sh (Jq sh.env (Mj sh.loc (WI sh (XO sh (KC sh s))))) K:=by unfold JT;simp only[ZI]
def WkA (s s':S):Prop:=s'.A=s.A/\∀(X:Cx) (n:Nat) (A':Key->Option O),leA s.A A'->EI X n (s.wA A') (s'.wA A')
theorem WkA.refl (s:S):WkA s s:=⟨rfl,fun _ _ _ _=>EI.refl _⟩
theorem WkA.trans {a b c:S} (h:WkA a b) (h':WkA b c):WkA a c:=
 ⟨h'.1.trans h.1,fun X n A' hA=>(h.2 X n A' hA).trans (h'.2 X n A' (by rw[h.1];exact hA))⟩
theorem Ue:∀(l:List (Key × OSh)) (s:S),WkA s (Mj l s)
 | [],s=>WkA.refl s|(k,.box _)::l,s=>by simp only[Mj];split;{rename_i x hx;exact WkA.trans (b:=s.put k (.box x.Ep)) ⟨rfl,fun X n A' hA=>z0o (Dz hA hx)⟩ (Ue l _)};{exact Ue l s}
 |(_,.map _ _)::l,s|(_,.dead _)::l,s|(_,.it)::l,s=>Ue l s
theorem Nm:∀(l:List (Nat × Sh)) (s:S),WkA s (Jq l s)
 | [],s=>WkA.refl s|(i,sh)::l,s=>by
  simp only[Jq];split
  ·rename_i eb e t
   have one:∀(hu:s.known t=false) (ht:s.get i= .ye\/s.get i= .emp eb e),WkA s (S.set {s with tk:=(t,some 0)::s.tk} (some i) (.sl eb e [] t)):=fun hu ht=>
    ⟨rfl,fun X n A' hA=>z0r (s:=s.wA A') hu ht⟩
   split;{rename_i hx;split;{rename_i hu;exact(one hu (.inl hx)).trans (Nm l _)};{exact Nm l s}};{rename_i eb' e' hx;split;{rename_i hu;obtain⟨rfl,rfl,hu⟩:=hu;exact(one hu (.inr hx)).trans (Nm l _)};{exact Nm l s}};{exact Nm l s}
  ·exact Nm l s
theorem q6a (sh:SSh) (s:S):WkA s (WI sh s):=by unfold WI;dsimp only;generalize XK s sh.loc 1000 (fY s sh.env++unG s sh.loc sh.loc) []=ps;generalize XM s sh.env=ts;cases Qg ps&&Qg ts&& !Td s sh.env;{cases hi:KH (OM ps) (GX s.loc)&&KH (OM ts) (Gj s.tk);{exact WkA.refl s};{simp only[bg]at hi;exact⟨rfl,fun X n A' _=>z0q (s:=s.wA A') _ _ hi.1 hi.2⟩}};{exact WkA.refl s}
theorem hU (ks:List Key):∀(l:List (Key × Nat)) (s:S),WkA s (Xj ks l s)
 | [],s=>WkA.refl s|(K,t)::l,s=>WkA.trans (b:=Qf K t ks s) (j9 K t ks s) (hU ks l _)
theorem Z1 {X:Cx} {n:Nat} {Γ0:G} {t:Nat} {e:Ty} {a:Act} {w:World} {s:S} (ht:s.obj (.l t)=none) (h:At X n Γ0 s a w):At X n Γ0 (s.put (.l t) (.box (.d (.arr 0 e) (.agg [])))) a w:=by obtain⟨Γ,g1,g3,c,hs,hn,hf,hA⟩:=h;refine⟨Γ,g1,g3,⟨c.hH,c.hZ,c.hκ,fun j o hj=>?_,fun j hj=>?_,c.KI (fun j hj=>?_),c.tok,c.yu,c.hgl,c.hoo,c.hσ⟩,hs,hn,hf,hA⟩;{rw[EG]at hj;split at hj;{rename_i e1;subst e1;cases hj;exact .inl ⟨c.Qd ht,e,rfl⟩};{exact c.obj j o hj}};{rw[EG];split;{simp};{exact c.dom j hj}};{unfold S.CY at hj ⊢;rw[EG];split;{rename_i e1;subst e1;rw[ht]at hj;cases hj};{exact hj}}
theorem XQ:∀(l:List (Nat × Ty)) (s:S),WkA s (Qa l s)
 | [],s=>WkA.refl s|(t,e)::l,s=>by
  simp only[Qa];split
  ·rename_i h;have h':s.obj (.l t)=none:=by simpa using h
   exact WkA.trans (b:=s.put (.l t) (.box (.d (.arr 0 e) (.agg [])))) ⟨rfl,fun X n A' hA Γ0 a w hat=>Z1 (s:=s.wA A') (by rw[KQ];exact h') hat⟩ (XQ l _)
  ·exact XQ l s
theorem AK.Dw {Γ:G} {sh:Sh} {x:V} {v:Value} (h:AK Γ x v):AK Γ (V.Dw sh x) v:=by
 by_cases hp:x.plain=true;{obtain⟨h1,h2⟩:=(Ca hp).1 h;exact(Ca (by rw[V.ag];exact hp)).2 ⟨AA.Dw sh x h1,by rw[V.Tg];exact h2⟩}
 ·have:V.Dw sh x=x:=by cases x <;> simp[V.plain]at hp <;> (unfold V.Dw;split <;> rfl)
  rw[this];exact h
theorem AK.MF {Γ:G} {sh:Sh} {x:V} {v:Value} (h:AK Γ x v):AK Γ (V.MF sh x) v:=by unfold V.MF;split;{have:=GM h;subst this;exact Wi};{exact h.Dw}
theorem gG:∀(l:List (Nat × Sh)) (s:S),WkA s (Te l s)
 | [],s=>WkA.refl s|(i,sh)::l,s=>by simp only[Te];split;{exact gG l s};{refine WkA.trans (b:=s.set (some i) (V.MF sh (s.get i))) ⟨rfl,fun X n A' hA Γ0 a w hat=>?_⟩ (WkA.trans (XQ _ _) (gG l _));obtain⟨Γ,g1,g3,c,hs,hn,hf,hA⟩:=hat;refine⟨Γ,g1,g3,show AY Γ w ((s.wA A').set (some i) (V.MF sh (s.get i))) from Qu c _ _,fun j=>?_,hn,hf,hA⟩;have hj:=hs j;show AK Γ (S.get (S.set (s.wA A') (some i) (V.MF sh (s.get i))) j) _;rw[KF];split;{rename_i e;cases e;exact AK.MF hj};{exact hj}}
theorem Tf:∀(l:List (Key × OSh)) (s:S),WkA s (Np l s)
 | [],s=>WkA.refl s|(k,.box sh)::l,s=>by
  simp only[Np];split
  ·rename_i x hx;split;{exact Tf l s}
   ·refine WkA.trans (b:=s.put k (.box (V.Dw sh x))) ⟨rfl,fun X n A' hA Γ0 a w hat=>?_⟩ (WkA.trans (XQ _ _) (Tf l _));obtain⟨Γ,g1,g3,c,hs,hn,hf,zd⟩:=hat;refine⟨Γ,g1,g3,c.dW (Dz hA hx) (fun yp=>?_) (fun hv=>?_),hs,hn,hf,zd⟩;{obtain⟨b,cells,T,h1,h2,h3,h4,h5,h6,h7,h8⟩:=yp;exact⟨b,cells,T,by rw[V.Tg];exact h1,h2,h3,h4,by rw[V.Tg];exact h5,by rw[V.Tg];exact AA.Dw sh x h6,by rw[V.ag];exact h7,by rw[V.ae];exact h8⟩}
    ·obtain⟨e,rfl⟩:=hv;have:V.Dw sh (.d (.arr 0 e) (.agg []))= .d (.arr 0 e) (.agg []):=by unfold V.Dw;split <;> rfl
     rw[this];exact⟨e,rfl⟩
  ·exact Tf l s
 |(_,.map _ _)::l,s|(_,.dead _)::l,s|(_,.it)::l,s=>Tf l s
theorem z0i (sh:SSh) (s:S):WkA s (XO sh s):=by unfold XO;split;{exact WkA.refl s};{exact((hU _ _ s).trans (gG _ _)).trans (Tf _ _)}
theorem q2c (sh:SSh) (s:S):WkA s (KC sh s):=by refine⟨?_,fun X n A' hA Γ0 a w hat=>?_⟩;{unfold KC;split;{rfl};{rw[(ZK _ _ _).2.2,(Rx _ _).2]}};{rw[<-q2d];exact Q9 hat}
def nbV:V->V
 | .d τ c=>(match τ with| .bool=>.d .bool (.bool c.toBool)|τ=>.d τ c)|x=>x
def nbE:List (Nat × V)->List (Nat × V)
 | []=>[]|(i,x)::l=>(i,nbV x)::nbE l
def nbS (s:S):S:={s with env:=nbE s.env}
theorem q5f {Γ:G} {x:V} {v:Value} (h:AK Γ x v):AK Γ (nbV x) v:=by cases x <;> (try exact h);rename_i τ c;cases τ <;> (try exact h);obtain⟨_,e⟩:=GL h;rw[e]at h;exact h
theorem rP:∀(l:List (Nat × V)) (i:Nat),look (nbE l) i=(look l i).map nbV
 | [],_=>rfl|(j,x)::l,i=>by simp only[nbE,look];by_cases e:j=i;{rw[if_pos e,if_pos e];rfl};{rw[if_neg e,if_neg e];exact rP l i}
theorem sQ (s:S):WkA s (nbS s):=by
 refine⟨rfl,fun X n A' _=>?_⟩;rintro Γ0 a w ⟨Γ,g1,g3,c,hs,hn,hf,hA⟩;refine⟨Γ,g1,g3,c.env _,fun i=>?_,hn,hf,hA⟩;have:=hs i;have e:((nbS s).wA A').get i=nbV ((s.wA A').get i):=by show(look (nbE s.env) i).getD .any=nbV ((look s.env i).getD .any);rw[rP];cases look s.env i <;> rfl
 rw[e];exact q5f this
def HN (sh:SSh) (A:Key->Option O) (ds:List C) (ms:List Es):S:=nbS (KB sh A ds ms)
theorem Qs {R:Type} {r:R} {sh:SSh} {s:S} {K:List C->List Es->Option R} (h:JT sh s K=some r):∃ds ms,K ds ms=some r/\WkA s (HN sh s.A ds ms):=by
 have key:∃ds ms,K ds ms=some r/\WkA s (KB sh s.A ds ms):=by rw[F0]at h;obtain⟨ds,ms,h1,h2⟩:=F1 h;have h3:=((((q2c sh s).trans (z0i sh _)).trans (q6a sh _)).trans (Ue sh.loc _)).trans (Nm sh.env _);refine⟨ds,ms,h1,rfl,fun X n A' hA=>?_⟩;have:=(h3.2 X n A' hA).trans (h2 X n A' (by rw[h3.1];exact hA));exact this
 obtain⟨ds,ms,h1,h2⟩:=key;exact⟨ds,ms,h1,h2.trans (sQ _)⟩
def SM (j:Nat):List Nat->List Nat
 | []=>[]|i::l=>if i=j then SM j l else i::SM j l
def fxS (t j:Nat) (s:S):S:=⟨Fo s (SM t (slotsOf s.env)),Gy s.loc (SM j (GX s.loc)) s.loc,s.A,EH s (Gj s.tk)⟩
def fxB (t j:Nat) (s:S):Bool:=
 Kw (fxS t j s).loc&&Fy (Cd (fxS t j s).loc) (DW (fxS t j s).tk) (fxS t j s).loc&&Ik (fxS t j s).loc s.loc&&JO (Cd (fxS t j s).loc) (DW (fxS t j s).tk) (fxS t j s).env&& !(Cd (fxS t j s).loc j)
def Yz (t:Nat) (s:S):S:=
 match s.get t with
 | .ptr (.l j) [] τ=>(match s.obj (.l j)with|some (.box x)=>(match Cl x with|some cc=>if x.ty=τ/\fxB t j s=true then(fxS t j s).set (some t) (.yf τ cc)else s|none=>s)|_=>s)|_=>s
def YH (t:Nat) (s:S):S:=
 match s.get t with
 | .ptr k [] _=>(match s.obj k with|some (.box x)=>(match x with| .d _ _=>s|x=>(match Cl x with|some c=>s.put k (.box (.d x.ty c))|none=>s))|_=>s)|_=>s
theorem H4 (t:Nat) (s:S):WkA s (YH t s):=by
 unfold YH;split
 ·split
  ·rename_i x hx;split;{exact WkA.refl s}
   ·split
    ·rename_i c hc;refine⟨rfl,fun X n A' hA Γ0 a w hat=>?_⟩;obtain⟨Γ,g1,g3,cc,hs,hn,hf,zd⟩:=hat;have hin:V.BZ x (.d x.ty c):=by cases x <;> first|exact⟨hc,rfl⟩|(simp[Cl]at hc)
     refine⟨Γ,g1,g3,cc.dW (Dz hA hx) (fun yp=>?_) (fun hv=>?_),hs,hn,hf,zd⟩;{obtain⟨b,cells,T,h1,h2,h3,h4,h5,h6,h7,h8⟩:=yp;exact⟨b,cells,T,h1,h2,h3,h4,h5,by have:=(AA.BZ _ _ hin h6).1;simp only[AA]at this ⊢;exact this,rfl,rfl⟩};{obtain⟨e,rfl⟩:=hv;simp only[Cl,Option.some.injEq]at hc;subst hc;exact⟨e,rfl⟩}
    ·exact WkA.refl s
  ·exact WkA.refl s
 ·exact WkA.refl s
def Zu (t:Nat) (s:S):S:=
 match s.get t with
 | .sr (.l j) [] lo n _ eb e=>(match s.obj (.l j)with|some (.box (.d (.arr M e') cc))=>if e'=e then({s with loc:=(.l j,.dead (.arr M e))::s.loc}:S).set (some t) (.d (.slice eb e) (.slice ((cc.elems.drop lo).take n)))else s|_=>s)|_=>s
theorem q3W (t:Nat) (s:S):WkA s (Zu t s):=by
 unfold Zu;split;{rename_i j lo n cp eb e hs;split;{rename_i M e' cc ho;split;{rename_i he;subst he;refine⟨rfl,fun X n' A' hA Γ0 a w hat=>?_⟩;obtain⟨Γ,g1,g3,c,hsl,hn,hf,zd⟩:=hat;obtain⟨Γ',gle,p,c',h⟩:=c.qS (show(s.wA A').obj (.l j)=some (.box (.d (.arr M _) cc)) from ho);have yr:=hsl t;rw[show(s.wA A').get t=_ from hs]at yr;have hv:=h yr;refine⟨Γ',g1.trans gle,gle.gl.trans g3,Qu (s:=(({s with loc:=(.l j,.dead (.arr M _))::s.loc}:S).wA A')) c' (some t) _,fun i=>?_,hn,hf,zd⟩;rw[show((({s with loc:=(.l j,.dead (.arr M _))::s.loc}:S).set (some t) (.d (.slice eb _) (.slice ((cc.elems.drop lo).take n)))).wA A').get i=(({s with loc:=(.l j,.dead (.arr M _))::s.loc}:S).set (some t) (.d (.slice eb _) (.slice ((cc.elems.drop lo).take n)))).get i from rfl,KF];split;{rename_i hi;cases hi;exact hv};{exact(hsl i).Bn p}};{exact WkA.refl s}};{exact WkA.refl s}};{exact WkA.refl s}
def PD:List (Nat × Nat)->S->S
 | [],s=>s|(t,m)::l,s=>PD l (if m=6 then Yz t s else if m=16 then YH t s else if m=17 then Zu (t-1000000) s else s)
theorem q13 (t:Nat) (s:S):WkA s (Yz t s):=by
 unfold Yz;split
 ·rename_i j τ hs;split
  ·rename_i x hx;split
   ·rename_i cc hcc;split
    ·rename_i h;obtain⟨hτ,h⟩:=h;simp only[fxB,bg,Bool.not_eq_true']at h;obtain⟨⟨⟨⟨h1,h2⟩,h3⟩,h4⟩,h5⟩:=h;refine⟨rfl,fun X n A' hA=>?_⟩;have zk:∀l,Fo (s.wA A') l=Fo s l:=by
      intro l
      induction l with
      |nil=>rfl|cons i l ih=>simp only[Fo,ih];rfl
     have htk:∀l,EH (s.wA A') l=EH s l:=by
      intro l
      induction l with
      |nil=>rfl|cons i l ih=>simp only[EH,ih];rfl
     exact z0p (s:=s.wA A') (s':=(fxS t j s).wA A') hs (Dz hA hx) hcc hτ h5 rfl (LY (s:=s.wA A') _ h1) h2 (OD h3)
      (by show tkW (s.wA A') (EH s (Gj s.tk));rw[<-htk];exact XH)
      (by
       have h4':JO (Cd (fxS t j s).loc) (DW (fxS t j s).tk) (Fo (s.wA A') (SM t (slotsOf s.env)))=true:=by rw[zk];exact h4
       have:=Ym h4';rw[zk]at this;exact this)
    ·exact WkA.refl s
   ·exact WkA.refl s
  ·exact WkA.refl s
 ·exact WkA.refl s
theorem RY:∀(l:List (Nat × Nat)) (s:S),WkA s (PD l s)
 | [],s=>WkA.refl s|(t,m)::l,s=>by simp only[PD];split;{exact(q13 t s).trans (RY l _)};{split;{exact(H4 t s).trans (RY l _)};{split;{exact(q3W _ s).trans (RY l _)};{exact RY l s}}}
end Go.E
