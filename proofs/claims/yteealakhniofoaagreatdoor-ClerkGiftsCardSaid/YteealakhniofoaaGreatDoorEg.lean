/-
 A framework for runs of Go code over abstract data: what it needs, and that it is sound, part 7.
 Conditions: none.
-/
import Derived.Test.YteealakhniofoaaGreatDoorEf
set_option linter.all false
set_option maxRecDepth 100000
set_option maxHeartbeats 4000000
open Bool renaming and_eq_true->bg,true_and->qt
open Go.E.C renaming toInt->ar
open Go.E.RD renaming kind->pd
open Go.E.S renaming obj->jv
open Go.E.Ty renaming beq->wg,beq_iff->rm
open Go.E.V renaming oks->vf
open List renaming all_eq_true->dw,find?_some->rz,getD_eq_getElem?_getD->bq,isEmpty_iff->qv,map_cons->dt,mem_append->ed,mem_cons->gy,mem_cons_of_mem->fm,mem_cons_self->gb,mem_of_find?_eq_some->sq
open Nat renaming add_assoc->fw,add_comm->qy,add_zero->iq,beq->dc,eq_of_beq_eq_true->eh,zero_add->bh
open Option renaming ite_none_right_eq_some->ba,ne_none_iff_exists'->ru
namespace Go.E
open Go
section
def Mh {R:Type} (X:Cx) (call:Ed R) (ext:EU) (ops:Array Oper) (yi:List Nat) (tbl:List (Nat × Nat)):List Oper->S->(List (Nat × Nat)->S->Option R)->Option R
 | [],s,K=>K [] s|o::rest,s,K=>
  match o.guard with
  |none=>RK X call ext (DJ yi tbl o (Aj X.gl s) s) o s fun v s1=>Mh X call ext ops yi tbl rest ((s1.wA s.A).set o.dst v) fun ml s2=>K ((Ae o,DJ yi tbl o (Aj X.gl s) s)::ml) s2
  |some (j,want)=>RZ ops s j want (fun s=>RK X call ext (DJ yi tbl o (Aj X.gl s) s) o s fun v s1=>Mh X call ext ops yi tbl rest ((s1.wA s.A).set o.dst v) fun ml s2=>K ((Ae o,DJ yi tbl o (Aj X.gl s) s)::ml) s2)
    (fun s=>Mh X call ext ops yi tbl rest (s.set o.dst (.tup [])) K)
theorem tR:∀(n:Nat) {loc:List (Key × O)} (ks:List Key),∀p∈Jh n loc ks,AY loc p.1=some p.2
 |0,_,_,p,hp=>by simp[Jh]at hp
 |n+1,loc,ks,p,hp=>by simp only[Jh,List.mem_flatMap]at hp;obtain⟨k,h1,hp⟩:=hp;split at hp;{rename_i o ho;rcases gy.1 hp with rfl|hp;{exact ho};{split at hp;{exact tR n _ p hp};{simp at hp}}};{simp at hp}
def Kf (base s:S) (xs:List V):S:=bif (V.HT xs).all (fun k=>(base.obj k).isSome)then base else base.see s xs
theorem Wa (base s:S) (xs:List V):Kf base s xs=base\/Kf base s xs=base.see s xs:=by unfold Kf;cases(V.HT xs).all _;{exact .inr rfl};{exact .inl rfl}
theorem WZ (base s:S) (xs:List V):(Kf base s xs).A=base.A:=by rcases Wa base s xs with h|h <;> rw[h] <;> rfl
theorem wL {base s:S} {xs:List V} (hb:∀k o,base.obj k=some o->s.obj k=some o) (k:Key) (o:O) (h:(Kf base s xs).obj k=some o):s.obj k=some o:=by
 rcases Wa base s xs with e|e <;> rw[e]at h;{exact hb k o h}
 ·unfold jv S.see Cs at h;simp only[LV]at h;cases hl:AY (Jh 3 s.loc (V.HT xs)) k with
  |some o'=>
   rw[hl]at h;cases h;exact pT (tR 3 _ (k,o) (Zb hl))
  |none=>
   rw[hl]at h;exact hb k o h
def ekK {R:Type} (X:Cx) (call:Ed R) (ext:EU) (m:Nat) (o:Oper) (base s:S) (K:RD->Option R):Option R:=
 if Yz o=true then
  (match RN ext o (Aj X.gl s)with
  |some r=>(match r with|some v=>K (.k0 v)|none=>none)
  |none=>if dc m 8=true then UG X call o (Aj X.gl s) s (fun v=>K (.k1 v [] []))else if dc m 7=true then Jz X call false o (Aj X.gl s) s00 fun v L=>if Lh L (v.tkR 2000)=true then K (.k0 ((v.DV 2000).ren (dn (Ae o)) (rk (Ae o))))else none else(match m with
   |0=>Jz X call false o (Aj X.gl s) (Kf base s (Ff o (Aj X.gl s))) fun v L=>if Hu L=true then(if Fl s (dnL (Ae o) L)=true/\LJ s (dnT (Ae o) (v.tkR 2000))=true then K (.k1 ((v.DV 2000).ren (dn (Ae o)) (rk (Ae o))) (dnL (Ae o) L) (dnT (Ae o) (v.tkR 2000)))else none)
      else if Hg s (Ae o) L=true/\JE s (Ae o) (v.tkR 2000)=true then K (.k2 ((v.DV 2000).ren (dn (Ae o)) (rk (Ae o))) (s.ret false (Ff o (Aj X.gl s)) (Ae o) v L))else none
   |m=>Jz X call (m==1) o (Aj X.gl s) s fun v L=>if Hg s (Ae o) L=true/\JE s (Ae o) (v.tkR 2000)=true then K (.k2 ((v.DV 2000).ren (dn (Ae o)) (rk (Ae o))) (s.WR (m==1) (Ff o (Aj X.gl s)) (Ae o) v L))else none))
 else if nR m o (Aj X.gl s)=true then ekT X m (Ae o) o (Aj X.gl s) s fun v s1=>K (.k2 v s1)
 else if nM o (Aj X.gl s)=true then UE X o (Aj X.gl s) (fun v=>K (.k0 v)) (ekI X m (Ae o) o (Aj X.gl s) s00 fun v lo tn=>if Lh lo tn=true then K (.k0 v)else none)
 else if(q17 o (Aj X.gl s)&& !(dc m 4||dc m 20))=true then ekI X m (Ae o) o (Aj X.gl s) s00 fun v lo tn=>if Lh lo tn=true then K (.k0 v)else none
 else ekI X m (Ae o) o (Aj X.gl s) s fun v lo tn=>if Fl s lo=true/\LJ s tn=true then K (.k1 v lo tn)else none
def Hc {R:Type} (X:Cx) (call:Ed R) (ext:EU) (ops:Array Oper) (yi:List Nat) (tbl:List (Nat × Nat)):List Oper->S->S->(List (Nat × Nat)->List Nat->S->Option R)->Option R
 | [],_,s,K=>K [] [] s|o::rest,base,s,K=>
  match o.guard with
  |none=>ekK X call ext (DJ yi tbl o (Aj X.gl s) s) o base s fun r=>match r with| .k0 v=>Hc X call ext ops yi tbl rest base (s.set o.dst v) fun ml ts s2=>K ((Ae o,DJ yi tbl o (Aj X.gl s) s)::ml) (0::ts) s2| .k1 v lo tn=>Hc X call ext ops yi tbl rest base ((s.add lo tn).set o.dst v) fun ml ts s2=>K ((Ae o,DJ yi tbl o (Aj X.gl s) s)::ml) (1::ts) s2| .k2 v s1=>Hc X call ext ops yi tbl rest ((s1.wA s.A).set o.dst v) ((s1.wA s.A).set o.dst v) fun ml ts s2=>K ((Ae o,DJ yi tbl o (Aj X.gl s) s)::ml) (2::ts) s2
  |some (j,want)=>RZ ops s j want (fun s=>ekK X call ext (DJ yi tbl o (Aj X.gl s) s) o base s fun r=>match r with
    | .k0 v=>Hc X call ext ops yi tbl rest base (s.set o.dst v) fun ml ts s2=>K ((Ae o,DJ yi tbl o (Aj X.gl s) s)::ml) (0::ts) s2| .k1 v lo tn=>Hc X call ext ops yi tbl rest base ((s.add lo tn).set o.dst v) fun ml ts s2=>K ((Ae o,DJ yi tbl o (Aj X.gl s) s)::ml) (1::ts) s2| .k2 v s1=>Hc X call ext ops yi tbl rest ((s1.wA s.A).set o.dst v) ((s1.wA s.A).set o.dst v) fun ml ts s2=>K ((Ae o,DJ yi tbl o (Aj X.gl s) s)::ml) (2::ts) s2)
    (fun s=>Hc X call ext ops yi tbl rest base (s.set o.dst (.tup [])) fun ml ts s2=>K ml (0::ts) s2)
section
variable {X:Cx} {R:Type} {call:Ed R} {ext:EU} (hc:JK X call) (he:Ig X ext)
include hc he
theorem YF {ops:Array Oper} {yi:List Nat} {tbl:List (Nat × Nat)} {r:R}:∀(l:List Oper) (s:S) {K:List (Nat × Nat)->S->Option R},Mh X call ext ops yi tbl l s K=some r->
  ∃ml s2,K ml s2=some r/\s2.A=s.A/\∀A',leA s.A A'->∀md:List (Nat × Nat),(∀p∈ml,Ck md p.1=p.2)->∀Φ:S->Prop,Φ (s2.wA A')->vc X md ops Φ l (s.wA A')
 | [],s,K,h=>⟨_,_,h,rfl,fun A' hA md hm Φ hΦ=>hΦ⟩|o::rest,s,K,h=>by
  have go:(RK X call ext (DJ yi tbl o (Aj X.gl s) s) o s fun v s1=>Mh X call ext ops yi tbl rest ((s1.wA s.A).set o.dst v) fun ml s2=>K ((Ae o,DJ yi tbl o (Aj X.gl s) s)::ml) s2)=some r->
    ∃ml s2,K ml s2=some r/\s2.A=s.A/\∀A',leA s.A A'->∀md:List (Nat × Nat),(∀p∈ml,Ck md p.1=p.2)->∀Φ:S->Prop,Φ (s2.wA A')->sop X md (Ae o) o (s.wA A') fun v s'=>vc X md ops Φ rest (s'.set o.dst v):=by
   intro h;obtain⟨v,s1,h1,h2⟩:=q0M hc he h;obtain⟨ml,s2,h3,h4,h5⟩:=YF rest _ h1;refine⟨_,s2,h3,by rw[h4,Dc];rfl,fun A' hA md hm Φ hΦ=>h2 A' hA md (hm (Ae o,_) (gb ..)) _ ?_⟩;have:=h5 A' (by rw[Dc];exact hA) md (fun p hp=>hm p (fm _ hp)) Φ hΦ;rw[<-JC]at this;exact this
  simp only[Mh]at h;simp only[vc];cases hg:o.guard with
  |none=>
   rw[hg]at h;exact go h
  |some jw=>
   obtain⟨j,want⟩:=jw;rw[hg]at h;dsimp only at h ⊢;simp only[Yt];rcases Yq h with⟨h1,h2⟩|⟨h1,h2⟩;{obtain⟨ml,s2,h3,h4,h5⟩:=go h1;exact⟨ml,s2,h3,h4,fun A' hA md hm Φ hΦ=>h2 _ _ (h5 A' hA md hm Φ hΦ)⟩};{obtain⟨ml,s2,h3,h4,h5⟩:=YF rest _ h1;refine⟨ml,s2,h3,by rw[h4,Dc],fun A' hA md hm Φ hΦ=>h2 _ _ ?_⟩;rw[JC];exact h5 A' (by rw[Dc];exact hA) md hm Φ hΦ}
theorem kG {m:Nat} {o:Oper} {base s:S} (hb:∀k o,base.obj k=some o->s.obj k=some o) (hAb:base.A=s.A) {Kr:RD->Option R} {r:R} (h:ekK X call ext m o base s Kr=some r):
  ∃rd,Kr rd=some r/\(∀v lo tn,rd= .k1 v lo tn->Fl s lo=true)/\∀A',leA s.A A'->∀md:List (Nat × Nat),Ck md (Ae o)=m->∀(K0:V->Prop) (K1:V->List (Key × O)->List (Nat × Option Nat)->Prop) (K2:V->S->Prop),RD.post s A' K0 K1 K2 rd->kop X md (some rd.kind) (base.wA A') (s.wA A') o K0 K1 K2:=by
 have z7g:∀A',leA s.A A'->leA base.A A':=fun A' hA=>by rw[hAb];exact hA
 unfold ekK at h;split at h
 ·split at h;{rename_i x e0;split at h;{refine⟨_,h,fun _ _ _ e=>(by cases e),fun A' hA md hm K0 K1 K2 hK=>?_⟩;simp only[kop,pd];rw[Fi];exact .inl (lQ he e0 ⟨rfl,rfl,hK⟩)};{cases h}}
  ·split at h;{obtain⟨v,h1,h2⟩:=kM hc h;refine⟨_,h1,fun v' lo' tn' e=>(by cases e;rfl),fun A' hA md hm K0 K1 K2 hK=>?_⟩;simp only[kop,pd];rw[Fi];exact h2 A' hA md _ _ _ (hK trivial trivial rfl)};split at h;{obtain⟨v,L,h1,h2⟩:=YE (dst:=Ae o) (s:=s00) (base:=s00) hc (.inl rfl) h;simp only[ba]at h1;obtain⟨h3,h1⟩:=h1;simp only[Lh,bg,qv]at h3;refine⟨_,h1,fun _ _ _ e=>(by cases e),fun A' hA md hm K0 K1 K2 hK=>?_⟩;simp only[kop,pd];rw[Fi];have:=(h2 s00.A (fun _ _ h=>h) md fun v lo tn=>lo=[]/\tn=[]/\K0 v).1 (by rw[h3.1];rfl) ⟨by rw[h3.1];rfl,by rw[h3.2];rfl,hK⟩;exact .inl this};split at h
   ·obtain⟨v,L,h1,h2⟩:∃v L,(if Hu L=true then(if Fl s (dnL (Ae o) L)=true/\LJ s (dnT (Ae o) (v.tkR 2000))=true then Kr (.k1 ((v.DV 2000).ren (dn (Ae o)) (rk (Ae o))) (dnL (Ae o) L) (dnT (Ae o) (v.tkR 2000)))else none)
      else if Hg s (Ae o) L=true/\JE s (Ae o) (v.tkR 2000)=true then Kr (.k2 ((v.DV 2000).ren (dn (Ae o)) (rk (Ae o))) (s.ret false (Ff o (Aj X.gl s)) (Ae o) v L))else none)=some r/\∀A',leA (Kf base s (Ff o (Aj X.gl s))).A A'->∀(md:List (Nat × Nat)) (K:V->List (Key × O)->List (Nat × Option Nat)->Prop),(Hu L=true->K ((v.DV 2000).ren (dn (Ae o)) (rk (Ae o))) (dnL (Ae o) L) (dnT (Ae o) (v.tkR 2000))->iop X md (base.wA A') (Ae o) o (Aj X.gl s) (s.wA A') K)/\
   (Ck md (Ae o)=0->(∀k o',(Kf base s (Ff o (Aj X.gl s))).obj k=some o'->s.obj k=some o')->leA s.A A'->Hg s (Ae o) L=true->JE s (Ae o) (v.tkR 2000)=true->∀K2:V->S->Prop,K2 ((v.DV 2000).ren (dn (Ae o)) (rk (Ae o))) ((s.ret false (Ff o (Aj X.gl s)) (Ae o) v L).wA A')->top X md (Ae o) o (Aj X.gl s) (s.wA A') K2):=
     YE hc (Wa base s _) h
    split at h1;{rename_i hl;simp only[ba]at h1;obtain⟨h3,h1⟩:=h1;refine⟨_,h1,fun v' lo' tn' e=>(by cases e;exact h3.1),fun A' hA md hm K0 K1 K2 hK=>?_⟩;simp only[kop,pd];rw[Fi];exact(h2 A' (by rw[WZ];exact z7g A' hA) md K1).1 hl (hK (RX h3.1) (RY h3.2) h3.1)};{simp only[ba]at h1;obtain⟨h3,h1⟩:=h1;refine⟨_,h1,fun _ _ _ e=>(by cases e),fun A' hA md hm K0 K1 K2 hK=>?_⟩;simp only[kop,pd];rw[Fi];exact(h2 A' (by rw[WZ];exact z7g A' hA) md (fun _ _ _=>True)).2 hm (wL hb) hA h3.1 h3.2 K2 hK}
   ·obtain⟨v,L,h1,hq,h2⟩:=kE (dst:=Ae o) hc h;rw[hq]at h1;simp only[ba]at h1;obtain⟨h3,h1⟩:=h1;refine⟨_,h1,fun _ _ _ e=>(by cases e),fun A' hA md hm K0 K1 K2 hK=>?_⟩;simp only[kop,pd];rw[Fi];exact h2 h3.1 h3.2 A' hA md (by rw[hm]) K2 hK
 ·split at h;{obtain⟨v,s1,h1,h2⟩:=YJ h;refine⟨_,h1,fun _ _ _ e=>(by cases e),fun A' hA md hm K0 K1 K2 hK=>?_⟩;simp only[kop,pd];rw[Fi];exact h2 A' hA md hm K2 hK}
  ·have z79:(ekI X m (Ae o) o (Aj X.gl s) s00 fun v lo tn=>if Lh lo tn=true then Kr (.k0 v)else none)=some r->
     ∃rd,Kr rd=some r/\(∀v lo tn,rd= .k1 v lo tn->Fl s lo=true)/\∀A',leA s.A A'->∀md:List (Nat × Nat),Ck md (Ae o)=m->∀(K0:V->Prop) (K1:V->List (Key × O)->List (Nat × Option Nat)->Prop) (K2:V->S->Prop),RD.post s A' K0 K1 K2 rd->kop X md (some rd.kind) (base.wA A') (s.wA A') o K0 K1 K2:=by
    intro h;obtain⟨v,lo,tn,h1,h2⟩:=UF h;simp only[ba]at h1;obtain⟨h3,h1⟩:=h1;refine⟨_,h1,fun _ _ _ e=>(by cases e),fun A' hA md hm K0 K1 K2 hK=>?_⟩;simp only[kop,pd];rw[Fi];simp only[Lh,bg,qv]at h3;exact .inl (h2 s00.A (fun _ _ h=>h) md s00 hm _ ⟨h3.1,h3.2,hK⟩)
   split at h;{rcases kF h with⟨v,h1,h2⟩|h;{refine⟨_,h1,fun _ _ _ e=>(by cases e),fun A' hA md hm K0 K1 K2 hK=>?_⟩;simp only[kop,pd];rw[Fi];exact .inr (h2 _ hK)};{exact z79 h}};split at h;{exact z79 h};{obtain⟨v,lo,tn,h1,h2⟩:=UF h;simp only[ba]at h1;obtain⟨h3,h1⟩:=h1;refine⟨_,h1,fun v' lo' tn' e=>(by cases e;exact h3.1),fun A' hA md hm K0 K1 K2 hK=>?_⟩;simp only[kop,pd];rw[Fi];exact h2 A' hA md _ hm _ (hK (RX h3.1) (RY h3.2) h3.1)}
theorem RL {ops:Array Oper} {yi:List Nat} {tbl:List (Nat × Nat)} {r:R}:∀(l:List Oper) (base s:S) {K:List (Nat × Nat)->List Nat->S->Option R},base.A=s.A->(∀k o,base.obj k=some o->s.obj k=some o)->Hc X call ext ops yi tbl l base s K=some r->
  ∃ml ts s2,K ml ts s2=some r/\s2.A=s.A/\∀A',leA s.A A'->∀md:List (Nat × Nat),(∀p∈ml,Ck md p.1=p.2)->∀Φ:S->Prop,Φ (s2.wA A')->vd X md ops Φ l ts (base.wA A') (s.wA A')
 | [],base,s,K,hAb,hb,h=>⟨_,_,_,h,rfl,fun A' hA md hm Φ hΦ=>hΦ⟩|o::rest,base,s,K,hAb,hb,h=>by
  have go:(ekK X call ext (DJ yi tbl o (Aj X.gl s) s) o base s fun r=>match r with
    | .k0 v=>Hc X call ext ops yi tbl rest base (s.set o.dst v) fun ml ts s2=>K ((Ae o,DJ yi tbl o (Aj X.gl s) s)::ml) (0::ts) s2| .k1 v lo tn=>Hc X call ext ops yi tbl rest base ((s.add lo tn).set o.dst v) fun ml ts s2=>K ((Ae o,DJ yi tbl o (Aj X.gl s) s)::ml) (1::ts) s2| .k2 v s1=>Hc X call ext ops yi tbl rest ((s1.wA s.A).set o.dst v) ((s1.wA s.A).set o.dst v) fun ml ts s2=>K ((Ae o,DJ yi tbl o (Aj X.gl s) s)::ml) (2::ts) s2)=some r->
    ∃ml ts s2,K ml ts s2=some r/\s2.A=s.A/\∀A',leA s.A A'->∀md:List (Nat × Nat),(∀p∈ml,Ck md p.1=p.2)->∀Φ:S->Prop,Φ (s2.wA A')->kop X md ts.head? (base.wA A') (s.wA A') o (fun v=>vd X md ops Φ rest ts.tail (base.wA A') ((s.wA A').set o.dst v))
    (fun v lo tn=>GC (s.wA A') lo/\GD (s.wA A') tn/\vd X md ops Φ rest ts.tail (base.wA A') (((s.wA A').add lo tn).set o.dst v))
    (fun v s'=>vd X md ops Φ rest ts.tail (s'.set o.dst v) (s'.set o.dst v)):=by
   intro h;obtain⟨rd,h1,hf,h2⟩:=kG hc he hb hAb h;cases rd with
   |k0 v=>
    obtain⟨ml,ts,s2,h3,h4,h5⟩:=RL rest base _ (by rw[Dc];exact hAb) (fun k o' hk=>by rw[IP];exact hb k o' hk) h1;refine⟨_,_,s2,h3,by rw[h4,Dc],fun A' hA md hm Φ hΦ=>h2 A' hA md (hm (Ae o,_) (gb ..)) _ _ _ ?_⟩;have:=h5 A' (by rw[Dc];exact hA) md (fun p hp=>hm p (fm _ hp)) Φ hΦ;rw[<-JC]at this;exact this
   |k1 v lo tn=>
    have hfr:=hf v lo tn rfl;obtain⟨ml,ts,s2,h3,h4,h5⟩:=RL rest base _ (by rw[Dc];exact hAb) (fun k o' hk=>by rw[IP];exact aI hfr (hb k o' hk)) h1;refine⟨_,_,s2,h3,by rw[h4,Dc];rfl,fun A' hA md hm Φ hΦ=>h2 A' hA md (hm (Ae o,_) (gb ..)) _ _ _ ?_⟩;intro f1 f2 f3;refine⟨f1,f2,?_⟩;have:=h5 A' (by rw[Dc];exact hA) md (fun p hp=>hm p (fm _ hp)) Φ hΦ;rw[<-JC]at this;exact this
   |k2 v s1=>
    obtain⟨ml,ts,s2,h3,h4,h5⟩:=RL rest ((s1.wA s.A).set o.dst v) ((s1.wA s.A).set o.dst v) rfl (fun _ _ h=>h) h1;refine⟨_,_,s2,h3,by rw[h4,Dc];rfl,fun A' hA md hm Φ hΦ=>h2 A' hA md (hm (Ae o,_) (gb ..)) _ _ _ ?_⟩;have:=h5 A' (by rw[Dc];exact hA) md (fun p hp=>hm p (fm _ hp)) Φ hΦ;rw[<-JC]at this;exact this
  simp only[Hc]at h;simp only[vd];cases hg:o.guard with
  |none=>
   rw[hg]at h;exact go h
  |some jw=>
   obtain⟨j,want⟩:=jw;rw[hg]at h;dsimp only at h ⊢;simp only[Yt];rcases Yq h with⟨h1,h2⟩|⟨h1,h2⟩;{obtain⟨ml,ts,s2,h3,h4,h5⟩:=go h1;exact⟨ml,ts,s2,h3,h4,fun A' hA md hm Φ hΦ=>h2 _ _ (h5 A' hA md hm Φ hΦ)⟩};{obtain⟨ml,ts,s2,h3,h4,h5⟩:=RL rest base _ (by rw[Dc];exact hAb) (fun k o' hk=>by rw[IP];exact hb k o' hk) h1;refine⟨ml,_,s2,h3,by rw[h4,Dc],fun A' hA md hm Φ hΦ=>h2 _ _ ?_⟩;rw[JC];exact h5 A' (by rw[Dc];exact hA) md hm Φ hΦ}
end
end
section
theorem nW:∀(σ:List (Nat × List Nat)) (s:S) (k:Key),(Eo σ s).obj k=s.obj k
 | [],_,_=>rfl|(_,_)::σ,s,k=>(nW σ _ k).trans rfl
theorem q0R {R:Type} {X:Cx} {m dst:Nat} {o:Oper} {ρ:Operand->V} {s:S} {T:TypeId} {p y:Operand} {k:Key} {q:List Nat} {τ:Ty} (ho:o.op= .store T p y) (hp:ρ p= .ptr k q τ) {K:KS R} {r:R} (h:ekT X m dst o ρ s K=some r):
  ∃v s1,ekT X m dst o ρ s (fun v s1=>some (v,s1))=some (v,s1)/\K v s1=some r/\∀A' j,j≠k->(s1.wA A').obj j=(s.wA A').obj j:=by
 unfold ekT at h ⊢;generalize o.op=op at ho h ⊢;subst ho;dsimp only at h ⊢;generalize ρ p=pv at hp h ⊢;subst hp;dsimp only at h ⊢;have Cn:∀(ob:O) (A':Key->Option O) (j:Key),j≠k->((s.put k ob).wA A').obj j=(s.wA A').obj j:=fun ob A' j hj=>by show((s.wA A').put k ob).obj j=_;rw[EC,if_neg (fun e=>hj e.symm)]
 have z8K:∀(ob:O) (t:Nat) (A':Key->Option O) (j:Key),j≠k->(((s.put k ob).tok t none).wA A').obj j=(s.wA A').obj j:=fun ob t A' j hj=>(Cn ob A' j hj);generalize s.obj k=ok at h ⊢;cases ok with
 |none=>cases h
 |some ob=>
  cases ob with
  |box x=>
   dsimp only at h ⊢;simp only[ba]at h;obtain⟨h1,h⟩:=h;rw[if_pos h1];generalize Cj τ (ρ y)=z at h ⊢;cases z with
   |sl eb e cs t=>
    dsimp only at h ⊢;generalize LS s t cs.length=lv at h ⊢;cases lv with
    |none=>exact⟨_,_,rfl,h,fun A' j hj=>Cn _ A' j hj⟩|some b=>
     cases b;{cases h};{exact⟨_,_,rfl,h,fun A' j hj=>z8K _ _ A' j hj⟩}
   |_=>
    dsimp only at h ⊢;generalize V.HS _ _=nb at h ⊢;cases nb;{cases h};{exact⟨_,_,rfl,h,fun A' j hj=>by rw[<-Um];exact(nW _ _ _).trans (Cn _ A' j hj)⟩}
  |_=>cases h
inductive RF where
 |k0 (v:V)|k1 (v:V) (lo:List (Key × O)) (tn:List (Nat × Option Nat))|k3 (v:V) (s:S)|k4 (v:V)
def RF.kind:RF->Nat
 | .k0 _=>0| .k1 _ _ _=>1| .k3 _ _=>3| .k4 _=>4
def RF.post (s:S) (A':Key->Option O) (K0:V->Prop) (K1:V->List (Key × O)->List (Nat × Option Nat)->Prop) (K2:V->S->Prop):RF->Prop
 | .k0 v=>K0 v| .k1 v lo tn=>GC (s.wA A') lo->GD (s.wA A') tn->Fl s lo=true->K1 v lo tn| .k3 v s1=>K2 v (s1.wA A')| .k4 v=>K0 v
def sL (F:List Key) (L:List (Key × O)):Bool:=F.all fun k=>(AY L k).isNone
def noF (F:List Key) (k:Key):Bool:=F.all fun j=>decide (j≠k)
def wZ (o:Oper) (ρ:Operand->V):Option Key:=match o.op with| .store _ p _=>(match ρ p with| .ptr k _ _=>some k|_=>none)|_=>none
def RA {R:Type} (X:Cx) (call:Ed R) (ext:EU) (F:List Key) (m:Nat) (o:Oper) (base s:S) (K:RF->Option R):Option R:=
 if dc m 19=true then ekI X m (Ae o) o (Aj X.gl s) (sF F s) fun v lo tn=>if Lh lo tn=true then K (.k4 v)else none
 else match wZ o (Aj X.gl s)with
 |some k=>if noF F k=true then ekT X m (Ae o) o (Aj X.gl s) s fun v s1=>K (.k3 v s1)else none
 |none=>if Yz o=true/\dc m 0=true/\(RN ext o (Aj X.gl s)).isNone=true then
    Jz X call false o (Aj X.gl s) (Kf base s (Ff o (Aj X.gl s))) fun v L=>if Hu L=true then(if Fl s (dnL (Ae o) L)=true/\LJ s (dnT (Ae o) (v.tkR 2000))=true then K (.k1 ((v.DV 2000).ren (dn (Ae o)) (rk (Ae o))) (dnL (Ae o) L) (dnT (Ae o) (v.tkR 2000)))else none)
      else if sL F (dnL (Ae o) L)=true/\Hg s (Ae o) L=true/\JE s (Ae o) (v.tkR 2000)=true then K (.k3 ((v.DV 2000).ren (dn (Ae o)) (rk (Ae o))) (s.ret false (Ff o (Aj X.gl s)) (Ae o) v L))else none
   else ekK X call ext m o base s fun r=>match r with| .k0 v=>K (.k0 v)| .k1 v lo tn=>K (.k1 v lo tn)| .k2 _ _=>none
theorem q7l {F:List Key} {s:S} {A':Key->Option O} (hF:∀k∈F,s.obj k≠none) (hA:leA s.A A'):sF F (s.wA A')=sF F s:=by
 have:∀(G:List Key),(∀k∈G,s.obj k≠none)->G.filterMap (fun k=>((s.wA A').obj k).map fun o=>(k,o))=G.filterMap fun k=>(s.obj k).map fun o=>(k,o):=by
  intro G
  induction G with
  |nil=>intro _;rfl|cons k G ih=>
   intro h;simp only[List.filterMap_cons];have hk:=h k (gb ..);cases ho:s.obj k with
   |none=>exact absurd ho hk|some ob=>
    rw[Dv hA ho,ih fun j hj=>h j (fm _ hj)]
 unfold sF;rw[this F hF]
section
variable {X:Cx} {R:Type} {call:Ed R} {ext:EU} (hc:JK X call) (he:Ig X ext)
include hc he
theorem q0z {F:List Key} {m:Nat} {o:Oper} {base s:S} (hb:∀k o,base.obj k=some o->s.obj k=some o) (hAb:base.A=s.A) (hF:∀k∈F,s.obj k≠none) {Kr:RF->Option R} {r:R} (h:RA X call ext F m o base s Kr=some r):
  ∃rd,Kr rd=some r/\(∀v lo tn,rd= .k1 v lo tn->Fl s lo=true)/\(∀v s1,rd= .k3 v s1->∀A',∀k∈F,(s1.wA A').obj k=(s.wA A').obj k)/\
   ∀A',leA s.A A'->∀md:List (Nat × Nat),Ck md (Ae o)=m->∀(K0:V->Prop) (K1:V->List (Key × O)->List (Nat × Option Nat)->Prop) (K2:V->S->Prop),RF.post s A' K0 K1 K2 rd->Jb X F md (some rd.kind) (base.wA A') (s.wA A') o K0 K1 K2:=by
 have z7g:∀A',leA s.A A'->leA base.A A':=fun A' hA=>by rw[hAb];exact hA
 unfold RA at h;split at h;{obtain⟨v,lo,tn,h1,h2⟩:=UF h;simp only[ba]at h1;obtain⟨h3,h1⟩:=h1;refine⟨_,h1,fun _ _ _ e=>(by cases e),fun _ _ e=>(by cases e),fun A' hA md hm K0 K1 K2 hK=>?_⟩;simp only[Lh,bg,qv]at h3;simp only[Jb,RF.kind];rw[Fi,q7l hF hA];exact h2 (sF F s).A (fun _ _ h=>h) md (sF F s) hm _ ⟨h3.1,h3.2,hK⟩}
 ·split at h
  ·rename_i k hk;simp only[ba]at h;obtain⟨hn,h⟩:=h;have hn':∀j∈F,j≠k:=by simpa[noF]using hn
   unfold wZ at hk;split at hk;{rename_i T p y ho;split at hk;{rename_i k' q τ hp;cases hk;obtain⟨v,s1,g1,g2,g3⟩:=q0R ho hp h;obtain⟨v',s1',e1,h2⟩:=YJ g1;cases e1;refine⟨_,g2,fun _ _ _ e=>(by cases e),fun _ _ e=>(by cases e;exact fun A' j hj=>g3 A' j (hn' j hj)),fun A' hA md hm K0 K1 K2 hK=>?_⟩;simp only[Jb,RF.kind];rw[Fi];exact h2 A' hA md hm _ ⟨fun j hj=>g3 A' j (hn' j hj),hK⟩};{cases hk}};{cases hk}
  ·split at h
   ·rename_i hcl;obtain⟨v,L,h1,h2⟩:=YE (dst:=Ae o) hc (Wa base s _) h;split at h1;{rename_i hl;simp only[ba]at h1;obtain⟨h3,h1⟩:=h1;refine⟨_,h1,fun v' lo' tn' e=>(by cases e;exact h3.1),fun _ _ e=>(by cases e),fun A' hA md hm K0 K1 K2 hK=>?_⟩;simp only[Jb,kop,RF.kind];rw[Fi];exact(h2 A' (by rw[WZ];exact z7g A' hA) md K1).1 hl (hK (RX h3.1) (RY h3.2) h3.1)}
    ·simp only[ba]at h1;obtain⟨⟨ho,h3⟩,h1⟩:=h1;have ho':∀k∈F,AY (dnL (Ae o) L) k=none:=by simpa[sL,Option.isNone_iff_eq_none]using ho
     have kp:∀A',∀k∈F,((s.ret false (Ff o (Aj X.gl s)) (Ae o) v L).wA A').obj k=(s.wA A').obj k:=fun A' k hk=>by rw[<-cU,vK];unfold S.back jv Cs;simp only[LV,ho' k hk]
     refine⟨_,h1,fun _ _ _ e=>(by cases e),fun _ _ e=>(by cases e;exact kp),fun A' hA md hm K0 K1 K2 hK=>?_⟩;simp only[Jb,RF.kind];rw[Fi];exact(h2 A' (by rw[WZ];exact z7g A' hA) md (fun _ _ _=>True)).2 (hm.trans (eh hcl.2.1)) (wL hb) hA h3.1 h3.2 _ ⟨kp A',hK⟩
   ·obtain⟨rd,h1,hf,h2⟩:=kG hc he hb hAb h;cases rd with|k0 v=>exact⟨_,h1,fun _ _ _ e=>(by cases e),fun _ _ e=>(by cases e),fun A' hA md hm K0 K1 K2 hK=>h2 A' hA md hm K0 K1 K2 hK⟩|k1 v lo tn=>exact⟨_,h1,fun _ _ _ e=>(by cases e;exact hf v lo tn rfl),fun _ _ e=>(by cases e),fun A' hA md hm K0 K1 K2 hK=>h2 A' hA md hm K0 K1 K2 hK⟩|k2 v s1=>cases h1
end
def GS {R:Type} (X:Cx) (call:Ed R) (ext:EU) (F:List Key) (ops:Array Oper) (yi:List Nat) (tbl:List (Nat × Nat)):List Oper->S->S->(List (Nat × Nat)->List Nat->S->Option R)->Option R
 | [],_,s,K=>K [] [] s|o::rest,base,s,K=>
  match o.guard with
  |none=>RA X call ext F (DJ yi tbl o (Aj X.gl s) s) o base s fun r=>match r with| .k0 v=>GS X call ext F ops yi tbl rest base (s.set o.dst v) fun ml ts s2=>K ((Ae o,DJ yi tbl o (Aj X.gl s) s)::ml) (0::ts) s2| .k1 v lo tn=>GS X call ext F ops yi tbl rest base ((s.add lo tn).set o.dst v) fun ml ts s2=>K ((Ae o,DJ yi tbl o (Aj X.gl s) s)::ml) (1::ts) s2| .k3 v s1=>GS X call ext F ops yi tbl rest ((s1.wA s.A).set o.dst v) ((s1.wA s.A).set o.dst v) fun ml ts s2=>K ((Ae o,DJ yi tbl o (Aj X.gl s) s)::ml) (3::ts) s2| .k4 v=>GS X call ext F ops yi tbl rest base (s.set o.dst v) fun ml ts s2=>K ((Ae o,DJ yi tbl o (Aj X.gl s) s)::ml) (4::ts) s2
  |some (j,want)=>RZ ops s j want (fun s=>RA X call ext F (DJ yi tbl o (Aj X.gl s) s) o base s fun r=>match r with
    | .k0 v=>GS X call ext F ops yi tbl rest base (s.set o.dst v) fun ml ts s2=>K ((Ae o,DJ yi tbl o (Aj X.gl s) s)::ml) (0::ts) s2| .k1 v lo tn=>GS X call ext F ops yi tbl rest base ((s.add lo tn).set o.dst v) fun ml ts s2=>K ((Ae o,DJ yi tbl o (Aj X.gl s) s)::ml) (1::ts) s2| .k3 v s1=>GS X call ext F ops yi tbl rest ((s1.wA s.A).set o.dst v) ((s1.wA s.A).set o.dst v) fun ml ts s2=>K ((Ae o,DJ yi tbl o (Aj X.gl s) s)::ml) (3::ts) s2| .k4 v=>GS X call ext F ops yi tbl rest base (s.set o.dst v) fun ml ts s2=>K ((Ae o,DJ yi tbl o (Aj X.gl s) s)::ml) (4::ts) s2)
    (fun s=>GS X call ext F ops yi tbl rest base (s.set o.dst (.tup [])) fun ml ts s2=>K ml (0::ts) s2)
section
variable {X:Cx} {R:Type} {call:Ed R} {ext:EU} (hc:JK X call) (he:Ig X ext)
include hc he
theorem Ot {F:List Key} {ops:Array Oper} {yi:List Nat} {tbl:List (Nat × Nat)} {r:R}:∀(l:List Oper) (base s:S) {K:List (Nat × Nat)->List Nat->S->Option R},base.A=s.A->(∀k o,base.obj k=some o->s.obj k=some o)->(∀k∈F,s.obj k≠none)->GS X call ext F ops yi tbl l base s K=some r->
  ∃ml ts s2,K ml ts s2=some r/\s2.A=s.A/\∀A',leA s.A A'->∀md:List (Nat × Nat),(∀p∈ml,Ck md p.1=p.2)->∀Φ:S->Prop,Φ (s2.wA A')->vdF X F md ops Φ l ts (base.wA A') (s.wA A')
 | [],base,s,K,hAb,hb,hF,h=>⟨_,_,_,h,rfl,fun A' hA md hm Φ hΦ=>hΦ⟩|o::rest,base,s,K,hAb,hb,hF,h=>by
  have go:(RA X call ext F (DJ yi tbl o (Aj X.gl s) s) o base s fun r=>match r with
    | .k0 v=>GS X call ext F ops yi tbl rest base (s.set o.dst v) fun ml ts s2=>K ((Ae o,DJ yi tbl o (Aj X.gl s) s)::ml) (0::ts) s2| .k1 v lo tn=>GS X call ext F ops yi tbl rest base ((s.add lo tn).set o.dst v) fun ml ts s2=>K ((Ae o,DJ yi tbl o (Aj X.gl s) s)::ml) (1::ts) s2| .k3 v s1=>GS X call ext F ops yi tbl rest ((s1.wA s.A).set o.dst v) ((s1.wA s.A).set o.dst v) fun ml ts s2=>K ((Ae o,DJ yi tbl o (Aj X.gl s) s)::ml) (3::ts) s2| .k4 v=>GS X call ext F ops yi tbl rest base (s.set o.dst v) fun ml ts s2=>K ((Ae o,DJ yi tbl o (Aj X.gl s) s)::ml) (4::ts) s2)=some r->
    ∃ml ts s2,K ml ts s2=some r/\s2.A=s.A/\∀A',leA s.A A'->∀md:List (Nat × Nat),(∀p∈ml,Ck md p.1=p.2)->∀Φ:S->Prop,Φ (s2.wA A')->Jb X F md ts.head? (base.wA A') (s.wA A') o (fun v=>vdF X F md ops Φ rest ts.tail (base.wA A') ((s.wA A').set o.dst v))
    (fun v lo tn=>GC (s.wA A') lo/\GD (s.wA A') tn/\vdF X F md ops Φ rest ts.tail (base.wA A') (((s.wA A').add lo tn).set o.dst v))
    (fun v s'=>vdF X F md ops Φ rest ts.tail (s'.set o.dst v) (s'.set o.dst v)):=by
   intro h;obtain⟨rd,h1,hf,hk3,h2⟩:=q0z hc he hb hAb hF h;cases rd with
   |k0 v=>
    obtain⟨ml,ts,s2,h3,h4,h5⟩:=Ot rest base _ (by rw[Dc];exact hAb) (fun k o' hk=>by rw[IP];exact hb k o' hk) (fun k hk=>by rw[IP];exact hF k hk) h1;refine⟨_,_,s2,h3,by rw[h4,Dc],fun A' hA md hm Φ hΦ=>h2 A' hA md (hm (Ae o,_) (gb ..)) _ _ _ ?_⟩;have:=h5 A' (by rw[Dc];exact hA) md (fun p hp=>hm p (fm _ hp)) Φ hΦ;rw[<-JC]at this;exact this
   |k1 v lo tn=>
    have hfr:=hf v lo tn rfl
    obtain⟨ml,ts,s2,h3,h4,h5⟩:=Ot rest base _ (by rw[Dc];exact hAb) (fun k o' hk=>by rw[IP];exact aI hfr (hb k o' hk)) (fun k hk=>by
     rw[IP];cases ho:s.obj k with
     |none=>exact absurd ho (hF k hk)|some ob=>rw[aI hfr ho];exact fun e=>by cases e) h1
    refine⟨_,_,s2,h3,by rw[h4,Dc];rfl,fun A' hA md hm Φ hΦ=>h2 A' hA md (hm (Ae o,_) (gb ..)) _ _ _ ?_⟩;intro f1 f2 f3;refine⟨f1,f2,?_⟩;have:=h5 A' (by rw[Dc];exact hA) md (fun p hp=>hm p (fm _ hp)) Φ hΦ;rw[<-JC]at this;exact this
   |k3 v s1=>
    obtain⟨ml,ts,s2,h3,h4,h5⟩:=Ot rest ((s1.wA s.A).set o.dst v) ((s1.wA s.A).set o.dst v) rfl (fun _ _ h=>h) (fun k hk=>by
     rw[IP,hk3 v s1 rfl s.A k hk];exact hF k hk) h1
    refine⟨_,_,s2,h3,by rw[h4,Dc];rfl,fun A' hA md hm Φ hΦ=>h2 A' hA md (hm (Ae o,_) (gb ..)) _ _ _ ?_⟩;have:=h5 A' (by rw[Dc];exact hA) md (fun p hp=>hm p (fm _ hp)) Φ hΦ;rw[<-JC]at this;exact this
   |k4 v=>
    obtain⟨ml,ts,s2,h3,h4,h5⟩:=Ot rest base _ (by rw[Dc];exact hAb) (fun k o' hk=>by rw[IP];exact hb k o' hk) (fun k hk=>by rw[IP];exact hF k hk) h1;refine⟨_,_,s2,h3,by rw[h4,Dc],fun A' hA md hm Φ hΦ=>h2 A' hA md (hm (Ae o,_) (gb ..)) _ _ _ ?_⟩;have:=h5 A' (by rw[Dc];exact hA) md (fun p hp=>hm p (fm _ hp)) Φ hΦ;rw[<-JC]at this;exact this
  simp only[GS]at h;simp only[vdF];cases hg:o.guard with
  |none=>
   rw[hg]at h;exact go h
  |some jw=>
   obtain⟨j,want⟩:=jw;rw[hg]at h;dsimp only at h ⊢;simp only[Yt];rcases Yq h with⟨h1,h2⟩|⟨h1,h2⟩;{obtain⟨ml,ts,s2,h3,h4,h5⟩:=go h1;exact⟨ml,ts,s2,h3,h4,fun A' hA md hm Φ hΦ=>h2 _ _ (h5 A' hA md hm Φ hΦ)⟩};{obtain⟨ml,ts,s2,h3,h4,h5⟩:=Ot rest base _ (by rw[Dc];exact hAb) (fun k o' hk=>by rw[IP];exact hb k o' hk) (fun k hk=>by rw[IP];exact hF k hk) h1;refine⟨ml,_,s2,h3,by rw[h4,Dc],fun A' hA md hm Φ hΦ=>h2 _ _ ?_⟩;rw[JC];exact h5 A' (by rw[Dc];exact hA) md hm Φ hΦ}
end
end
section
def q19 (tbl:List (Nat × Nat)):List Key:=tbl.filterMap fun p=>bif dc p.2 19 then(bif Nat.ble 3000000 p.1 then some (.g (.l (p.1-3000000)))else bif Nat.ble 2000000 p.1 then some (.l (p.1-2000000))else none)else none
def YG {R:Type} (X:Cx) (call:Ed R) (ext:EU) (tbl:List (Nat × Nat)) (n:Nat) (ops:List Oper) (draw:Bool) (s:S) (K:S->Option R):Option R:=
 if ops.all (IQ n)=true then
  (match draw with
  |true=>(match q19 tbl with| []=>Hc X call ext ops.toArray (Tb ops) tbl ops s s fun ml ts s2=>if PY ml ml=true/\Pf ops ts=true then K s2 else none|k::F=>if(k::F).all (fun k=>(s.obj k).isSome)=true then GS X call ext (k::F) ops.toArray (Tb ops) tbl ops s s fun ml ts s2=>if PY ml ml=true/\Pf ops (ts.map tK)=true then K s2 else none else none)|false=>Mh X call ext ops.toArray (Tb ops) tbl ops s fun ml s2=>if PY ml ml=true then K s2 else none)
 else none
abbrev KE (R:Type):=Exit->S->Option R
def RC {R:Type} (body:S->KE R->Option R) (Cn:List Nat):Nat->S->KE R->Option R
 |0,_,_=>none|k+1,s,K=>body s fun e s1=>match e with| .normal=>if gcB Cn s1=true then RC body Cn k (gcS Cn s1) K else none|e=>K e s1
section
variable {X:Cx} {R:Type} {call:Ed R} {ext:EU} (hP:BN X.P=true) (hmo:X.P.follows .mixedOrders=true) (hc:JK X call) (he:Ig X ext)
def MJ (X:Cx) (n:Nat) (c:Code) (s:S) {R:Type} (r:R) (K:KE R):Prop:=
 ∃e s',K e s'=some r/\s'.A=s.A/\∀A',leA s.A A'->∀Ψ:Exit->S->Prop,Ψ e (s'.wA A')->DC X n c (s.wA A') Ψ
theorem kJ {c:Code} {n:Nat} {Cn:List Nat} {body:S->KE R->Option R} {r:R} (hb:∀s (K:KE R),body s K=some r->MJ X n c s r K):
  ∀(k:Nat) (s:S) (K:KE R),RC body Cn k s K=some r->∃e s',K e s'=some r/\s'.A=s.A/\∀A',leA s.A A'->∀Ψ:Exit->S->Prop,Ψ e (s'.wA A')->∀(Γ0:G) (a:Act) (w:World),At X n Γ0 (s.wA A') a w->Code.rounds X.P c (fun e a w=>∃s',Ψ e s'/\At X n Γ0 s' a w) k a w
 |0,s,K,h=>by simp[RC]at h
 |k+1,s,K,h=>by
  simp only[RC]at h;obtain⟨e0,s1,h1,hA1,hD⟩:=hb _ _ h;have z7h:∀(hne:e0≠.normal),K e0 s1=some r->∃e s',K e s'=some r/\s'.A=s.A/\∀A',leA s.A A'->∀Ψ:Exit->S->Prop,Ψ e (s'.wA A')->∀(Γ0:G) (a:Act) (w:World),At X n Γ0 (s.wA A') a w->Code.rounds X.P c (fun e a w=>∃s',Ψ e s'/\At X n Γ0 s' a w) (k+1) a w:=by
   intro hne h1;refine⟨e0,s1,h1,hA1,fun A' hA Ψ hΨ Γ0 a w hat=>?_⟩;rw[rounds_succ];refine wp_mono (hD A' hA (fun e1 s2=>e1=e0/\s2=s1.wA A') ⟨rfl,rfl⟩ Γ0 a w hat) ?_;rintro e1 a1 w1 ⟨s2,⟨rfl,rfl⟩,z61⟩;cases e1 with
   |normal=>exact absurd rfl hne|exit _|goto _|ret|panic _|outgrown=>exact⟨_,hΨ,z61⟩
  cases e0 with
  |normal=>
   simp only[ba]at h1;obtain⟨h2,h1⟩:=h1;obtain⟨e,s',h3,h4,h5⟩:=kJ hb k (gcS Cn s1) K h1;refine⟨e,s',h3,by rw[h4];exact hA1,fun A' hA Ψ hΨ Γ0 a w hat=>?_⟩;have hA2:leA (gcS Cn s1).A A':=by show leA s1.A A';rw[hA1];exact hA
   rw[rounds_succ];refine wp_mono (hD A' hA (fun e1 s2=>e1= .normal/\s2=s1.wA A') ⟨rfl,rfl⟩ Γ0 a w hat) ?_;rintro e1 a1 w1 ⟨s2,⟨rfl,rfl⟩,z61⟩;exact h5 A' hA2 Ψ hΨ Γ0 a1 w1 (q1n A' h2 Γ0 a1 w1 z61)
  |exit _|goto _|ret|panic _|outgrown=>exact z7h (by simp) h1
include hP hmo hc he
theorem q0E {tbl:List (Nat × Nat)} {n id:Nat} {ops:List Oper} {draw:Bool} {s:S} {r:R} {K:S->Option R} (h:YG X call ext tbl n ops draw s K=some r):
  ∃s',K s'=some r/\s'.A=s.A/\∀A',leA s.A A'->∀Ψ:Exit->S->Prop,Ψ .normal (s'.wA A')->DC X n (.region id ops.toArray draw) (s.wA A') Ψ:=by
 unfold YG at h;simp only[ba]at h;obtain⟨h1,h⟩:=h;cases draw with
 |true=>
  dsimp only at h;split at h;{obtain⟨ml,ts,s2,h2,h3,h4⟩:=RL hc he ops s s rfl (fun _ _ h=>h) h;simp only[ba]at h2;obtain⟨⟨h5,h6⟩,h2⟩:=h2;exact⟨s2,h2,h3,fun A' hA Ψ hΨ=>U6 hP hmo ml ts h1 h6 (h4 A' hA ml (VR h5) _ hΨ)⟩}
  ·rename_i k F _;simp only[ba]at h;obtain⟨hq,h⟩:=h;have hF:∀j∈k::F,s.obj j≠none:=fun j hj e=>by have:=dw.1 hq j hj;rw[e]at this;cases this
   obtain⟨ml,ts,s2,h2,h3,h4⟩:=Ot hc he ops s s rfl (fun _ _ h=>h) hF h;simp only[ba]at h2;obtain⟨⟨h5,h6⟩,h2⟩:=h2;refine⟨s2,h2,h3,fun A' hA Ψ hΨ=>U7 hP hmo (k::F) ml ts h1 h6 (fun j hj e=>?_) (h4 A' hA ml (VR h5) _ hΨ)⟩;cases ho:s.obj j with
   |none=>exact hF j hj ho|some ob=>rw[Dv hA ho]at e;cases e
 |false=>
  obtain⟨ml,s2,h2,h3,h4⟩:=YF hc he ops s h;simp only[ba]at h2;obtain⟨h5,h2⟩:=h2;exact⟨s2,h2,h3,fun A' hA Ψ hΨ=>Cz hP ml h1 (h4 A' hA ml (VR h5) _ hΨ)⟩
end
def Ph {R:Type} (s:S):List V->(List V->Option R)->Option R
 | [],K=>K []|x::xs,K=>(match x with| .sl eb e cs t=>(match LS s t cs.length with|some b=>bif b then Ph s xs (fun vs=>K (.ts eb e cs::vs))else none|none=>Ph s xs (fun vs=>K (.d (.slice eb e) (.slice cs)::vs)))|x=>Ph s xs (fun vs=>K (x.GH::vs)))
theorem Vh {R:Type} {s:S} {r:R}:∀{xs:List V} {K:List V->Option R},Ph s xs K=some r->K (Iy s xs)=some r
 | [],K,h=>h|x::xs,K,h=>by
  simp only[Ph]at h;split at h
  ·rename_i eb e cs t;split at h
   ·rename_i b e0;cases b with
    |false=>cases h
    |true=>
     have hl:=ZU e0;have:=Vh (xs:=xs) h;simp only[Iy,NR,if_pos hl];exact this
   ·rename_i e0;have hl:s.live t=none:=by unfold LS at e0;split at e0;{cases e0};{rename_i e5;exact e5}
    have:=Vh (xs:=xs) h;simp only[Iy,NR];rw[if_neg (by rw[hl];simp)];exact this
  ·rename_i hx;have:=Vh (xs:=xs) h;simp only[Iy];have e:NR s x=x.GH:=by cases x <;> first|rfl|exact(hx _ _ _ _ rfl).elim
   rw[e];exact this
def kL {R:Type} (X:Cx) (fn:Func) (s:S) (K:V->List (Key × O)->Option R):Option R:=
 Ph s (Fa X s fn.results.toList) fun vs=>
  if Su X s fn.results.toList=true/\Rw (Fa X s fn.results.toList)=true/\Ga (Cd (Gx s.loc (reach s.loc 100000 (V.KK vs++JY s.loc) []) s.loc)) vs=true/\Gz (JD (GM 2000 (Fa X s fn.results.toList) vs))=true/\Kv (Gx s.loc (reach s.loc 100000 (V.KK vs++JY s.loc) []) s.loc)=true/\
   Fu (Cd (Gx s.loc (reach s.loc 100000 (V.KK vs++JY s.loc) []) s.loc)) CP (Gx s.loc (reach s.loc 100000 (V.KK vs++JY s.loc) []) s.loc)=true/\Ik (Gx s.loc (reach s.loc 100000 (V.KK vs++JY s.loc) []) s.loc) s.loc=true then
   K (aX vs) (Gx s.loc (reach s.loc 100000 (V.KK vs++JY s.loc) []) s.loc)else none
theorem q0F {X:Cx} {fn:Func} {s:S} {R:Type} {r:R} {K:V->List (Key × O)->Option R} (h:kL X fn s K=some r):∃v L,K v L=some r/\∀A',leA s.A A'->Eu X fn A' v L (s.wA A'):=by have h:=Vh h;simp only[ba]at h;obtain⟨h1,h⟩:=h;refine⟨_,_,h,fun A' hA=>q00 hA ?_⟩;simp only[YR,if_pos h1]
abbrev OvK (R:Type):=FuncId->Option (List V->(Key->Option O)->(V->List (Key × O)->Option R)->Option R)
def XH (X:Cx) {R:Type} (ov:OvK R):Prop:=∀f g,ov f=some g->∀xs A Kr r,g xs A Kr=some r->∃v L,Cc X f xs A v L/\Kr v L=some r
section
variable {X:Cx} {R:Type} {ov:OvK R} {ext:EU} (hP:BN X.P=true) (hmo:X.P.follows .mixedOrders=true) (hov:XH X ov) (he:Ig X ext)
include hP hmo hov he
end
abbrev kR:V->List (Key × O)->Option (V × List (Key × O)):=fun v L=>some (v,L)
end
section
section
variable {e:Exit} {s:S} {Q:Exit->S->Prop} {T T':Option (Exit × S)}
end
theorem DC.post {X:Cx} {n:Nat} {c:Code} {s:S} {Ψ Ψ':Exit->S->Prop} (h:DC X n c s Ψ) (hq:∀e s,Ψ e s->∃s',EE X n s s'/\Ψ' e s'):DC X n c s Ψ':=
 fun Γ0 a w hat=>wp_mono (h Γ0 a w hat) fun e a w ⟨s1,h1,h2⟩=>by obtain⟨s2,h3,h4⟩:=hq e s1 h1;exact⟨s2,h4,h3 Γ0 a w h2⟩
abbrev OvG (R:Type):=List V->(Key->Option O)->(V->List (Key × O)->Option R)->Option R
def GOk (X:Cx) (f:FuncId) {R:Type} (g:OvG R):Prop:=∀xs A Kr r,g xs A Kr=some r->∃v L,Cc X f xs A v L/\Kr v L=some r
def KM {R:Type}:List (FuncId × OvG R)->FuncId->Option (OvG R)
 | [],_=>none|(f,g)::l,i=>bif dc f i then some g else KM l i
structure OvS (X:Cx) where
 g:(R:Type)->List (FuncId × OvG R)
 ok:∀R,∀p∈g R,GOk X p.1 p.2
theorem pR {R:Type}:∀{l:List (FuncId × OvG R)} {f:FuncId} {g:OvG R},KM l f=some g->(f,g)∈l
 |(j,y)::l,f,g,h=>by
  simp only[KM]at h;cases hb:dc j f with
  |true=>
   rw[hb]at h;cases h;rw[eh hb];exact gb ..
  |false=>
   rw[hb]at h;exact fm _ (pR h)
def OvS.ov {X:Cx} (o:OvS X) (R:Type):OvK R:=fun f=>KM (o.g R) f
theorem OvS.aW {X:Cx} (o:OvS X) (R:Type):XH X (o.ov R):=fun f g h=>o.ok R (f,g) (pR h)
theorem J2 {X:Cx} {f:FuncId} {eb:Nat} {e:Ty} {A:Key->Option O} {v:List C->V} {L:List C->List (Key × O)} (h:∀cs,Cc X f [.d (.slice eb e) (.slice cs)] A (v cs) (L cs)) (c:C):Cc X f [.d (.slice eb e) c] A (v c.elems) (L c.elems):=by intro A' Γ w args hA hg hc hn hr;have hs:args.size=1:=hn.symm;have h0:AI Γ (.d (.slice eb e) c) args[0]:=hr 0 _ _ rfl (Array.getElem?_eq_getElem (by omega:0<args.size));obtain⟨h1,_⟩:=(Ci rfl rfl).1 h0;simp only[AA,AO]at h1;obtain⟨_,_,_,cs,rfl,_⟩:=h1;exact h cs A' Γ w args hA hg hc hn hr
def MX {R:Type} (eb:Nat) (e:Ty):OvG R:=fun xs _ K=>match xs with| [.d (.slice eb' e') c]=>if eb'=eb/\e'=e then K (.ts eb e c.elems) []else none|_=>none
theorem Qj {X:Cx} {f:FuncId} {eb:Nat} {e:Ty} (h:∀(A:Key->Option O) cs,Cc X f [.d (.slice eb e) (.slice cs)] A (.ts eb e cs) []) {R:Type}:GOk X f (MX (R:=R) eb e):=by intro xs A Kr r hr;unfold MX at hr;split at hr;{simp only[ba]at hr;obtain⟨⟨rfl,rfl⟩,hr⟩:=hr;exact⟨_,_,J2 (v:=fun cs=>.ts _ _ cs) (L:=fun _=>[]) (h A) _,hr⟩};{cases hr}
theorem oV {A A':Key->Option O} (h:∀k,A k=none):leA A A':=fun k o e=>by rw[h k]at e;cases e
end
def Ce (f:Nat->Nat):Key->Key
 | .l n=>.l (f n)| .g k=>.g k
def S.ren (s:S) (f g:Nat->Nat):S:=
 ⟨s.env.map fun p=>(p.1,p.2.ren (Ce f) g),s.loc.map fun p=>(Ce f p.1,p.2.ren (Ce f)),s.A,s.tk.map fun p=>(g p.1,p.2)⟩
def GW:List (Key × O)->List Nat
 | []=>[]|(.l n,_)::l=>n::GW l|(.g _,_)::l=>GW l
def Gi:List (Nat × Option Nat)->List Nat
 | []=>[]|(t,_)::l=>t::Gi l
def KH (f:Nat->Nat) (l:List Nat):Bool:=l.all fun a=>l.all fun b=> !(dc (f a) (f b))||dc a b
theorem nH {f:Nat->Nat} {l:List Nat} (h:KH f l=true) {a b:Nat} (ha:a∈l) (hb:b∈l) (e:f a=f b):a=b:=by simp only[KH,dw]at h;have:=h a ha b hb;rw[e,Nat.beq_refl]at this;simpa[Nat.beq_eq]using this
theorem Rf:∀{l:List (Key × O)} {n:Nat},AY l (.l n)≠none->n∈GW l
 | [],_,h=>by simp[AY]at h
 |(.l m,o)::l,n,h=>by simp only[AY]at h;simp only[GW,gy];by_cases e:m=n;{exact .inl e.symm};{rw[if_neg (by intro e';cases e';exact e rfl)]at h;exact .inr (Rf h)}
 |(.g m,o)::l,n,h=>by simp only[AY]at h;rw[if_neg (by intro e';cases e')]at h;exact Rf (l:=l) h
theorem Zc {f:Nat->Nat}:∀{l:List (Key × O)} {k':Key} {o':O},AY (l.map fun p=>(Ce f p.1,p.2.ren (Ce f))) k'=some o'->∃k o,Ce f k=k'/\AY l k=some o/\o'=o.ren (Ce f)
 | [],_,_,h=>by simp[AY]at h
 |(j,p)::l,k',o',h=>by simp only[dt,AY]at h;by_cases e:Ce f j=k';{rw[if_pos e]at h;cases h;exact⟨j,p,e,by simp[AY],rfl⟩};{rw[if_neg e]at h;obtain⟨k,o,h1,h2,h3⟩:=Zc h;refine⟨k,o,h1,?_,h3⟩;simp only[AY];rw[if_neg (fun e'=>e (by rw[e'];exact h1))];exact h2}
theorem Rl {f:Nat->Nat}:∀{l:List (Key × O)} {k:Key},AY (l.map fun p=>(Ce f p.1,p.2.ren (Ce f))) (.g k)=(AY l (.g k)).map fun o=>o.ren (Ce f)
 | [],_=>rfl|(.l m,p)::l,k=>by simp only[dt,AY,Ce];rw[if_neg (by intro e;cases e),if_neg (by intro e;cases e)];exact Rl
 |(.g m,p)::l,k=>by simp only[dt,AY,Ce];by_cases e:Key.g m= .g k;{rw[if_pos e,if_pos e];rfl};{rw[if_neg e,if_neg e];exact Rl}
theorem qC {g:Nat->Nat}:∀{l:List (Nat × Option Nat)} {u:Nat} {x:Option Nat},look (l.map fun p=>(g p.1,p.2)) u=some x->∃t,g t=u/\look l t=some x/\t∈Gi l
 | [],_,_,h=>by simp[look]at h
 |(j,p)::l,u,x,h=>by simp only[dt,look]at h;by_cases e:g j=u;{rw[if_pos e]at h;cases h;exact⟨j,e,by simp[look],by simp[Gi]⟩};{rw[if_neg e]at h;obtain⟨t,h1,h2,h3⟩:=qC h;refine⟨t,h1,?_,by simp[Gi,h3]⟩;simp only[look];rw[if_neg (fun e'=>e (by rw[e'];exact h1))];exact h2}
theorem oB {g:Nat->Nat}:∀{l:List (Nat × Option Nat)} {t:Nat},t∈Gi l->(look (l.map fun p=>(g p.1,p.2)) (g t)).isSome=true
 | [],_,h=>by simp[Gi]at h
 |(j,p)::l,t,h=>by simp only[Gi,gy]at h;simp only[dt,look];by_cases e:g j=g t;{rw[if_pos e];rfl};{rw[if_neg e];rcases h with h|h;{subst h;exact absurd rfl e};{exact oB h}}
theorem xA:∀{l:List (Nat × Option Nat)} {t:Nat},(look l t).isSome=true->t∈Gi l
 | [],_,h=>by simp[look]at h
 |(j,p)::l,t,h=>by simp only[look]at h;simp only[Gi,gy];by_cases e:j=t;{exact .inl e.symm};{rw[if_neg e]at h;exact .inr (xA h)}
theorem Zg {f:V->V}:∀(l:List (Nat × V)) (i:Nat),look (l.map fun p=>(p.1,f p.2)) i=(look l i).map f
 | [],_=>rfl|(j,x)::l,i=>by simp only[dt,look];by_cases e:j=i;{rw[if_pos e,if_pos e];rfl};{rw[if_neg e,if_neg e];exact Zg l i}
theorem q1t (s:S) (f g:Nat->Nat) (i:Nat):(s.ren f g).get i=(s.get i).ren (Ce f) g:=by unfold S.get S.ren;rw[Zg];cases look s.env i <;> rfl
mutual
theorem V.Sl {f g:Nat->Nat}:∀(x:V),x.ok CP CP=true->x.ren (Ce f) g=x
 | .sl _ _ _ t,h=>by simp[V.ok,CP]at h
 | .ptr (.l k) _ _,h| .mp (.l k),h| .sr (.l k) _ _ _ _ _ _,h=>by simp[V.ok,CP]at h
 | .agg _ vs,h| .fn _ vs,h| .tup vs,h=>by simp only[V.ok]at h;simp only[V.ren,V.uZ vs h]
 | .ptr (.g _) _ _,_| .mp (.g _),_| .sr (.g _) _ _ _ _ _ _,_| .d _ _,_| .ts _ _ _,_| .emp _ _,_| .yf,_| .yg _ _,_| .top _,_| .any,_=>by simp[V.ren,Ce]
theorem V.uZ {f g:Nat->Nat}:∀(xs:List V),vf CP CP xs=true->V.Dn (Ce f) g xs=xs
 | [],_=>rfl|x::xs,h=>by simp only[vf,bg]at h;simp only[V.Dn,V.Sl x h.1,V.uZ xs h.2]
end
theorem lJ {f:Nat->Nat}:∀{es:List (C × V)},V.Dm CP CP es=true->es.map (fun c=>(c.1,c.2.ren (Ce f) id))=es
 | [],_=>rfl|x::xs,h=>by simp only[V.Dm,bg]at h;simp only[dt,V.Sl x.2 h.1,lJ h.2]
theorem O.Sl {f:Nat->Nat} {o:O} (h:o.ok CP CP=true):o.ren (Ce f)=o:=by
 cases o with
 |box x=>simp only[O.ren];rw[V.Sl x h]|map kτ vτ es=>
  simp only[O.ren];rw[lJ h];cases vτ.FC <;> rfl
 |it=>rfl|dead=>rfl
def Tip.ren (f g:Nat->Nat):Tip->Tip
 | .tok t=>.tok (g t)| .home k p=>.home (Ce f k) p
def G.GJ (Γ:G) (s:S) (f g:Nat->Nat):G:=
 {Γ with
  ι:=fun k=>match k with| .g k=>Γ.ι (.g k)| .l m=>match(GW s.loc).find? (fun n=>decide (f n=m))with|some n=>Γ.ι (.l n)|none=>none
  τ:=fun u=>match(Gi s.tk).find? (fun t=>decide (g t=u))with|some t=>Γ.τ t|none=>none
  κ:=fun b=>(Γ.κ b).map fun p=>(p.1.ren f g,p.2)}
theorem lX {f:Nat->Nat} {l:List Nat} (h:KH f l=true) {n:Nat} (hn:n∈l):l.find? (fun a=>decide (f a=f n))=some n:=by
 cases hf:l.find? (fun a=>decide (f a=f n))with
 |none=>
  have:=List.find?_eq_none.1 hf n hn;simp at this
 |some a=>
  have h1:=rz hf;have h2:=sq hf;rw[nH h h2 hn (by simpa using h1)]
theorem aJ {s:S} {n:Nat}:s.obj (.l n)=AY s.loc (.l n):=by unfold jv Cs;cases AY s.loc (.l n) <;> rfl
theorem q9d {X:Cx} {n:Nat} {s:S} (f g:Nat->Nat) (hf:KH f (GW s.loc)=true) (hg:KH g (Gi s.tk)=true):EE X n s (s.ren f g):=by
 rintro Γ0 a w ⟨Γ,g1,g3,c,hs,hn,hfr,hA⟩
 have lin:∀m x,Γ.ι (.l m)=some x->m∈GW s.loc:=fun m x h=>Rf (by
  have:=c.dom (.l m) (by rw[h];simp)
  rwa [aJ]at this)
 have tin:∀t x,Γ.τ t=some x->t∈Gi s.tk:=fun t x h=>xA (c.yv t (by rw[h];simp));have ιl:∀m,m∈GW s.loc->(Γ.GJ s f g).ι (.l (f m))=Γ.ι (.l m):=fun m hm=>by simp only[G.GJ,lX hf hm]
 have z8L:∀k,s.obj k≠none->Γ.ι k=none->(Γ.GJ s f g).ι (Ce f k)=none:=by
  intro k ho hn;cases k with
  |g k=>exact hn|l m=>
   have hm:m∈GW s.loc:=Rf (by rw[<-aJ];exact ho);exact(ιl m hm).trans hn
 have ιk:∀k x,Γ.ι k=some x->(Γ.GJ s f g).ι (Ce f k)=some x:=by
  intro k x h;cases k with
  |g k=>exact h|l m=>exact(ιl m (lin m x h)).trans h
 have τk:∀t x,Γ.τ t=some x->(Γ.GJ s f g).τ (g t)=some x:=by intro t x h;simp only[G.GJ,lX hg (tin t x h)];exact h
 have back:∀k' x,(Γ.GJ s f g).ι k'=some x->∃k,Ce f k=k'/\Γ.ι k=some x:=by
  intro k' x h;cases k' with
  |g k=>exact⟨.g k,rfl,h⟩|l m=>
   simp only[G.GJ]at h;split at h;{rename_i n' hfd;exact⟨.l n',by simp only[Ce];rw[show f n'=m by simpa using rz hfd],h⟩};{cases h}
 have pr:∀hm,HG Γ (Γ.GJ s f g) (Ce f) hm:=fun hm=>⟨Hp.le_refl _,ιk,fun _ _ h=>h,fun k b p sz _ hk=>⟨by simp[G.GJ,hk,Tip.ren],rfl⟩⟩;have z8t:∀k x,Γ.ι k=some x->(s.ren f g).obj (Ce f k)≠none:=by
  intro k x h1;cases k with
  |l m=>
   have hm:=lin m x h1;show jv (s.ren f g) (.l (f m))≠none;rw[aJ];intro z8M;have key:∀{l:List (Key × O)},m∈GW l->AY (l.map fun p=>(Ce f p.1,p.2.ren (Ce f))) (.l (f m))≠none:=by
    intro l
    induction l with
    |nil=>intro h;simp[GW]at h|cons p l ih=>
     obtain⟨j,o⟩:=p;intro h;simp only[dt,AY];by_cases e:Ce f j= .l (f m);{rw[if_pos e];simp}
     ·rw[if_neg e];cases j with
      |g j=>exact ih (by simpa[GW]using h)|l j=>
       simp only[GW,gy]at h;rcases h with rfl|h;{exact absurd rfl e};{exact ih h}
   exact key hm z8M
  |g k=>
   have h2:=c.dom (.g k) (by rw[h1];simp);show jv (s.ren f g) (.g k)≠none;unfold jv Cs at h2 ⊢;rw[show AY (s.ren f g).loc (.g k)=_ from Rl];cases hl:AY s.loc (.g k)with
   |none=>rw[hl]at h2;exact h2|some o=>simp
 have yw:∀k x,Γ.ι k=some x->s.CY k=true->(s.ren f g).CY (Ce f k)=true:=by
  intro k x h1 hd;cases ho':(s.ren f g).obj (Ce f k)with
  |none=>exact absurd ho' (z8t k x h1)|some o1=>
   rw[FO ho'];cases hl:AY (s.ren f g).loc (Ce f k)with
   |some o2=>
    have e:o2=o1:=by unfold jv Cs at ho';rw[hl]at ho';exact Option.some.inj ho'
    subst e;obtain⟨k2,o,h2,h3,rfl⟩:=Zc hl;have hk:k2=k:=by
     cases k with
     |g k=>cases k2 with|g k2=>simpa[Ce]using h2|l m2=>simp[Ce]at h2
     |l m=>cases k2 with
      |g k2=>simp[Ce]at h2|l m2=>
       simp only[Ce,Key.l.injEq]at h2;rw[nH hf (Rf (by rw[h3];simp)) (lin m x h1) h2]
    subst hk;rw[O.Sk];rw[FO (VZ h3)]at hd;exact hd
   |none=>
    cases k with
    |l m=>unfold jv Cs at ho';rw[show Ce f (.l m)= .l (f m) from rfl]at ho' hl;rw[hl]at ho';cases ho'
    |g k=>
     have h0:AY s.loc (.g k)=none:=by
      have:=Rl (f:=f) (l:=s.loc) (k:=k);rw[show AY (s.loc.map _) (.g k)=none from hl]at this;cases hx:AY s.loc (.g k)with
      |none=>rfl|some y=>rw[hx]at this;cases this
     have e1:(s.ren f g).obj (.g k)=s.A k:=by unfold jv Cs;rw[show AY (s.ren f g).loc (.g k)=none from hl];rfl
     have e2:s.obj (.g k)=s.A k:=by unfold jv Cs;rw[h0]
     rw[FO (e2.trans (e1.symm.trans ho'))]at hd;exact hd
 refine⟨Γ.GJ s f g,⟨g1.H,g1.Z,g1.ZH,g1.g,g1.gl,g1.oo,g1.σ,g1.gn⟩,g3,?_,fun i=>?_,hn,hfr,hA⟩
 ·refine⟨c.hH,c.hZ,fun b o sz h=>?_,fun k' o' h=>?_,fun k' h=>?_,fun k k' b τ τ' h1 h2=>?_,fun u L h=>?_,fun u h=>?_,c.hgl,c.hoo,c.hσ⟩
  ·cases hk:Γ.κ b with
   |none=>simp[G.GJ,hk]at h|some p=>
    obtain⟨t,sz'⟩:=p;simp[G.GJ,hk]at h;obtain⟨a1,a2,arr,T,a3,a4,a5⟩:=c.hκ b t sz' hk;rw[<-h.2,<-h.1];exact⟨a1,a2,arr,T,a3,a4,by cases t with|tok=>trivial|home _ p=>cases p <;> exact a5⟩
  ·have own:∀k o,s.obj k=some o->((Γ.GJ s f g).ι (Ce f k)=none/\(o.ren (Ce f)).Jo)\/Own (Γ.GJ s f g) w (Ce f k) (o.ren (Ce f)):=fun k o ho=>
    (c.obj k o ho).imp (fun h=>⟨z8L k (by rw[ho];simp) h.1,O.Ww h.2⟩) fun yq=>Own.ren (pr _) (fun hd b τ hb=>by
     obtain⟨e1,e2,_⟩:=c.FK hb ho hd;exact⟨rfl,e1,e2⟩) (Nat.le_refl _) yq
   unfold jv Cs at h;cases hl:AY (s.ren f g).loc k' with
   |some o1=>
    rw[hl]at h;cases h;obtain⟨k,o,h1,h2,rfl⟩:=Zc hl;rw[<-h1];exact own k o (VZ h2)
   |none=>
    rw[hl]at h;cases k' with
    |l m=>cases h
    |g k=>
     have h':s.A k=some o':=h;have h0:AY s.loc (.g k)=none:=by
      have:=Rl (f:=f) (l:=s.loc) (k:=k);rw[show AY (s.loc.map _) (.g k)=none from hl]at this;cases hx:AY s.loc (.g k)with
      |none=>rfl|some y=>rw[hx]at this;cases this
     have:=own (.g k) o' (by simp[jv,Cs,h0,h']);rw[O.Sl (hA k o' h')]at this;exact this
  ·obtain⟨x,hx⟩:=ru.1 h;obtain⟨k,rfl,h1⟩:=back k' x hx;exact z8t k x h1
  ·obtain⟨k0,rfl,h3⟩:=back k _ h1;obtain⟨k1,rfl,h4⟩:=back k' _ h2;exact(c.inj _ _ _ _ _ h3 h4).imp (fun e=>by rw[e]) (And.imp (Or.imp (yw _ _ h3) (yw _ _ h4)) id)
  ·unfold S.live EZ at h;cases hl:look (s.ren f g).tk u with
   |none=>simp[hl]at h|some x=>
    cases x with
    |none=>simp[hl]at h|some M=>
     simp[hl]at h;subst h;obtain⟨t,rfl,h2,h3⟩:=qC hl;obtain⟨x,a1,a2⟩:=c.tok t M (by simp[S.live,EZ,h2]);refine⟨x,τk t _ a1,fun b pos sz hx=>?_⟩;obtain⟨a3,a4⟩:=a2 b pos sz hx;exact⟨a3,by simp[G.GJ,a4,Tip.ren]⟩
  ·obtain⟨x,hx⟩:=ru.1 h;simp only[G.GJ]at hx;split at hx
   ·rename_i t hfd;have e:g t=u:=by simpa using rz hfd
    rw[<-e];exact oB (sq hfd)
   ·cases hx
 ·rw[q1t];exact AI.ren (pr none) τk (hs i)
def dk (ds:List C) (i:Nat):C:=ds.getD i .nil
abbrev Es:=List (C × C)
def dm (ms:List Es) (i:Nat):Es:=ms.getD i []
inductive Cap where
 |c (τ:Ty)|v (x:V)
 deriving Inhabited
def JQ:List Cap->Nat
 | []=>0| .c _::l=>JQ l+1| .v _::l=>JQ l
def Gn:List Cap->Nat->List C->List V
 | [],_,_=>[]| .c τ::l,i,ds=>.yg τ (dk ds i)::Gn l (i+1) ds| .v x::l,i,ds=>x::Gn l i ds
inductive Sh where
 |d (τ:Ty)|sl (eb:Nat) (e:Ty) (t:Nat)|ts (eb:Nat) (e:Ty)|sr (k:Key) (q:List Nat) (cp:Bool) (eb:Nat) (e:Ty)|yg (τ:Ty)|arr (e:Ty)|agg (τ:Ty) (l:List Sh)|as (v:V)|vec (k:Key) (eb:Nat) (e:Ty)|fnc (f:FuncId) (l:List Cap)
 deriving Inhabited
inductive OSh where
 |box (x:Sh)|map (kτ vτ:Ty)|dead (e:Ty)|it
 deriving Inhabited
structure SSh where
 env:List (Nat × Sh)
 loc:List (Key × OSh)
mutual
def Sh.many:Sh->Nat
 | .sr _ _ cp _ _=>bif cp then 3 else 2| .agg _ l=>Sh.Hq l| .as _=>0| .fnc _ l=>JQ l|_=>1
def Sh.Hq:List Sh->Nat
 | []=>0|s::l=>s.many+Sh.Hq l
end
mutual
def Sh.fill:Sh->Nat->List C->V
 | .d τ,i,ds=>.d τ (dk ds i)| .sl eb e t,i,ds=>.sl eb e (dk ds i).elems t| .ts eb e,i,ds=>.ts eb e (dk ds i).elems| .sr k q cp eb e,i,ds=>.sr k q (dk ds i).toInt.toNat (dk ds (i+1)).toInt.toNat (bif cp then some (dk ds (i+2)).toInt.toNat else none) eb e| .yg τ,i,ds=>.yg τ (dk ds i)| .arr e,i,ds=>.d (.arr (dk ds i).elems.length e) (dk ds i)| .agg τ l,i,ds=>.agg τ (Sh.Ej l i ds)| .as v,_,_=>v| .vec k eb e,i,ds=>.sr k [] 0 (dk ds i).toInt.toNat none eb e| .fnc f l,i,ds=>.fn f (Gn l i ds)
def Sh.Ej:List Sh->Nat->List C->List V
 | [],_,_=>[]|s::l,i,ds=>s.fill i ds::Sh.Ej l (i+s.many) ds
end
mutual
def V.same:V->V->Bool
 | .emp a e,.emp b f=>decide (a=b)&&wg e f| .yf,.yf=>true| .ptr k q τ,.ptr k' q' τ'=>decide (k=k')&&decide (q=q')&&wg τ τ'| .mp k,.mp k'=>decide (k=k')| .any,.any=>true| .top τ,.top τ'=>wg τ τ'| .fn f l,.fn f' l'=>decide (f=f')&&V.Nc l l'| .tup l,.tup l'=>V.Nc l l'| .d τ c,.d τ' c'=>wg τ τ'&&C.beq c c'|_,_=>false
def V.Nc:List V->List V->Bool
 | [],[]=>true|x::xs,y::ys=>V.same x y&&V.Nc xs ys|_,_=>false
end
mutual
theorem V.WX:∀(x y:V),V.same x y=true->x=y
 | .emp a e,y,h=>by cases y <;> simp only[V.same,bg,decide_eq_true_eq,rm,reduceCtorEq]at h;obtain⟨rfl,rfl⟩:=h;rfl
 | .yf,y,h=>by cases y <;> simp only[V.same,reduceCtorEq]at h;rfl
 | .ptr k q τ,y,h=>by cases y <;> simp only[V.same,bg,decide_eq_true_eq,rm,reduceCtorEq]at h;obtain⟨⟨rfl,rfl⟩,rfl⟩:=h;rfl
 | .mp k,y,h=>by cases y <;> simp only[V.same,decide_eq_true_eq,reduceCtorEq]at h;subst h;rfl
 | .any,y,h=>by cases y <;> simp only[V.same,reduceCtorEq]at h;rfl
 | .top τ,y,h=>by cases y <;> simp only[V.same,rm,reduceCtorEq]at h;subst h;rfl
 | .fn f l,y,h=>by cases y <;> simp only[V.same,bg,decide_eq_true_eq,reduceCtorEq]at h;obtain⟨rfl,h⟩:=h;rw[V.dF l _ h]
 | .tup l,y,h=>by cases y <;> simp only[V.same,reduceCtorEq]at h;rw[V.dF l _ h]
 | .d τ c,y,h=>by cases y <;> simp only[V.same,bg,rm,C.beq_iff,reduceCtorEq]at h;obtain⟨rfl,rfl⟩:=h;rfl
 | .sl _ _ _ _,y,h=>by cases y <;> simp[V.same]at h
 | .ts _ _ _,y,h=>by cases y <;> simp[V.same]at h
 | .yg _ _,y,h=>by cases y <;> simp[V.same]at h
 | .sr _ _ _ _ _ _ _,y,h=>by cases y <;> simp[V.same]at h
 | .agg _ _,y,h=>by cases y <;> simp[V.same]at h
theorem V.dF:∀(xs ys:List V),V.Nc xs ys=true->xs=ys
 | [],ys,h=>by cases ys <;> simp[V.Nc]at h;rfl
 |x::xs,ys,h=>by
  cases ys with
  |nil=>simp[V.Nc]at h|cons y ys=>
   simp only[V.Nc,bg]at h;rw[V.WX x y h.1,V.dF xs ys h.2]
end
def Xm {R:Type} (τ:Ty) (x:V) (K:List C->Option R):Option R:=
 match x with
 | .yf=>(match τ with| .slice _ _=>K [.slice []]|_=>none)|x=>(match Cm x with|some c=>if x.ty=τ then K [c]else none|none=>none)
def Im {R:Type}:List Cap->List V->(List C->Option R)->Option R
 | [],[],K=>K []| .c τ::l,x::xs,K=>(match x with| .yg τ' c=>if τ'=τ then Im l xs fun ds=>K (c::ds)else none|_=>none)| .v y::l,x::xs,K=>if V.same x y=true then Im l xs K else none|_,_,_=>none
theorem Tm:∀(l:List Cap) (i i':Nat) (ds ds':List C),(∀j,j<JQ l->dk ds (i+j)=dk ds' (i'+j))->Gn l i ds=Gn l i' ds'
 | [],_,_,_,_,_=>by simp only[Gn]
 | .c τ::l,i,i',ds,ds',h=>by
  simp only[Gn,JQ]at h ⊢;have h0:=h 0 (by omega);simp only[iq]at h0
  rw[h0,Tm l (i+1) (i'+1) ds ds' fun j hj=>by
   have:=h (1+j) (by omega)
   rwa [<-fw,<-fw]at this]
 | .v x::l,i,i',ds,ds',h=>by simp only[Gn,JQ]at h ⊢;rw[Tm l i i' ds ds' h]
theorem Tl {R:Type} {r:R}:∀(l:List Cap) (xs:List V) {K:List C->Option R},Im l xs K=some r->∃ds,K ds=some r/\ds.length=JQ l/\Gn l 0 ds=xs
 | [],[],K,h=>⟨[],by simpa only[Im]using h,by simp[JQ],by simp[Gn]⟩| [],_::_,K,h=>by simp[Im]at h
 | .c _::_,[],K,h=>by simp[Im]at h
 | .v _::_,[],K,h=>by simp[Im]at h
 | .c τ::l,x::xs,K,h=>by simp only[Im]at h;split at h;{simp only[ba]at h;obtain⟨rfl,h⟩:=h;obtain⟨ds,h1,h2,h3⟩:=Tl l xs h;refine⟨_,h1,by simp[JQ,h2],?_⟩;rename_i c;simp only[Gn,bh];rw[Tm l 1 0 (c::ds) ds fun j _=>by unfold dk;simp[qy 1 j],h3];rfl};{cases h}
 | .v y::l,x::xs,K,h=>by simp only[Im,ba]at h;obtain⟨h0,h⟩:=h;have:=V.WX _ _ h0;subst this;obtain⟨ds,h1,h2,h3⟩:=Tl l xs h;exact⟨ds,h1,by simp only[JQ];exact h2,by simp only[Gn];rw[h3]⟩
mutual
def Sh.coe {R:Type}:Sh->V->(List C->Option R)->Option R
 | .d τ,x,K=>Xm τ x K| .sl eb e t,x,K=>(match x with| .sl eb' e' cs t'=>if eb'=eb/\e'=e/\t'=t then K [.slice cs]else none|_=>none)| .ts eb e,x,K=>(match x with| .ts eb' e' cs=>if eb'=eb/\e'=e then K [.slice cs]else none|_=>none)| .sr k q cp eb e,x,K=>(match x with| .sr k' q' lo n cp' eb' e'=>if k'=k/\q'=q/\eb'=eb/\e'=e then(match cp,cp' with|false,none=>K [.int lo,.int n]|true,some c=>K [.int lo,.int n,.int c]|_,_=>none)else none|_=>none)| .yg τ,x,K=>(match x with| .yg τ' c=>if τ'=τ then K [c]else none|_=>none)| .arr e,x,K=>(match x with| .d (.arr n e') c=>if e'=e then(if n=c.elems.length then K [c]else none)else none|_=>none)| .agg τ l,x,K=>(match x with| .agg τ' vs=>if τ'=τ then Sh.OP l vs K else none|_=>none)| .as v,x,K=>if V.same x v=true then K []else none| .vec k eb e,x,K=>(match x with| .sr k' q' lo n cp' eb' e'=>if k'=k/\q'=[]/\lo=0/\cp'.isNone=true/\eb'=eb/\e'=e then K [.int n]else none|_=>none)| .fnc f l,x,K=>(match x with| .fn f' vs=>if f'=f then Im l vs K else none|_=>none)
def Sh.OP {R:Type}:List Sh->List V->(List C->Option R)->Option R
 | [],[],K=>K []|s::l,x::xs,K=>if(match x with| .yf=>true|_=>false)=false then s.coe x fun d1=>Sh.OP l xs fun d2=>K (d1++d2)else none|_,_,_=>none
end
theorem Jy {a b:List C} {j:Nat} (h:j<a.length):dk (a++b) j=dk a j:=by unfold dk;rw[bq,bq,List.getElem?_append_left h]
theorem Md {a b:List C} {j:Nat} (h:a.length<=j):dk (a++b) j=dk b (j-a.length):=by unfold dk;rw[bq,bq,List.getElem?_append_right h]
mutual
theorem Sh.LG:∀(s:Sh) (i i':Nat) (ds ds':List C),(∀j,j<s.many->dk ds (i+j)=dk ds' (i'+j))->s.fill i ds=s.fill i' ds'
 | .d τ,i,i',ds,ds',h=>by simp only[Sh.fill];have:=h 0 (by simp[Sh.many]);simp only[iq]at this;rw[this]
 | .sl eb e t,i,i',ds,ds',h=>by simp only[Sh.fill];have:=h 0 (by simp[Sh.many]);simp only[iq]at this;rw[this]
 | .ts eb e,i,i',ds,ds',h=>by simp only[Sh.fill];have:=h 0 (by simp[Sh.many]);simp only[iq]at this;rw[this]
 | .sr k q cp eb e,i,i',ds,ds',h=>by
  simp only[Sh.fill];have h0:=h 0 (by cases cp <;> simp[Sh.many]);have h1:=h 1 (by cases cp <;> simp[Sh.many]);simp only[iq]at h0;rw[h0,h1];cases cp with
  |false=>rfl|true=>rw[h 2 (by simp[Sh.many])]
 | .yg τ,i,i',ds,ds',h=>by simp only[Sh.fill];have:=h 0 (by simp[Sh.many]);simp only[iq]at this;rw[this]
 | .arr e,i,i',ds,ds',h=>by simp only[Sh.fill];have:=h 0 (by simp[Sh.many]);simp only[iq]at this;rw[this]
 | .agg τ l,i,i',ds,ds',h=>by simp only[Sh.fill];rw[Sh.RP l i i' ds ds' (by simpa only[Sh.many]using h)]
 | .as v,_,_,_,_,_=>by simp only[Sh.fill]
 | .vec k eb e,i,i',ds,ds',h=>by simp only[Sh.fill];have:=h 0 (by simp[Sh.many]);simp only[iq]at this;rw[this]
 | .fnc f l,i,i',ds,ds',h=>by simp only[Sh.fill];rw[Tm l i i' ds ds' (by simpa only[Sh.many]using h)]
theorem Sh.RP:∀(l:List Sh) (i i':Nat) (ds ds':List C),(∀j,j<Sh.Hq l->dk ds (i+j)=dk ds' (i'+j))->Sh.Ej l i ds=Sh.Ej l i' ds'
 | [],_,_,_,_,_=>by simp only[Sh.Ej]
 |s::l,i,i',ds,ds',h=>by
  simp only[Sh.Ej];simp only[Sh.Hq]at h
  rw[Sh.LG s i i' ds ds' (fun j hj=>h j (by omega)),Sh.RP l (i+s.many) (i'+s.many) ds ds' (fun j hj=>by
   have:=h (s.many+j) (by omega)
   rwa [<-fw,<-fw]at this)]
end
theorem Y2 {R:Type} {r:R} {τ:Ty} {x:V} {K:List C->Option R} (h:Xm τ x K=some r):∃c,K [c]=some r/\V.BW x (.d τ c)/\(x≠.yf->(V.d τ c).ty=x.ty):=by
 cases x <;> simp only[Xm]at h
 case yf=>
  split at h;{exact⟨_,h,by simp[V.BW],fun h=>absurd rfl h⟩};{cases h}
 all_goals
  split at h;{rename_i c hc;simp only[ba]at h;obtain⟨h1,h⟩:=h;refine⟨c,h,?_,fun _=>h1.symm⟩;simp only[V.BW];exact⟨hc,h1⟩};{cases h}
mutual
theorem Sh.Xn {R:Type} {r:R}:∀(s:Sh) (x:V) {K:List C->Option R},s.coe x K=some r->∃ds,K ds=some r/\ds.length=s.many/\V.BW x (s.fill 0 ds)/\(x≠.yf->(s.fill 0 ds).ty=x.ty)
 | .d τ,x,K,h=>by simp only[Sh.coe]at h;obtain⟨c,h1,h2,h3⟩:=Y2 h;exact⟨[c],h1,by simp[Sh.many],by simp only[Sh.fill];exact h2,by simp only[Sh.fill];exact h3⟩
 | .sl eb e t,x,K,h=>by cases x <;> simp only[Sh.coe,reduceCtorEq,ba]at h;obtain⟨⟨rfl,rfl,rfl⟩,h⟩:=h;exact⟨_,h,by simp[Sh.many],by simp[Sh.fill,dk,C.elems,V.BW],fun _=>rfl⟩
 | .ts eb e,x,K,h=>by cases x <;> simp only[Sh.coe,reduceCtorEq,ba]at h;obtain⟨⟨rfl,rfl⟩,h⟩:=h;exact⟨_,h,by simp[Sh.many],by simp[Sh.fill,dk,C.elems,V.BW],fun _=>rfl⟩
 | .sr k q cp eb e,x,K,h=>by cases x <;> simp only[Sh.coe,reduceCtorEq,ba]at h;obtain⟨⟨rfl,rfl,rfl,rfl⟩,h⟩:=h;split at h;{exact⟨_,h,by simp[Sh.many],by simp[Sh.fill,dk,ar,V.BW],fun _=>rfl⟩};{exact⟨_,h,by simp[Sh.many],by simp[Sh.fill,dk,ar,V.BW],fun _=>rfl⟩};{cases h}
 | .yg τ,x,K,h=>by cases x <;> simp only[Sh.coe,reduceCtorEq,ba]at h;obtain⟨rfl,h⟩:=h;exact⟨_,h,by simp[Sh.many],by simp[Sh.fill,dk,V.BW],fun _=>rfl⟩
 | .arr e,x,K,h=>by simp only[Sh.coe]at h;split at h;{simp only[ba]at h;obtain⟨rfl,h1,h⟩:=h;subst h1;exact⟨_,h,by simp[Sh.many],by simp[Sh.fill,dk,V.BW,Cm,V.ty],fun _=>rfl⟩};{cases h}
 | .agg τ l,x,K,h=>by cases x <;> simp only[Sh.coe,reduceCtorEq,ba]at h;obtain⟨rfl,h⟩:=h;obtain⟨ds,h1,h2,h3⟩:=Sh.iU l _ h;exact⟨ds,h1,by simpa only[Sh.many]using h2,by simp only[Sh.fill,V.BW];exact⟨trivial,h3⟩,fun _=>rfl⟩
 | .as v,x,K,h=>by simp only[Sh.coe,ba]at h;obtain⟨h1,h⟩:=h;have:=V.WX _ _ h1;subst this;exact⟨_,h,by simp[Sh.many],by simp only[Sh.fill];exact V.Mt _,fun _=>by simp only[Sh.fill]⟩
 | .vec k eb e,x,K,h=>by
  cases x <;> simp only[Sh.coe,reduceCtorEq,ba]at h;obtain⟨⟨rfl,rfl,rfl,hc,rfl,rfl⟩,h⟩:=h;rename_i cp _ _;cases cp with
  |some c=>cases hc
  |none=>exact⟨_,h,by simp[Sh.many],by simp[Sh.fill,dk,ar,V.BW],fun _=>rfl⟩
 | .fnc f l,x,K,h=>by cases x <;> simp only[Sh.coe,reduceCtorEq,ba]at h;obtain⟨rfl,h⟩:=h;obtain⟨ds,h1,h2,h3⟩:=Tl l _ h;exact⟨ds,h1,by simpa only[Sh.many]using h2,by simp only[Sh.fill,V.BW,h3],fun _=>rfl⟩
theorem Sh.iU {R:Type} {r:R}:∀(l:List Sh) (xs:List V) {K:List C->Option R},Sh.OP l xs K=some r->∃ds,K ds=some r/\ds.length=Sh.Hq l/\V.GV xs (Sh.Ej l 0 ds)
 | [],xs,K,h=>by cases xs <;> simp only[Sh.OP,reduceCtorEq]at h;exact⟨_,h,by simp[Sh.Hq],by simp[Sh.Ej,V.GV]⟩
 |s::l,[],K,h=>by simp[Sh.OP]at h
 |s::l,x::xs,K,h=>by
  simp only[Sh.OP,ba]at h;obtain⟨hn,h⟩:=h;obtain⟨d1,h1,h2,h3,h4⟩:=Sh.Xn s x h;obtain⟨d2,h5,h6,h7⟩:=Sh.iU l xs h1;refine⟨_,h5,by simp[Sh.Hq,h2,h6],?_⟩;have e1:s.fill 0 (d1++d2)=s.fill 0 d1:=Sh.LG s 0 0 _ _ fun j hj=>Jy (by omega);have e2:Sh.Ej l s.many (d1++d2)=Sh.Ej l 0 d2:=Sh.RP l _ 0 _ _ fun j hj=>by rw[Md (by omega),h2];congr 1;omega
  simp only[Sh.Ej,V.GV,bh,e1,e2];exact⟨h3,h4 (by intro e;subst e;simp at hn),h7⟩
end
def JU:List (Nat × Sh)->Nat
 | []=>0|(_,s)::l=>s.many+JU l
def Gr:List (Nat × Sh)->Nat->List C->List (Nat × V)
 | [],_,_=>[]|(j,s)::l,i,ds=>(j,s.fill i ds)::Gr l (i+s.many) ds
def Gs:List (Nat × Sh)->Nat->List C->List (Nat × Option Nat)
 | [],_,_=>[]|(_,s)::l,i,ds=>(match s with| .sl _ _ t=>(t,some (dk ds i).elems.length)::Gs l (i+s.many) ds|_=>Gs l (i+s.many) ds)
def Ft:List (Key × OSh)->Nat
 | []=>0|(_,.box s)::l=>s.many+Ft l|(_,.map _ _)::l=>Ft l|(_,.dead _)::l=>1+Ft l|(_,.it)::l=>2+Ft l
def dE (τ:Ty) (l:Es):List (C × V):=l.map fun p=>(p.1,.d τ p.2)
def isD (τ:Ty):V->Bool
 | .d τ' _=>decide (τ'=τ)|_=>false
def unV:V->C
 | .d _ c=>c|_=>.nil
def HK (τ:Ty):List (C × V)->Bool
 | []=>true|(_,v)::es=>isD τ v&&HK τ es
def unE (es:List (C × V)):Es:=es.map fun p=>(p.1,unV p.2)
theorem Xx {τ:Ty}:∀{es:List (C × V)},HK τ es=true->dE τ (unE es)=es
 | [],_=>rfl|(k,v)::es,h=>by simp only[HK,bg]at h;have:=Xx h.2;simp only[dE,unE,dt,List.map_map]at this ⊢;rw[this];cases v <;> simp only[isD,reduceCtorEq,decide_eq_true_eq]at h <;> first|exact h.1.elim|(rw[h.1];rfl)
theorem Ag (τ:Ty):∀(l:Es),HK τ (dE τ l)=true
 | []=>rfl|(k,v)::l=>by have:=Ag τ l;simp only[dE,dt,HK,isD,decide_true,qt]at this ⊢;exact this
theorem Ah (τ:Ty) (l:Es):unE (dE τ l)=l:=by
 induction l with
 |nil=>rfl|cons p l ih=>simp only[dE,unE,dt,unV]at ih ⊢;rw[ih]
theorem fW (τ:Ty):∀m:Es,EF τ (dE τ m)=true
 | []=>rfl|_::m=>by have:=fW τ m;have h:wg τ τ=true:=(rm τ τ).2 rfl;simp only[dE,dt,EF,h,qt]at this ⊢;exact this
def CW:List (Key × OSh)->Nat->Nat->List C->List Es->List (Key × O)
 | [],_,_,_,_=>[]|(k,.box s)::l,i,j,ds,ms=>(k,.box (s.fill i ds))::CW l (i+s.many) j ds ms|(k,.map kτ vτ)::l,i,j,ds,ms=>(k,.map kτ vτ (dE vτ (dm ms j)))::CW l i (j+1) ds ms|(k,.dead e)::l,i,j,ds,ms=>(k,.dead (.arr (dk ds i).toInt.toNat e))::CW l (i+1) j ds ms|(k,.it)::l,i,j,ds,ms=>(k,.it (dk ds i).toStr (dk ds (i+1)).toInt.toNat)::CW l (i+2) j ds ms
def KA (sh:SSh) (A:Key->Option O) (ds:List C) (ms:List Es):S:=
 ⟨Gr sh.env 0 ds,CW sh.loc (JU sh.env) 0 ds ms,A,Gs sh.env 0 ds⟩
def eJ (s:S) (sh:Sh) (d:List C):Bool:=
 match sh with
 | .sl _ _ t=>(match EZ s.tk t with|some L=>dc L (dk d 0).elems.length|none=>false)|_=>true
def UK {R:Type} (s:S):List (Nat × Sh)->(List C->Option R)->Option R
 | [],K=>K []|(j,sh)::l,K=>sh.coe (s.get j) fun d1=>if(sh.fill 0 d1).ty.isAgg=(s.get j).ty.isAgg then(bif eJ s sh d1 then UK s l fun d2=>K (d1++d2)else none)else none
def nN:V->Bool
 | .yf=>true|_=>false
def Jc {R:Type} (s:S):List (Key × OSh)->(List C->List Es->Option R)->Option R
 | [],K=>K [] []|(k,.box sh)::l,K=>(match s.obj k with|some (.box x)=>if nN x=false then sh.coe x fun d1=>if(sh.fill 0 d1).plain=true/\(sh.fill 0 d1).BT=true then Jc s l fun d2 m2=>K (d1++d2) m2 else none else none|_=>none)|(k,.map kτ vτ)::l,K=>(match s.obj k with|some (.map kτ' vτ' es)=>if kτ'=kτ/\vτ'=vτ then(if HK vτ es=true then Jc s l fun d2 m2=>K d2 (unE es::m2)else none)else none|_=>none)|(k,.dead e)::l,K=>(match s.obj k with|some o=>(match o.ty with| .arr M e'=>if e'=e then Jc s l fun d2 m2=>K (.int M::d2) m2 else none|_=>none)|_=>none)|(k,.it)::l,K=>(match s.obj k with|some (.it x p)=>Jc s l fun d2 m2=>K (.str x:: .int p::d2) m2|_=>none)
def OM (f g:Nat->Bool):List Cap->Bool
 | []=>true| .c _::l=>OM f g l| .v x::l=>x.ok f g&&OM f g l
theorem XZ {f g:Nat->Bool}:∀(l:List Cap) (i:Nat) (ds:List C),OM f g l=true->vf f g (Gn l i ds)=true
 | [],_,_,_=>rfl| .c _::l,i,ds,h=>by simp only[OM]at h;simp only[Gn,vf,V.ok,qt];exact XZ l _ _ h
 | .v x::l,i,ds,h=>by simp only[OM,bg]at h;simp only[Gn,vf,bg];exact⟨h.1,XZ l _ _ h.2⟩
mutual
def Sh.okB (f g:Nat->Bool):Sh->Bool
 | .sl _ _ t=>g t| .sr (.l k) _ _ _ _=>f k| .vec (.l k) _ _=>f k| .agg _ l=>Sh.Vc f g l| .as v=>v.ok f g| .fnc _ l=>OM f g l|_=>true
def Sh.Vc (f g:Nat->Bool):List Sh->Bool
 | []=>true|s::l=>s.okB f g&&Sh.Vc f g l
end
mutual
theorem Sh.Ou {f g:Nat->Bool}:∀(s:Sh) (i:Nat) (ds:List C),s.okB f g=true->(s.fill i ds).ok f g=true
 | .sl _ _ t,_,_,h=>by simpa only[Sh.fill,V.ok,Sh.okB]using h
 | .sr (.l k) _ _ _ _,_,_,h=>by simpa only[Sh.fill,V.ok,Sh.okB]using h
 | .sr (.g k) _ _ _ _,_,_,h=>by simp only[Sh.fill,V.ok]
 | .vec (.l k) _ _,_,_,h=>by simpa only[Sh.fill,V.ok,Sh.okB]using h
 | .vec (.g k) _ _,_,_,h=>by simp only[Sh.fill,V.ok]
 | .agg _ l,_,_,h=>by simp only[Sh.fill,V.ok,Sh.okB]at h ⊢;exact Sh.lV l _ _ h
 | .as v,_,_,h=>by simpa only[Sh.fill,Sh.okB]using h
 | .fnc _ l,i,ds,h=>by simp only[Sh.fill,V.ok,Sh.okB]at h ⊢;exact XZ l i ds h
 | .d _,_,_,_| .ts _ _,_,_,_| .yg _,_,_,_| .arr _,_,_,_=>by simp only[Sh.fill,V.ok]
theorem Sh.lV {f g:Nat->Bool}:∀(l:List Sh) (i:Nat) (ds:List C),Sh.Vc f g l=true->vf f g (Sh.Ej l i ds)=true
 | [],_,_,_=>rfl|s::l,i,ds,h=>by simp only[Sh.Vc,bg]at h;simp only[Sh.Ej,vf,bg];exact⟨Sh.Ou s _ _ h.1,Sh.lV l _ _ h.2⟩
end
def OSh.okB (f g:Nat->Bool):OSh->Bool
 | .box s=>s.okB f g| .map _ _=>true| .dead _| .it=>true
def LQ:List (Key × OSh)->Key->Bool
 | [],_=>false|(j,_)::l,k=>if j=k then true else LQ l k
def Uf (l:List (Key × OSh)) (n:Nat):Bool:=LQ l (.l n)
def Mo:List (Nat × Sh)->Nat->Bool
 | [],_=>false|(_,.sl _ _ t)::l,u=>if t=u then true else Mo l u|_::l,u=>Mo l u
def OA (L:List (Key × OSh)):List (Key × O)->Bool
 | []=>true|(.g k,_)::l=>LQ L (.g k)&&OA L l|(.l _,_)::l=>OA L l
def PO (f g:Nat->Bool):List (Key × OSh)->Bool
 | []=>true|(_,o)::l=>o.okB f g&&PO f g l
def UL (f g:Nat->Bool):List (Nat × Sh)->Bool
 | []=>true|(_,s)::l=>s.okB f g&&UL f g l
def okS (sh:SSh) (loc:List (Key × O)):Bool:=
 PO (Uf sh.loc) (Mo sh.env) sh.loc&&OA sh.loc loc&&UL (Uf sh.loc) (Mo sh.env) sh.env
theorem Ul:∀(l:List (Key × OSh)) (i j:Nat) (ds:List C) (ms:List Es) (k:Key),(AY (CW l i j ds ms) k).isSome=LQ l k
 | [],_,_,_,_,_=>rfl|(n,.box s)::l,i,j,ds,ms,k=>by simp only[CW,AY,LQ];split;{rfl};{exact Ul l _ _ _ _ _}
 |(n,.map _ _)::l,i,j,ds,ms,k|(n,.dead _)::l,i,j,ds,ms,k|(n,.it)::l,i,j,ds,ms,k=>by simp only[CW,AY,LQ];split;{rfl};{exact Ul l _ _ _ _ _}
theorem q1J (l:List (Key × OSh)) (i j:Nat) (ds:List C) (ms:List Es):Cd (CW l i j ds ms)=Uf l:=by funext n;exact Ul l i j ds ms (.l n)
theorem mX:∀(l:List (Nat × Sh)) (i:Nat) (ds:List C),DQ (Gs l i ds)=Mo l
 | [],_,_=>rfl|(_,s)::l,i,ds=>by have ih:=mX l (i+s.many) ds;funext u;have ih:=congrFun ih u;unfold DQ at ih ⊢;cases s <;> simp only[Gs,Mo,look] <;> (try exact ih);split;{rfl};{exact ih}
theorem Uz {f g:Nat->Bool}:∀(l:List (Key × OSh)) (i j:Nat) (ds:List C) (ms:List Es),PO f g l=true->Fu f g (CW l i j ds ms)=true
 | [],_,_,_,_,_=>rfl|(n,.box s)::l,i,j,ds,ms,h=>by simp only[PO,bg]at h;simp only[CW,Fu,bg,O.okB,O.ok];exact⟨Sh.Ou s _ _ h.1,Uz l _ _ _ _ h.2⟩
 |(n,.map _ vτ)::l,i,j,ds,ms,h=>by simp only[PO,bg]at h;simp only[CW,Fu,bg,O.okB,O.ok];exact⟨by rw[fW vτ _,Bool.or_true],Uz l _ _ _ _ h.2⟩
 |(n,.dead _)::l,i,j,ds,ms,h|(n,.it)::l,i,j,ds,ms,h=>by simp only[PO,bg]at h;simp only[CW,Fu,bg,O.okB,O.ok];exact⟨trivial,Uz l _ _ _ _ h.2⟩
theorem kY {f g:Nat->Bool}:∀(l:List (Nat × Sh)) (i:Nat) (ds:List C),UL f g l=true->JM f g (Gr l i ds)=true
 | [],_,_,_=>rfl|(n,s)::l,i,ds,h=>by simp only[UL,bg]at h;simp only[Gr,JM,bg];exact⟨Sh.Ou s _ _ h.1,kY l _ _ h.2⟩
theorem XP {L:List (Key × OSh)} {i j:Nat} {ds:List C} {ms:List Es}:∀{l:List (Key × O)},OA L l=true->Ik (CW L i j ds ms) l=true
 | [],_=>rfl|(.g k,_)::l,h=>by simp only[OA,bg]at h;simp only[Ik,bg,Ul];exact⟨h.1,XP h.2⟩
 |(.l _,_)::l,h=>by simp only[OA]at h;simp only[Ik];exact XP h
def Tr {R:Type} (sh:SSh) (s:S) (K:List C->List Es->Option R):Option R:=
 UK s sh.env fun d1=>Jc s sh.loc fun d2 ms=>if okS sh s.loc=true then K (d1++d2) ms else none
theorem YK:∀(l:List (Nat × Sh)) (i i':Nat) (ds ds':List C),(∀j,j<JU l->dk ds (i+j)=dk ds' (i'+j))->Gr l i ds=Gr l i' ds'
 | [],_,_,_,_,_=>rfl|(n,s)::l,i,i',ds,ds',h=>by
  simp only[JU]at h;simp only[Gr]
  rw[Sh.LG s i i' ds ds' (fun j hj=>h j (by omega)),YK l (i+s.many) (i'+s.many) ds ds' (fun j hj=>by
   have:=h (s.many+j) (by omega)
   rwa [<-fw,<-fw]at this)]
theorem YL:∀(l:List (Nat × Sh)) (i i':Nat) (ds ds':List C),(∀j,j<JU l->dk ds (i+j)=dk ds' (i'+j))->Gs l i ds=Gs l i' ds'
 | [],_,_,_,_,_=>rfl|(n,s)::l,i,i',ds,ds',h=>by
  simp only[JU]at h;simp only[Gs]
  have e:=YL l (i+s.many) (i'+s.many) ds ds' (fun j hj=>by
   have:=h (s.many+j) (by omega)
   rwa [<-fw,<-fw]at this)
  cases s <;> simp only at e ⊢ <;> (try exact e);have h0:=h 0 (by simp only[Sh.many];omega);simp only[iq]at h0;rw[e,h0]
theorem Jd:∀(l:List (Key × OSh)) (i i' m:Nat) (ds ds':List C) (ms:List Es),(∀j,j<Ft l->dk ds (i+j)=dk ds' (i'+j))->CW l i m ds ms=CW l i' m ds' ms
 | [],_,_,_,_,_,_,_=>rfl|(n,.box s)::l,i,i',m,ds,ds',ms,h=>by
  simp only[Ft]at h;simp only[CW]
  rw[Sh.LG s i i' ds ds' (fun j hj=>h j (by omega)),Jd l (i+s.many) (i'+s.many) m ds ds' ms (fun j hj=>by
   have:=h (s.many+j) (by omega)
   rwa [<-fw,<-fw]at this)]
 |(n,.map _ _)::l,i,i',m,ds,ds',ms,h=>by simp only[Ft]at h;simp only[CW];rw[Jd l i i' (m+1) ds ds' ms h]
 |(n,.dead e)::l,i,i',m,ds,ds',ms,h=>by
  simp only[Ft]at h;simp only[CW];have h0:=h 0 (by omega);simp only[iq]at h0
  rw[h0,Jd l (i+1) (i'+1) m ds ds' ms (fun j hj=>by
   have:=h (1+j) (by omega)
   rwa [<-fw,<-fw]at this)]
 |(n,.it)::l,i,i',m,ds,ds',ms,h=>by
  simp only[Ft]at h;simp only[CW];have h0:=h 0 (by omega);have h1:=h 1 (by omega);simp only[iq]at h0
  rw[h0,h1,Jd l (i+2) (i'+2) m ds ds' ms (fun j hj=>by
   have:=h (2+j) (by omega)
   rwa [<-fw,<-fw]at this)]
theorem Rk:∀(l:List (Key × OSh)) (i m:Nat) (ds:List C) (e:Es) (ms:List Es),CW l i (m+1) ds (e::ms)=CW l i m ds ms
 | [],_,_,_,_,_=>rfl|(n,.box s)::l,i,m,ds,e,ms=>by simp only[CW];rw[Rk l]
 |(n,.map _ _)::l,i,m,ds,e,ms=>by simp only[CW];rw[Rk l];rfl
 |(n,.dead _)::l,i,m,ds,e,ms|(n,.it)::l,i,m,ds,e,ms=>by simp only[CW];rw[Rk l]
theorem kU {R:Type} {r:R} {s:S}:∀(l:List (Nat × Sh)) {K:List C->Option R},UK s l K=some r->
  ∃ds,K ds=some r/\ds.length=JU l/\(∀f g,JM f g (Gr l 0 ds)=true->IC f g s (Gr l 0 ds))/\tkW s (Gs l 0 ds)
 | [],K,h=>⟨[],h,rfl,fun _ _ _=>trivial,trivial⟩|(n,sh)::l,K,h=>by
  simp only[UK]at h;obtain⟨d1,h1,h2,h3,h4⟩:=Sh.Xn sh _ h;simp only[ba]at h1;obtain⟨h5,h1⟩:=h1;cases htk:eJ s sh d1 with
  |false=>rw[htk]at h1;cases h1
  |true=>
   rw[htk,cond_true]at h1;obtain⟨d2,h6,h7,h8,h9⟩:=kU l h1;have e1:sh.fill 0 (d1++d2)=sh.fill 0 d1:=Sh.LG sh 0 0 _ _ fun j hj=>Jy (by omega);have sft:∀j,dk (d1++d2) (sh.many+j)=dk d2 (0+j):=fun j=>by rw[Md (by omega),h2];congr 1;omega
   have e2:Gr l sh.many (d1++d2)=Gr l 0 d2:=YK l _ 0 _ _ fun j hj=>sft j;have e3:Gs l sh.many (d1++d2)=Gs l 0 d2:=YL l _ 0 _ _ fun j hj=>sft j;refine⟨_,h6,by simp[JU,h2,h7],fun f g hok=>?_,?_⟩;{simp only[Gr,bh,e1,e2,JM,bg]at hok ⊢;exact⟨h3,hok.1,.inr h5,h8 f g hok.2⟩};{simp only[Gs,bh];cases sh <;> simp only[e3] <;> (try exact h9);simp only[eJ]at htk;simp only[Sh.many]at h2;rw[Jy (by omega)];refine⟨?_,h9⟩;split at htk;{rename_i L hL;have:=eh htk;show s.live _=some _;rw[<-this];exact hL};{cases htk}}
theorem xR {s:S} {A':Key->Option O}:∀{l:List (Nat × Option Nat)},tkW s l->tkW (s.wA A') l
 | [],_=>trivial|(_,_)::_,h=>⟨h.1,xR h.2⟩
theorem lC {f g:Nat->Bool} {s:S} {A':Key->Option O}:∀{l:List (Nat × V)},IC f g s l->IC f g (s.wA A') l
 | [],_=>trivial|(_,_)::_,h=>⟨h.1,h.2.1,h.2.2.1,lC h.2.2.2⟩
theorem Y4 {R:Type} {r:R} {sh:SSh} {s:S} {K:List C->List Es->Option R} (h:Tr sh s K=some r):
  ∃ds ms,K ds ms=some r/\∀(X:Cx) (n:Nat) (A':Key->Option O),leA s.A A'->EE X n (s.wA A') ((KA sh s.A ds ms).wA A'):=by
 unfold Tr at h;obtain⟨d1,h1,h2,h3,h4⟩:=kU _ h;have det:∃d2 ms,K (d1++d2) ms=some r/\okS sh s.loc=true/\d2.length=Ft sh.loc/\∀A',leA s.A A'->GY (s.wA A') (CW sh.loc 0 0 d2 ms):=by
  -- what is read does not lean on A'
  have gen:∀(l:List (Key × OSh)) {K:List C->List Es->Option R},Jc s l K=some r->∃ds ms,K ds ms=some r/\ds.length=Ft l/\∀A',leA s.A A'->GY (s.wA A') (CW l 0 0 ds ms):=by
   intro l
   induction l with
   |nil=>intro K h;exact⟨[],[],h,rfl,fun _ _=>trivial⟩|cons p l ih=>
    obtain⟨k,o⟩:=p;intro K h;cases o with
    |box sh=>
     simp only[Jc]at h;split at h
     ·rename_i x hx;simp only[ba]at h;obtain⟨h0,h⟩:=h;obtain⟨d1,h1,h2,h3,h4⟩:=Sh.Xn sh _ h;simp only[ba]at h1;obtain⟨h5,h1⟩:=h1;obtain⟨d2,ms,h6,h7,h8⟩:=ih h1;have e1:sh.fill 0 (d1++d2)=sh.fill 0 d1:=Sh.LG sh 0 0 _ _ fun j hj=>Jy (by omega);have e2:CW l sh.many 0 (d1++d2) ms=CW l 0 0 d2 ms:=Jd l _ 0 0 _ _ _ fun j hj=>by rw[Md (by omega),h2];congr 1;omega
      refine⟨_,_,h6,by simp[Ft,h2,h7],fun A' hA=>?_⟩;simp only[CW,bh,e1,e2,GY];rw[Dv hA hx];exact⟨⟨h3,h4 (by intro e;subst e;simp[nN]at h0),h5.1,h5.2⟩,h8 A' hA⟩
     ·cases h
    |map kτ vτ=>
     simp only[Jc]at h;split at h;{rename_i kτ' vτ' es hx;simp only[ba]at h;obtain⟨⟨rfl,rfl⟩,hd,h⟩:=h;obtain⟨d2,ms,h6,h7,h8⟩:=ih h;refine⟨_,_,h6,by simp[Ft,h7],fun A' hA=>?_⟩;simp only[CW,GY,Rk];rw[Dv hA hx];exact⟨⟨rfl,rfl,(Xx hd).symm⟩,h8 A' hA⟩};{cases h}
    |dead e=>
     simp only[Jc]at h;split at h
     ·rename_i o hx;split at h
      ·rename_i M e' ht;simp only[ba]at h;obtain⟨rfl,h⟩:=h;obtain⟨d2,ms,h6,h7,h8⟩:=ih h;have e2:CW l 1 0 (.int M::d2) ms=CW l 0 0 d2 ms:=Jd l _ 0 0 _ _ _ fun j hj=>by unfold dk;simp[qy 1 j]
       refine⟨_,_,h6,by simp[Ft,h7,qy],fun A' hA=>?_⟩;simp only[CW,bh,e2,GY];rw[Dv hA hx];refine⟨?_,h8 A' hA⟩;have:(dk (C.int M::d2) 0).toInt.toNat=M:=by simp[dk,ar]
       rw[this];cases o <;> exact ht.symm
      ·cases h
     ·cases h
    |it=>
     simp only[Jc]at h;split at h
     ·rename_i x p hx;obtain⟨d2,ms,h6,h7,h8⟩:=ih h;have e2:CW l 2 0 (.str x:: .int p::d2) ms=CW l 0 0 d2 ms:=Jd l _ 0 0 _ _ _ fun j hj=>by unfold dk;simp[qy 2 j]
      refine⟨_,_,h6,by simp[Ft,h7];omega,fun A' hA=>?_⟩;simp only[CW,bh,e2,GY];rw[Dv hA hx];refine⟨?_,h8 A' hA⟩;have e3:(dk (C.str x::C.int p::d2) 0).toStr=x:=by simp[dk,C.toStr]
      have e4:(dk (C.str x::C.int p::d2) 1).toInt.toNat=p:=by simp[dk,ar]
      rw[e3,e4];exact⟨rfl,rfl⟩
     ·cases h
  obtain⟨d2,ms,h5,h6,h7⟩:=gen _ h1;simp only[ba]at h5;exact⟨d2,ms,h5.2,h5.1,h6,h7⟩
 obtain⟨d2,ms,h5,h6,h7,h8⟩:=det;refine⟨d1++d2,ms,h5,fun X n A' hA=>?_⟩;have e1:Gr sh.env 0 (d1++d2)=Gr sh.env 0 d1:=YK _ 0 0 _ _ fun j hj=>Jy (by omega);have e2:Gs sh.env 0 (d1++d2)=Gs sh.env 0 d1:=YL _ 0 0 _ _ fun j hj=>Jy (by omega);have e3:CW sh.loc (JU sh.env) 0 (d1++d2) ms=CW sh.loc 0 0 d2 ms:=Jd _ _ 0 0 _ _ _ fun j hj=>by rw[Md (by omega),h2];congr 1;omega
 simp only[okS,bg]at h6;have hL:Cd (KA sh s.A (d1++d2) ms).loc=Uf sh.loc:=q1J ..;have hT:DQ (KA sh s.A (d1++d2) ms).tk=Mo sh.env:=mX ..;refine yV rfl ?_ ?_ (Nz (XP h6.1.2)) ?_ ?_;{show GY (s.wA A') (CW sh.loc (JU sh.env) 0 (d1++d2) ms);rw[e3];exact h8 A' hA};{show Fu (Cd (KA sh s.A (d1++d2) ms).loc) (DQ (KA sh s.A (d1++d2) ms).tk) _=true;rw[hL,hT];exact Uz _ _ _ _ _ h6.1.1};{show tkW (s.wA A') (Gs sh.env 0 (d1++d2));rw[e2];exact xR h4};{show IC (Cd (KA sh s.A (d1++d2) ms).loc) (DQ (KA sh s.A (d1++d2) ms).tk) (s.wA A') (Gr sh.env 0 (d1++d2));refine lC ?_;rw[hL,hT,e1];exact h3 _ _ (kY _ _ _ h6.2)}
theorem AX.cR {Γ:G} {w:World} {s:S} (c:AX Γ w s) {k:Key} {x x':V} (h:s.obj k=some (.box x)) (h1:Own Γ w k (.box x)->Own Γ w k (.box x')) (h2:(O.box x).Jo->(O.box x').Jo):AX Γ w (s.put k (.box x')):=by refine⟨c.hH,c.hZ,c.hκ,fun j o hj=>?_,fun j hj=>?_,c.KI (fun j hj=>?_),c.tok,c.yv,c.hgl,c.hoo,c.hσ⟩;{rw[EC]at hj;split at hj;{rename_i e;subst e;cases hj;exact(c.obj _ _ h).imp (fun h=>⟨h.1,h2 h.2⟩) h1};{exact c.obj j o hj}};{rw[EC];split;{simp};{exact c.dom j hj}};{unfold S.CY at hj ⊢;rw[EC];split;{rename_i e;subst e;rw[h]at hj;cases hj};{exact hj}}
def mvK (K:Key) (t:Nat) (k:Key):Key:=if k=K then .l t else k
def AtE (X:Cx) (n:Nat) (Γ0:G) (K:Key) (t:Nat) (s:S) (a:Act) (w:World):Prop:=
 ∃Γ,GLe Γ0 Γ/\Γ.gl=X.gl/\AX Γ w s/\Gl Γ s a.tmps/\a.tmps.size=n/\a.defers=[]/\AOk s.A/\∀x,Γ.ι K=some x->Γ.ι (.l t)=some x
theorem qS {Γ:G} {K:Key} {t:Nat} (h:∀x,Γ.ι K=some x->Γ.ι (.l t)=some x) {hm:Option Key} (hn:hm≠some K):HG Γ Γ (mvK K t) hm:=
 ⟨Hp.le_refl _,fun k x hk=>by
  unfold mvK;split;{rename_i e;subst e;exact h x hk}
  ·exact hk,fun _ _ h=>h,fun k b p sz e hk=>by
  have:mvK K t k=k:=by unfold mvK;split;{rename_i e2;subst e2;exact absurd e hn};{rfl}
  rw[this];exact⟨hk,rfl⟩⟩
theorem AI.mv {Γ:G} {K:Key} {t:Nat} (h:∀x,Γ.ι K=some x->Γ.ι (.l t)=some x) {x:V} {v:Value} (hr:AI Γ x v):AI Γ (x.ren (mvK K t) id) v:=
 AI.ren (qS h (by simp)) (fun _ _ h=>h) hr
def IV (K:Key) (t:Nat):List Key->S->S
 | [],s=>s|k::ks,s=>if k=K\/k= .l t then IV K t ks s else(match s.obj k with|some (.box x)=>IV K t ks (s.put k (.box (x.ren (mvK K t) id)))|_=>IV K t ks s)
theorem WN (K:Key) (t:Nat):∀(ks:List Key) (s:S),(IV K t ks s).A=s.A
 | [],_=>rfl|k::ks,s=>by simp only[IV];split;{exact WN K t ks s};{split;{exact WN K t ks _};{exact WN K t ks s}}
def WkE (K:Key) (t:Nat) (s s':S):Prop:=s'.A=s.A/\∀(X:Cx) (n:Nat) (A':Key->Option O),leA s.A A'->∀(Γ0:G) (a:Act) (w:World),AtE X n Γ0 K t (s.wA A') a w->AtE X n Γ0 K t (s'.wA A') a w
theorem WkE.refl {K:Key} {t:Nat} (s:S):WkE K t s s:=⟨rfl,fun _ _ _ _ _ _ _ h=>h⟩
theorem WkE.trans {K:Key} {t:Nat} {a b c:S} (h:WkE K t a b) (h':WkE K t b c):WkE K t a c:=
 ⟨h'.1.trans h.1,fun X n A' hA Γ0 ac w hat=>h'.2 X n A' (by rw[h.1];exact hA) Γ0 ac w (h.2 X n A' hA Γ0 ac w hat)⟩
theorem v3 {X:Cx} {n:Nat} {Γ0:G} {K:Key} {t:Nat} {a:Act} {w:World} {s:S} {k:Key} {x:V} (hk:¬(k=K\/k= .l t)) (hx:s.obj k=some (.box x)) (h:AtE X n Γ0 K t s a w):AtE X n Γ0 K t (s.put k (.box (x.ren (mvK K t) id))) a w:=by
 obtain⟨Γ,g1,g3,c,hs,hn,hf,hA,hι⟩:=h;have hkK:(some k:Option Key)≠some K:=fun e=>hk (.inl (by cases e;rfl));refine⟨Γ,g1,g3,c.cR hx (fun yq=>?_) (fun hv=>?_),hs,hn,hf,hA,hι⟩
 ·obtain⟨b,cells,T,h1,h2,h3,h4,h5,h6,h7,h8⟩:=yq;have hmv:mvK K t k=k:=by unfold mvK;rw[if_neg (fun e=>hk (.inl e))]
  have:=AA.Ce (θ:=id) (qS hι hkK) h8 h6;simp only[Option.map_some,hmv]at this;exact⟨b,cells,T,by rw[V.Iz];exact h1,h2,h3,h4,by rw[V.Iz];exact h5,by rw[V.Iz];exact this,by rw[V.cM];exact h7,by rw[V.WI];exact h8⟩
 ·obtain⟨e,rfl⟩:=hv;exact⟨e,by simp[V.ren]⟩
theorem WO (K:Key) (t:Nat):∀(ks:List Key) (s:S),WkE K t s (IV K t ks s)
 | [],s=>WkE.refl s|k::ks,s=>by simp only[IV];split;{exact WO K t ks s};{rename_i hk;split;{rename_i x hx;exact WkE.trans (b:=s.put k (.box (x.ren (mvK K t) id))) ⟨rfl,fun X n A' hA Γ0 a w h=>v3 (s:=s.wA A') hk (Dv hA hx) h⟩ (WO K t ks _)};{exact WO K t ks s}}
def Qb (K:Key) (t:Nat) (ks:List Key) (s:S):S:=
 match s.obj K with
 |some (.box (.d (.arr M e) cc))=>if(s.obj (.l t)).isNone=true then
   {IV K t ks ((s.put K (.dead (.arr M e))).put (.l t) (.box (.d (.arr M e) cc)))with env:=s.env.map fun p=>(p.1,p.2.ren (mvK K t) id)} else s
 |_=>s
theorem aj {X:Cx} {n:Nat} {Γ0:G} {K:Key} {t:Nat} {a:Act} {w:World} {s:S} {M:Nat} {e:Ty} {cc:C} (hK:s.obj K=some (.box (.d (.arr M e) cc))) (ht:s.obj (.l t)=none) (h:At X n Γ0 s a w):
  AtE X n Γ0 K t ((s.put K (.dead (.arr M e))).put (.l t) (.box (.d (.arr M e) cc))) a w:=by
 obtain⟨Γ,g1,g3,c,hs,hn,hf,hA⟩:=h;have yj:∀j,jv ((s.put K (.dead (.arr M e))).put (.l t) (.box (.d (.arr M e) cc))) j=jv {s with loc:=(Key.l t,O.box (.d (.arr M e) cc))::(K,O.dead (.arr M e))::s.loc} j:=fun j=>by rw[EC,EC,show jv {s with loc:=(Key.l t,O.box (.d (.arr M e) cc))::(K,O.dead (.arr M e))::s.loc} j=jv {({s with loc:=(K,O.dead (.arr M e))::s.loc}:S)with loc:=(Key.l t,O.box (.d (.arr M e) cc))::({s with loc:=(K,O.dead (.arr M e))::s.loc}:S).loc} j from rfl,DU,DU]
 rcases c.obj K _ hK with⟨h1,h2⟩|yq
 · -- without a block
  refine⟨Γ,g1,g3,⟨c.hH,c.hZ,c.hκ,fun j o hj=>?_,fun j hj=>?_,c.KI (fun j hj=>?_),c.tok,c.yv,c.hgl,c.hoo,c.hσ⟩,hs,hn,hf,hA,fun x hx=>by rw[h1]at hx;cases hx⟩;{rw[EC]at hj;split at hj;{rename_i e1;subst e1;cases hj;exact .inl ⟨c.QZ ht,h2⟩};{rw[EC]at hj;split at hj;{rename_i e1;subst e1;cases hj;exact .inl ⟨h1,trivial⟩};{exact c.obj j o hj}}};{rw[EC];split;{simp};{rw[EC];split;{simp};{exact c.dom j hj}}};{unfold S.CY at hj ⊢;rw[EC];split;{rename_i e1;subst e1;rw[ht]at hj;cases hj};{rw[EC];split;{rfl};{exact hj}}}
 ·obtain⟨b,cells,T,e1,e2,e3,⟨fr0,e4,zb⟩,e5,e6,e7,e8⟩:=yq;have hx0:AA Γ none [] (.d (.arr M e) cc) (chunk cells.toList 0 (V.d (.arr M e) cc).ty.size):=by simp only[AA]at e6 ⊢;exact e6
  obtain⟨k1,k2,k3⟩:=c.uV (w':=w) (j:=.l t) (x':=.d (.arr M e) cc) hK rfl e1 ht e4 zb (fun _ _=>rfl) rfl rfl e5 hx0 e7 e8 (fun arr T' fr h=>by rw[e4]at h;cases h;rfl);have hkt:K≠.l t:=fun e=>by rw[e,ht]at hK;cases hK
  refine⟨_,g1.trans k3,by rw[k3.gl];exact g3,k1.congr yj (fun _=>rfl) (fun _ h=>h),hs.Bn k2,hn,hf,hA,fun x hx=>?_⟩;have:Γ.ι K=some x:=by simpa[G.addKey,ES,hkt]using hx
  rw[e1]at this;cases this;simp[G.addKey,ES,V.ty]
theorem ai (K:Key) (t:Nat) (ks:List Key) (s:S):(Qb K t ks s).A=s.A/\∀(X:Cx) (n:Nat) (A':Key->Option O),leA s.A A'->EE X n (s.wA A') ((Qb K t ks s).wA A'):=by
 unfold Qb;split
 ·rename_i M e cc hK;split
  ·rename_i ht;have ht':s.obj (.l t)=none:=by simpa using ht
   refine⟨WN K t ks _,fun X n A' hA Γ0 a w hat=>?_⟩;have h1:=aj (s:=s.wA A') (Dv hA hK) (by rw[KR];exact ht') hat;obtain⟨_,h2⟩:=WO K t ks ((s.put K (.dead (.arr M e))).put (.l t) (.box (.d (.arr M e) cc)));obtain⟨Γ,g1,g3,c,hs,hn,hf,ze,hι⟩:=h2 X n A' hA Γ0 a w h1;refine⟨Γ,g1,g3,c.congr (fun _=>rfl) (fun _=>rfl) (fun _ h=>h),fun i=>?_,hn,hf,ze⟩;have zm:((IV K t ks ((s.put K (.dead (.arr M e))).put (.l t) (.box (.d (.arr M e) cc)))).wA A').env=s.env:=by
    have:∀(ks:List Key) (s:S),(IV K t ks s).env=s.env:=by
     intro ks
     induction ks with
     |nil=>intro s;rfl|cons k ks ih=>
      intro s;simp only[IV];split;{exact ih s};{split;{exact ih _};{exact ih s}}
    exact this ks _
   have hi:=hs i;have e1:S.get ((IV K t ks ((s.put K (.dead (.arr M e))).put (.l t) (.box (.d (.arr M e) cc)))).wA A') i=(look s.env i).getD .any:=by unfold S.get;rw[zm]
   rw[e1]at hi;show AI Γ ((look (s.env.map fun p=>(p.1,p.2.ren (mvK K t) id)) i).getD .any) _;rw[Zg];cases hl:look s.env i with
   |none=>trivial|some x=>
    rw[hl]at hi;exact AI.mv hι hi
  ·exact⟨rfl,fun _ _ _ _=>EE.refl _⟩
 ·exact⟨rfl,fun _ _ _ _=>EE.refl _⟩
def T0:Nat:=1000000000000000
mutual
def V.Ds:Sh->V->V
 | .vec (.l a) eb e,x=>(match x with| .emp eb' e'=>if eb'=eb/\e'=e then .sr (.l (a+T0)) [] 0 0 none eb e else x|x=>x)| .agg _ l,x=>(match x with| .agg τ xs=>.agg τ (V.GP l xs)|x=>x)|_,x=>x
def V.GP:List Sh->List V->List V
 |s::l,x::xs=>V.Ds s x::V.GP l xs|_,xs=>xs
end
theorem V.yH:∀(l:List Sh) (xs:List V),(V.GP l xs).length=xs.length
 | [],xs=>by simp[V.GP]
 |s::l,[]=>by simp[V.GP]
 |s::l,x::xs=>by simp[V.GP,V.yH l xs]
theorem V.TS (s:Sh) (x:V):(V.Ds s x).ty=x.ty:=by unfold V.Ds;split;{split;{split;{rename_i h;obtain⟨rfl,rfl⟩:=h;rfl};{rfl}};{rfl}};{split <;> rfl};{rfl}
theorem V.yG (s:Sh) (x:V):(V.Ds s x).plain=x.plain:=by unfold V.Ds;split;{split;{split;{rfl};{rfl}};{rfl}};{split <;> rfl};{rfl}
mutual
theorem V.yF:∀(s:Sh) (x:V),(V.Ds s x).BT=x.BT
 | .vec (.l a) eb e,x=>by simp only[V.Ds];split;{split <;> simp[V.BT]};{rfl}
 | .agg _ l,x=>by simp only[V.Ds];split;{simp only[V.BT];exact V.yI l _};{rfl}
 | .vec (.g _) _ _,_| .d _,_| .sl _ _ _,_| .ts _ _,_| .sr _ _ _ _ _,_| .yg _,_| .arr _,_| .as _,_| .fnc _ _,_=>by simp[V.Ds]
theorem V.yI:∀(l:List Sh) (xs:List V),V.Cw (V.GP l xs)=V.Cw xs
 | [],xs=>by simp[V.GP]
 |s::l,[]=>by simp[V.GP]
 |s::l,x::xs=>by simp only[V.GP,V.Cw,V.yF s x,V.yI l xs]
end
mutual
theorem AA.Ds {Γ:G} {hm:Option Key}:∀(s:Sh) (x:V) {p:List Nat} {vs:List Value},AA Γ hm p x vs->AA Γ hm p (V.Ds s x) vs
 | .vec (.l a) eb e,x,p,vs,h=>by simp only[V.Ds];split;{split;{simp only[AA]at h ⊢;obtain⟨a,h⟩:=h;exact .inl ⟨trivial,trivial,a,h⟩};{exact h}};{exact h}
 | .agg _ l,x,p,vs,h=>by simp only[V.Ds];split;{simp only[AA]at h ⊢;exact⟨h.1,h.2.1,by rw[V.yH];exact h.2.2.1,h.2.2.2.1,Aa.GP l _ h.2.2.2.2⟩};{exact h}
 | .vec (.g _) _ _,_,_,_,h| .d _,_,_,_,h| .sl _ _ _,_,_,_,h| .ts _ _,_,_,_,h| .sr _ _ _ _ _,_,_,_,h| .yg _,_,_,_,h| .arr _,_,_,_,h| .as _,_,_,_,h| .fnc _ _,_,_,_,h=>by simpa only[V.Ds]using h
theorem Aa.GP {Γ:G} {hm:Option Key}:∀(l:List Sh) (xs:List V) {p:List Nat} {i:Nat} {τ:Ty} {vs:List Value},Aa Γ hm p i τ xs vs->Aa Γ hm p i τ (V.GP l xs) vs
 | [],xs,_,_,_,_,h=>by simpa only[V.GP]using h
 |s::l,[],_,_,_,_,h=>by simpa only[V.GP]using h
 |s::l,x::xs,_,_,_,_,h=>by simp only[Aa,V.GP,V.TS]at h ⊢;obtain⟨⟨o,f,h1,h2,h3,h4⟩,h5⟩:=h;exact⟨⟨o,f,h1,h2,h3,AA.Ds s x h4⟩,Aa.GP l xs h5⟩
end
mutual
def V.eY:Sh->V->List (Nat × Ty)
 | .vec (.l a) eb e,x=>(match x with| .emp eb' e'=>if eb'=eb/\e'=e then[(a+T0,e)]else[]| .yf=>[(a+T0,e)]|_=>[])| .agg _ l,x=>(match x with| .agg _ xs=>V.yE l xs|_=>[])|_,_=>[]
def V.yE:List Sh->List V->List (Nat × Ty)
 |s::l,x::xs=>V.eY s x++V.yE l xs|_,_=>[]
end
def QW:List (Nat × Ty)->S->S
 | [],s=>s|(t,e)::l,s=>if(s.obj (.l t)).isNone=true then QW l (s.put (.l t) (.box (.d (.arr 0 e) (.agg []))))else QW l s
def V.MD (s:Sh) (x:V):V:=
 match s,x with
 | .vec (.l a) eb e,.yf=>.sr (.l (a+T0)) [] 0 0 none eb e|s,x=>V.Ds s x
def TQ:List (Nat × Sh)->S->S
 | [],s=>s|(i,sh)::l,s=>(match V.eY sh (s.get i)with| []=>TQ l s|ns=>TQ l (QW ns (s.set (some i) (V.MD sh (s.get i)))))
def Nl:List (Key × OSh)->S->S
 | [],s=>s|(k,.box sh)::l,s=>(match s.obj k with|some (.box x)=>(match V.eY sh x with| []=>Nl l s|ns=>Nl l (QW ns (s.put k (.box (V.Ds sh x)))))|_=>Nl l s)|_::l,s=>Nl l s
section
mutual
def V.Fs (s:S):V->V
 | .agg τ vs=>.agg τ (V.Hl s vs)|x=>Da s x
def V.Hl (s:S):List V->List V
 | []=>[]|x::xs=>V.Fs s x::V.Hl s xs
end
mutual
def V.Ri:V->List Nat
 | .agg _ vs=>V.Ux vs|x=>GX x
def V.Ux:List V->List Nat
 | []=>[]|x::xs=>V.Ri x++V.Ux xs
end
mutual
def V.frz (s:S):Sh->V->V
 | .d _,x=>x.Fs s| .agg _ l,x=>(match x with| .agg τ xs=>.agg τ (V.Fm s l xs)|x=>x)|_,x=>x
def V.Fm (s:S):List Sh->List V->List V
 |sh::l,x::xs=>V.frz s sh x::V.Fm s l xs|_,xs=>xs
end
mutual
def V.JX:Sh->V->List Nat
 | .d _,x=>x.Ri| .agg _ l,x=>(match x with| .agg _ xs=>V.Uc l xs|_=>[])|_,_=>[]
def V.Uc:List Sh->List V->List Nat
 |sh::l,x::xs=>V.JX sh x++V.Uc l xs|_,_=>[]
end
theorem AA.SL {Γ Γ':G} (p:Bg Γ Γ') {q:List Nat} {x:V} {vs:List Value} (h:AA Γ none q x vs):AA Γ' none q x vs:=AA.Bn p (hm:=none) trivial x h
theorem pF (s:S) (x:V):(Da s x).ty=x.ty/\(Da s x).plain=x.plain:=by
 unfold Da;split;{split;{split;{split;{split;{exact⟨rfl,rfl⟩};{exact⟨rfl,rfl⟩}};{exact⟨rfl,rfl⟩}};{exact⟨rfl,rfl⟩}};{exact⟨rfl,rfl⟩}};{exact⟨rfl,rfl⟩}
theorem V.oZ (s:S) (x:V):(x.Fs s).ty=x.ty/\(x.Fs s).plain=x.plain:=by cases x <;> simp only[V.Fs] <;> first|exact pF s _|exact⟨rfl,rfl⟩
theorem V.pC (s:S):∀xs:List V,(V.Hl s xs).length=xs.length
 | []=>rfl|x::xs=>by simp[V.Hl,V.pC s xs]
theorem V.Yn (s:S) (sh:Sh) (x:V):(V.frz s sh x).ty=x.ty/\(V.frz s sh x).plain=x.plain:=by unfold V.frz;split;{exact V.oZ s x};{split <;> exact⟨rfl,rfl⟩};{exact⟨rfl,rfl⟩}
theorem V.mN (s:S):∀(l:List Sh) (xs:List V),(V.Fm s l xs).length=xs.length
 | [],xs=>by simp[V.Fm]
 |_::_,[]=>by simp[V.Fm]
 |sh::l,x::xs=>by simp[V.Fm,V.mN s l xs]
section
variable {Γ Γ':G} {s:S} {js:List Nat} (p:Bg Γ Γ') (hc:∀(x:V) (v:Value),AI Γ x v->(∀j∈GX x,j∈js)->AI Γ' (Da s x) v)
include p hc
theorem AA.Da {x:V} {q:List Nat} {vs:List Value} (hx:x.plain=true) (ha:x.ty.isAgg=false) (h:AA Γ none q x vs) (hk:∀j∈GX x,j∈js):AA Γ' none q (Da s x) vs:=by
 by_cases hn:GX x=[];{rw[pE (fun j hj=>by rw[hn]at hj;cases hj)];exact h.SL p}
 ·cases x <;> (try (exact absurd rfl hn));rename_i k q0 lo n cp eb e;cases k with
  |g k=>exact absurd rfl hn|l j=>
   have hv:∃v,vs=[v]/\AI Γ (.sr (.l j) q0 lo n cp eb e) v:=by have h':=h;simp only[AA]at h;rcases h with⟨_,_,a,rfl⟩|⟨b,τ0,o,m,cap,_,_,_,⟨a,rfl,_⟩,_⟩;{exact⟨_,rfl,(Ci rfl rfl).2 ⟨by simpa only[AA]using h',rfl⟩⟩};{exact⟨_,rfl,(Ci rfl rfl).2 ⟨by simpa only[AA]using h',rfl⟩⟩}
   obtain⟨v,rfl,hv⟩:=hv;have h2:=hc _ _ hv hk;have h3:=pF s (.sr (.l j) q0 lo n cp eb e);have hvc:v.cells.toList=[v]:=by rcases Hv hv with⟨_,_,a,rfl⟩|⟨b,τ0,o,m,cap,a,_,_,_,rfl,_⟩ <;> rfl
   obtain⟨h4,_⟩:=(Ca (by rw[h3.2];rfl)).1 h2;rw[hvc]at h4;exact AA.EV _ h4
mutual
theorem AA.Fs:∀(x:V) {q:List Nat} {vs:List Value},AA Γ none q x vs->(∀j∈x.Ri,j∈js)->AA Γ' none q (x.Fs s) vs
 | .agg τ xs,q,vs,h,hk=>by simp only[V.Fs,V.Ri]at hk ⊢;simp only[AA]at h ⊢;exact⟨h.1,h.2.1,by rw[V.pC];exact h.2.2.1,h.2.2.2.1,Aa.Hl xs h.2.2.2.2 hk⟩
 | .any,q,vs,_,_=>by simp only[V.Fs,Go.E.Da,AA]
 | .tup _,q,vs,h,_=>by simp only[AA]at h
 | .d τ c,q,vs,h,_=>by simp only[V.Fs,Go.E.Da];exact h.SL p
 | .sl _ _ _ _,q,vs,h,hk| .ts _ _ _,q,vs,h,hk| .emp _ _,q,vs,h,hk| .yf,q,vs,h,hk| .ptr _ _ _,q,vs,h,hk| .yg _ _,q,vs,h,hk| .mp _,q,vs,h,hk| .fn _ _,q,vs,h,hk| .top _,q,vs,h,hk=>by simp only[V.Fs,Go.E.Da];exact h.SL p
 | .sr k q0 lo n cp eb e,q,vs,h,hk=>by simp only[V.Fs];exact AA.Da p hc rfl rfl h (by simpa only[V.Ri]using hk)
theorem Aa.Hl:∀(xs:List V) {q:List Nat} {i:Nat} {τ:Ty} {vs:List Value},Aa Γ none q i τ xs vs->(∀j∈V.Ux xs,j∈js)->Aa Γ' none q i τ (V.Hl s xs) vs
 | [],_,_,_,_,_,_=>by simp only[V.Hl,Aa]
 |x::xs,_,_,_,_,h,hk=>by simp only[Aa,V.Hl,(V.oZ s x).1]at h ⊢;simp only[V.Ux,ed]at hk;obtain⟨⟨o,f,h1,h2,h3,h4⟩,h5⟩:=h;exact⟨⟨o,f,h1,h2,h3,AA.Fs x h4 fun j hj=>hk j (.inl hj)⟩,Aa.Hl xs h5 fun j hj=>hk j (.inr hj)⟩
end
mutual
theorem AA.frz:∀(sh:Sh) (x:V) {q:List Nat} {vs:List Value},AA Γ none q x vs->(∀j∈V.JX sh x,j∈js)->AA Γ' none q (V.frz s sh x) vs
 | .d _,x,q,vs,h,hk=>by simp only[V.frz,V.JX]at hk ⊢;exact AA.Fs p hc x h hk
 | .agg _ l,x,q,vs,h,hk=>by simp only[V.frz,V.JX]at hk ⊢;split;{simp only[AA]at h ⊢;exact⟨h.1,h.2.1,by rw[V.mN];exact h.2.2.1,h.2.2.2.1,Aa.Fm l _ h.2.2.2.2 hk⟩};{exact h.SL p}
 | .sl _ _ _,x,q,vs,h,_| .ts _ _,x,q,vs,h,_| .sr _ _ _ _ _,x,q,vs,h,_| .yg _,x,q,vs,h,_| .arr _,x,q,vs,h,_| .as _,x,q,vs,h,_| .vec _ _ _,x,q,vs,h,_| .fnc _ _,x,q,vs,h,_=>by simp only[V.frz];exact h.SL p
theorem Aa.Fm:∀(l:List Sh) (xs:List V) {q:List Nat} {i:Nat} {τ:Ty} {vs:List Value},Aa Γ none q i τ xs vs->(∀j∈V.Uc l xs,j∈js)->Aa Γ' none q i τ (V.Fm s l xs) vs
 | [],xs,_,_,_,_,h,_=>by simp only[V.Fm];exact Aa.Bn p (hm:=none) trivial xs h
 |_::_,[],_,_,_,_,_,_=>by simp only[V.Fm,Aa]
 |sh::l,x::xs,_,_,_,_,h,hk=>by simp only[Aa,V.Fm,(V.Yn s sh x).1]at h ⊢;simp only[V.Uc,ed]at hk;obtain⟨⟨o,f,h1,h2,h3,h4⟩,h5⟩:=h;exact⟨⟨o,f,h1,h2,h3,AA.frz sh x h4 fun j hj=>hk j (.inl hj)⟩,Aa.Fm l xs h5 fun j hj=>hk j (.inr hj)⟩
end
theorem AI.frz {sh:Sh} {x:V} {v:Value} (h:AI Γ x v) (hk:∀j∈V.JX sh x,j∈js):AI Γ' (V.frz s sh x) v:=by
 by_cases hp:x.plain=true;{obtain⟨h1,h2⟩:=(Ca hp).1 h;exact(Ca (by rw[(V.Yn s sh x).2];exact hp)).2 ⟨AA.frz p hc sh x h1 hk,by rw[(V.Yn s sh x).1];exact h2⟩}
 ·have:V.frz s sh x=x:=by cases x <;> simp[V.plain]at hp <;> (unfold V.frz;split <;> rfl)
  rw[this];exact h.Bn p
end
def Ip (s:S):List (Nat × Sh)->List Nat
 | []=>[]|(i,sh)::l=>V.JX sh (s.get i)++Ip s l
def Iq (s0:S):List (Nat × Sh)->S->S
 | [],s=>s|(i,sh)::l,s=>Iq s0 l (match V.JX sh (s0.get i)with| []=>s|_=>s.set (some i) (V.frz s0 sh (s0.get i)))
def KB (sh:SSh) (s:S):S:=
 match Ip s sh.env with
 | []=>s|js=>Iq s sh.env (EY js s)
theorem Ym (s0:S):∀(l:List (Nat × Sh)) (s:S),(Iq s0 l s).loc=s.loc/\(Iq s0 l s).tk=s.tk/\(Iq s0 l s).A=s.A
 | [],s=>⟨rfl,rfl,rfl⟩|(i,sh)::l,s=>by simp only[Iq];have:=Ym s0 l (match V.JX sh (s0.get i)with| []=>s|_=>s.set (some i) (V.frz s0 sh (s0.get i)));refine⟨this.1.trans ?_,this.2.1.trans ?_,this.2.2.trans ?_⟩ <;> (split <;> rfl)
theorem mK {Γ':G} {tmps:Array Value} {s0:S} {js:List Nat} (h0:∀i sh,(∀j∈V.JX sh (s0.get i),j∈js)->AI Γ' (V.frz s0 sh (s0.get i)) (tmps.getD i undef)):∀(l:List (Nat × Sh)) (s:S),(∀j∈Ip s0 l,j∈js)->(∀i,AI Γ' (s.get i) (tmps.getD i undef))->∀i,AI Γ' ((Iq s0 l s).get i) (tmps.getD i undef)
 | [],s,_,h=>h|(i,sh)::l,s,hk,h=>by simp only[Iq];simp only[Ip,ed]at hk;refine mK h0 l _ (fun j hj=>hk j (.inr hj)) fun m=>?_;split;{exact h m};{rw[KC];split;{rename_i e;cases e;exact h0 i sh fun j hj=>hk j (.inl hj)};{exact h m}}
theorem w9 {X:Cx} {n:Nat} {Γ0:G} {a:Act} {w:World} {sh:SSh} {s:S} (h:At X n Γ0 s a w):At X n Γ0 (KB sh s) a w:=by unfold KB;split;{exact h};{obtain⟨Γ,g1,g3,c,hs,hn,hf,hA⟩:=h;obtain⟨Γ',g,p,c',hcv⟩:=Uy (Ip s sh.env) s c;have hl:=Ym s sh.env (EY (Ip s sh.env) s);have hE:=Rj (Ip s sh.env) s;refine⟨Γ',g1.trans g,g.gl.trans g3,c'.congr (fun k=>?_) (fun t=>?_) (fun t ht=>?_),?_,hn,hf,by rw[hl.2.2,hE.2];exact hA⟩;{unfold jv;rw[hl.1,hl.2.2]};{unfold S.live;rw[hl.2.1]};{unfold S.known at ht ⊢;rw[hl.2.1];exact ht};{refine mK (js:=Ip s sh.env) (fun i sh' hk=>AI.frz p hcv (hs i) hk) sh.env _ (fun j hj=>hj) fun i=>?_;exact Ly hE.1 (hs.Bn p) i}}
mutual
theorem V.pB (s:S) (A':Key->Option O):∀x:V,x.Fs (s.wA A')=x.Fs s
 | .agg τ vs=>by simp only[V.Fs];rw[V.pD s A' vs]
 | .d _ _| .sl _ _ _ _| .ts _ _ _| .emp _ _| .yf| .ptr _ _ _| .yg _ _| .mp _| .fn _ _| .top _| .any| .tup _| .sr _ _ _ _ _ _ _=>by simp only[V.Fs];exact pG s A' _
theorem V.pD (s:S) (A':Key->Option O):∀xs:List V,V.Hl (s.wA A') xs=V.Hl s xs
 | []=>rfl|x::xs=>by simp only[V.Hl];rw[V.pB s A' x,V.pD s A' xs]
end
mutual
theorem V.mM (s:S) (A':Key->Option O):∀(sh:Sh) (x:V),V.frz (s.wA A') sh x=V.frz s sh x
 | .d _,x=>by simp only[V.frz];exact V.pB s A' x
 | .agg _ l,x=>by simp only[V.frz];split <;> (try rfl);rw[V.mO s A' l]
 | .sl _ _ _,x| .ts _ _,x| .sr _ _ _ _ _,x| .yg _,x| .arr _,x| .as _,x| .vec _ _ _,x| .fnc _ _,x=>by simp only[V.frz]
theorem V.mO (s:S) (A':Key->Option O):∀(l:List Sh) (xs:List V),V.Fm (s.wA A') l xs=V.Fm s l xs
 | [],xs=>by simp only[V.Fm]
 |_::_,[]=>by simp only[V.Fm]
 |sh::l,x::xs=>by simp only[V.Fm];rw[V.mM s A' sh x,V.mO s A' l xs]
end
theorem kV (s:S) (A':Key->Option O):∀l:List (Nat × Sh),Ip (s.wA A') l=Ip s l
 | []=>rfl|(i,sh)::l=>by simp only[Ip];rw[kV s A' l];rfl
theorem mL (s0:S) (A':Key->Option O):∀(l:List (Nat × Sh)) (s:S),Iq (s0.wA A') l (s.wA A')=(Iq s0 l s).wA A'
 | [],_=>rfl|(i,sh)::l,s=>by simp only[Iq];rw[<-mL s0 A' l];congr 1;show(match V.JX sh (s0.get i)with| []=>s.wA A'|_=>(s.wA A').set (some i) (V.frz (s0.wA A') sh (s0.get i)))=_;rw[V.mM];split <;> rfl
theorem q1m (sh:SSh) (s:S) (A':Key->Option O):KB sh (s.wA A')=(KB sh s).wA A':=by unfold KB;rw[kV];split;{rfl};{rw[ZS];exact mL s A' sh.env _}
end
def IE {R:Type}:Key->(Key->Option R)->Option R
 | .l 0,K=>K (.l 0)| .l (n+1),K=>K (.l (n+1))| .g k,K=>IE k fun k=>K (.g k)
theorem LI {R:Type}:∀(k:Key) (K:Key->Option R),IE k K=K k
 | .l 0,K=>rfl| .l (n+1),K=>rfl| .g k,K=>by simp only[IE,LI k]
mutual
def IG {R:Type}:V->(V->Option R)->Option R
 | .d τ c,K=>K (.d τ c)| .sl eb e cs t,K=>K (.sl eb e cs t)| .ts eb e cs,K=>K (.ts eb e cs)| .emp eb e,K=>K (.emp eb e)| .yf,K=>K .yf| .ptr k q τ,K=>IE k fun k=>K (.ptr k q τ)| .yg τ c,K=>K (.yg τ c)| .sr k q lo n cp eb e,K=>IE k fun k=>K (.sr k q lo n cp eb e)| .mp k,K=>IE k fun k=>K (.mp k)| .agg τ l,K=>Ox l fun l=>K (.agg τ l)| .fn f l,K=>K (.fn f l)| .tup l,K=>Ox l fun l=>K (.tup l)| .top τ,K=>K (.top τ)| .any,K=>K .any
def Ox {R:Type}:List V->(List V->Option R)->Option R
 | [],K=>K []|x::l,K=>IG x fun x=>Ox l fun l=>K (x::l)
end
mutual
theorem RW {R:Type}:∀(x:V) (K:V->Option R),IG x K=K x
 | .d _ _,_| .sl _ _ _ _,_| .ts _ _ _,_| .emp _ _,_| .yf,_| .yg _ _,_| .fn _ _,_| .top _,_| .any,_=>by simp only[IG]
 | .ptr k q τ,K=>by simp only[IG,LI]
 | .sr k q lo n cp eb e,K=>by simp only[IG,LI]
 | .mp k,K=>by simp only[IG,LI]
 | .agg τ l,K=>by simp only[IG,Yj l]
 | .tup l,K=>by simp only[IG,Yj l]
theorem Yj {R:Type}:∀(l:List V) (K:List V->Option R),Ox l K=K l
 | [],K=>by simp only[Ox]
 |x::l,K=>by simp only[Ox,RW x,Yj l]
end
def UZ {R:Type}:List (Nat × V)->(List (Nat × V)->Option R)->Option R
 | [],K=>K []|(i,x)::l,K=>IG x fun x=>UZ l fun l=>K ((i,x)::l)
theorem mD {R:Type}:∀(l:List (Nat × V)) (K:List (Nat × V)->Option R),UZ l K=K l
 | [],K=>rfl|(i,x)::l,K=>by simp only[UZ,RW,mD l]
def RR {R:Type}:List (Key × O)->(List (Key × O)->Option R)->Option R
 | [],K=>K []|(k,.box x)::l,K=>IE k fun k=>IG x fun x=>RR l fun l=>K ((k,.box x)::l)|(k,o)::l,K=>IE k fun k=>RR l fun l=>K ((k,o)::l)
theorem mF {R:Type}:∀(l:List (Key × O)) (K:List (Key × O)->Option R),RR l K=K l
 | [],K=>rfl|(k,o)::l,K=>by cases o <;> simp only[RR,LI,RW,mF l]
def RV {R:Type}:List (Nat × Option Nat)->(List (Nat × Option Nat)->Option R)->Option R
 | [],K=>K []|(i,none)::l,K=>RV l fun l=>K ((i,none)::l)|(i,some n)::l,K=>RV l fun l=>K ((i,some n)::l)
theorem mJ {R:Type}:∀(l:List (Nat × Option Nat)) (K:List (Nat × Option Nat)->Option R),RV l K=K l
 | [],K=>rfl|(i,o)::l,K=>by cases o <;> simp only[RV,mJ l]
def frc {R:Type} (s:S) (K:S->Option R):Option R:=
 match s with
 |⟨env,loc,A,tk⟩=>UZ env fun env=>RR loc fun loc=>RV tk fun tk=>K ⟨env,loc,A,tk⟩
theorem Yk {R:Type} (s:S) (K:S->Option R):frc s K=K s:=by unfold frc;simp only[mD,mF,mJ]
def Ow {R:Type}:List Cap->(List Cap->Option R)->Option R
 | [],K=>K []| .c τ::l,K=>Ow l fun l=>K (.c τ::l)| .v x::l,K=>IG x fun x=>Ow l fun l=>K (.v x::l)
theorem Yg {R:Type}:∀(l:List Cap) (K:List Cap->Option R),Ow l K=K l
 | [],K=>rfl| .c τ::l,K=>by simp only[Ow,Yg l]
 | .v x::l,K=>by simp only[Ow,RW,Yg l]
mutual
def JW {R:Type}:Sh->(Sh->Option R)->Option R
 | .sr k q cp eb e,K=>IE k fun k=>K (.sr k q cp eb e)| .vec k eb e,K=>IE k fun k=>K (.vec k eb e)| .agg τ l,K=>RU l fun l=>K (.agg τ l)| .as v,K=>IG v fun v=>K (.as v)| .d τ,K=>K (.d τ)| .sl eb e t,K=>K (.sl eb e t)| .ts eb e,K=>K (.ts eb e)| .yg τ,K=>K (.yg τ)| .arr e,K=>K (.arr e)| .fnc f l,K=>Ow l fun l=>K (.fnc f l)
def RU {R:Type}:List Sh->(List Sh->Option R)->Option R
 | [],K=>K []|x::l,K=>JW x fun x=>RU l fun l=>K (x::l)
end
mutual
theorem Yi {R:Type}:∀(x:Sh) (K:Sh->Option R),JW x K=K x
 | .d _,_| .sl _ _ _,_| .ts _ _,_| .yg _,_| .arr _,_=>by simp only[JW]
 | .sr _ _ _ _ _,K=>by simp only[JW,LI]
 | .vec _ _ _,K=>by simp only[JW,LI]
 | .as v,K=>by simp only[JW,RW]
 | .fnc f l,K=>by simp only[JW,Yg]
 | .agg τ l,K=>by simp only[JW,mI l]
theorem mI {R:Type}:∀(l:List Sh) (K:List Sh->Option R),RU l K=K l
 | [],K=>by simp only[RU]
 |x::l,K=>by simp only[RU,Yi x,mI l]
end
def Ua {R:Type}:List (Nat × Sh)->(List (Nat × Sh)->Option R)->Option R
 | [],K=>K []|(i,x)::l,K=>JW x fun x=>Ua l fun l=>K ((i,x)::l)
theorem mG {R:Type}:∀(l:List (Nat × Sh)) (K:List (Nat × Sh)->Option R),Ua l K=K l
 | [],K=>rfl|(i,x)::l,K=>by simp only[Ua,Yi,mG l]
def RS {R:Type}:List (Key × OSh)->(List (Key × OSh)->Option R)->Option R
 | [],K=>K []|(k,.box x)::l,K=>IE k fun k=>JW x fun x=>RS l fun l=>K ((k,.box x)::l)|(k,o)::l,K=>IE k fun k=>RS l fun l=>K ((k,o)::l)
theorem mH {R:Type}:∀(l:List (Key × OSh)) (K:List (Key × OSh)->Option R),RS l K=K l
 | [],K=>rfl|(k,o)::l,K=>by cases o <;> simp only[RS,LI,Yi,mH l]
def RT {R:Type} (s:SSh) (K:SSh->Option R):Option R:=
 match s with
 |⟨env,loc⟩=>Ua env fun env=>RS loc fun loc=>K ⟨env,loc⟩
theorem Yh {R:Type} (s:SSh) (K:SSh->Option R):RT s K=K s:=by unfold RT;simp only[mG,mH]
def iE:List V->Bool
 | []=>false| .yg _ _::_=>true|_::l=>iE l
def Xb:List V->List Cap
 | []=>[]| .yg τ _::l=>.c τ::Xb l|x::l=>.v x::Xb l
mutual
def V.TZ:V->Sh
 | .d τ _=>(match τ with| .ptr=>.as (.d .ptr .nil)| .map=>.as (.d .map .nil)| .func=>.as (.d .func .nil)|τ=>.d τ)| .sl eb e _ _=>.d (.slice eb e)| .ts eb e _=>.ts eb e| .sr k q _ _ cp eb e=>(match q,cp with| [],none=>.vec k eb e|q,cp=>.sr k q cp.isSome eb e)| .yg τ _=>.yg τ| .agg τ vs=>.agg τ (V.fP vs)| .tup _=>.as .any| .fn f vs=>bif iE vs then .fnc f (Xb vs)else .as (.fn f vs)|x=>.as x
def V.fP:List V->List Sh
 | []=>[]|x::xs=>x.TZ::V.fP xs
end
mutual
def V.Rd:V->List Key
 | .ptr k _ _| .mp k| .sr k _ _ _ _ _ _=>[k]| .agg _ vs| .fn _ vs| .tup vs=>V.nU vs|_=>[]
def V.nU:List V->List Key
 | []=>[]|x::xs=>x.Rd++V.nU xs
end
def O.Rd:O->List Key
 | .box x=>x.Rd| .map _ _ _=>[]| .it _ _| .dead _=>[]
def VF:Key->List Key->Bool
 |_,[]=>false|k,j::l=>if j=k then true else VF k l
def Vs (s:S):Nat->List Key->List Key->List Key
 |0,_,acc=>acc|_,[],acc=>acc|f+1,k::ks,acc=>if VF k acc=true then Vs s f ks acc else(match s.obj k with|some o=>Vs s f (o.Rd++ks) (acc++[k])|none=>Vs s f ks acc)
structure Hint where
 live:List Nat
 new:List (Nat × Sh)
 roots:List Key
 obs:List (Key × OSh)
 drop:List Key
 z7W:List Ty:=[]
def kX (s:S):List Nat->List Key
 | []=>[]|i::l=>(s.get i).Rd++kX s l
def XJ (s:S):List Nat->List (Nat × Sh)
 | []=>[]|i::l=>(match s.get i with| .any=>XJ s l|x=>(i,x.TZ)::XJ s l)
def PG (e:Ty):List Ty->Bool
 | []=>false|t::l=>if wg t e=true then true else PG e l
def Tq:Key->Nat
 | .l n=>2*n| .g k=>2*Tq k+1
def V1:Nat:=1000000000000
mutual
def Sh.eZ (ts:List Ty):Nat->Sh->V->Sh
 |b,.vec (.g k) eb e,_=>if PG e ts=true then .vec (.l (V1+8*Tq (.g k)+2)) eb e else .vec (.g k) eb e|b,.as v,_=>(match v with| .emp eb e=>if PG e ts=true then .vec (.l b) eb e else .as v|v=>.as v)|b,.ts eb e,x=>(match x with| .emp _ _=>if PG e ts=true then .vec (.l b) eb e else .ts eb e|_=>.ts eb e)|b,.agg τ l,x=>(match x with| .agg _ xs=>.agg τ (Sh.yJ ts (64*b) l xs)|_=>.agg τ l)|_,s,_=>s
def Sh.yJ (ts:List Ty):Nat->List Sh->List V->List Sh
 |b,s::l,x::xs=>Sh.eZ ts b s x::Sh.yJ ts (b+1) l xs|_,_,_=>[]
end
mutual
def Sh.fC:Sh->List (Key × OSh)
 | .vec (.l a) _ e=>if V1<=a then[(.l a,.box (.arr e))]else[]| .agg _ l=>Sh.yO l|_=>[]
def Sh.yO:List Sh->List (Key × OSh)
 | []=>[]|s::l=>s.fC++Sh.yO l
end
def kZ (s:S) (ts:List Ty):List (Nat × Sh)->List (Nat × Sh)
 | []=>[]|(i,sh)::l=>(i,sh.eZ ts (V1+8*i+3) (s.get i))::kZ s ts l
def PQ (s:S) (ts:List Ty):List (Key × OSh)->List (Key × OSh)
 | []=>[]|(k,.box sh)::l=>(match k,sh with| .g k,.arr e=>if PG e ts=true then(.g k,.dead e)::(.l (V1+8*Tq (.g k)+2),.box (.arr e))::PQ s ts l else(.g k,.box sh)::PQ s ts l|k,sh=>(match s.obj k with|some (.box x)=>(k,.box (sh.eZ ts (V1+8*Tq k+1) x))::PQ s ts l|_=>(k,.box sh)::PQ s ts l))|p::l=>p::PQ s ts l
def lB:List (Nat × Sh)->List (Key × OSh)
 | []=>[]|(_,sh)::l=>sh.fC++lB l
def ZY:List (Key × OSh)->List (Key × OSh)
 | []=>[]|(_,.box sh)::l=>sh.fC++ZY l|_::l=>ZY l
def XM:List (Key × OSh)->List (Key × OSh)->List (Key × OSh)
 | [],acc=>acc|(k,o)::l,acc=>if LQ acc k=true then XM l acc else XM l (acc++[(k,o)])
def q86 (s:S) (ts:List Ty) (sh:SSh):SSh:=
 match ts with
 | []=>sh|ts=>(match kZ s ts sh.env,PQ s ts sh.loc with|env,loc=>⟨env,XM (lB env++ZY loc) loc⟩)
def Ku (s:S) (h:Hint):List Key->List (Key × OSh)
 | []=>[]
 |k::l=>if VF k h.drop=true then Ku s h l else if LQ h.obs k=true then Ku s h l else(match s.obj k with|some (.box x)=>(k,.box (match x with| .d (.arr M e) _=>(match k,M with|_,_=>if PG e h.z7W=true then .arr e else .d (.arr M e))| .d τ _=>.d τ|x=>(match h.z7W with| []=>bif (Cm x).isSome then .d x.ty else x.Ei.TZ|_=>x.TZ)))::Ku s h l|some (.map kτ vτ _)=>(k,.map kτ vτ)::Ku s h l|some (.it _ _)=>(k,.it)::Ku s h l|some (.dead (.arr _ e))=>(k,.dead e)::Ku s h l|_=>Ku s h l)
def Xz:List (Key × O)->List Key
 | []=>[]|(.g k,.dead _)::l=>.g k::Xz l|_::l=>Xz l
def Zt (h:Hint) (s:S):SSh:=
 q86 s h.z7W ⟨XJ s h.live++h.new,h.obs++Ku s h (Vs s 1000 (kX s h.live++h.roots) []++Xz s.loc)⟩
def Mi:List (Key × OSh)->S->S
 | [],s=>s|(k,.box _)::l,s=>(match s.obj k with|some (.box x)=>Mi l (s.put k (.box x.Ei))|_=>Mi l s)|_::l,s=>Mi l s
def Jn:List (Nat × Sh)->S->S
 | [],s=>s|(i,sh)::l,s=>(match sh with| .sl eb e t=>(match s.get i with| .yf=>if s.known t=false then Jn l (S.set {s with tk:=(t,some 0)::s.tk} (some i) (.sl eb e [] t))else Jn l s| .emp eb' e'=>if eb'=eb/\e'=e/\s.known t=false then Jn l (S.set {s with tk:=(t,some 0)::s.tk} (some i) (.sl eb e [] t))else Jn l s|_=>Jn l s)|_=>Jn l s)
mutual
def V.un:V->V->List (Nat × Nat)
 | .ptr (.l a) _ _,.ptr (.l b) _ _=>[(b,a)]| .mp (.l a),.mp (.l b)=>[(b,a)]| .fn _ l,.fn _ l'=>V.uns l l'| .tup l,.tup l'=>V.uns l l'|_,_=>[]
def V.uns:List V->List V->List (Nat × Nat)
 |x::xs,y::ys=>V.un x y++V.uns xs ys|_,_=>[]
end
def Xa:List Cap->List V->List (Nat × Nat)
 | .v y::l,x::xs=>V.un y x++Xa l xs| .c _::l,_::xs=>Xa l xs|_,_=>[]
mutual
def Sh.un:Sh->V->List (Nat × Nat)
 | .sr (.l a) _ _ _ _,.sr (.l b) _ _ _ _ _ _=>[(b,a)]| .vec (.l a) _ _,.sr (.l b) _ _ _ _ _ _=>[(b,a)]| .as v,x=>V.un v x| .fnc _ l,.fn _ xs=>Xa l xs| .agg _ l,.agg _ xs=>Sh.uns l xs|_,_=>[]
def Sh.uns:List Sh->List V->List (Nat × Nat)
 |s::l,x::xs=>s.un x++Sh.uns l xs|_,_=>[]
end
def eP (s:S):List (Nat × Sh)->List (Nat × Nat)
 | []=>[]|(i,sh)::l=>sh.un (s.get i)++eP s l
def Ws (s:S):List (Nat × Sh)->List (Nat × Nat)
 | []=>[]|(i,sh)::l=>(match sh,s.get i with| .sl _ _ t,.sl _ _ _ t'=>(t',t)::Ws s l|_,_=>Ws s l)
def Zd:List (Key × OSh)->Key->Option OSh
 | [],_=>none|(j,x)::l,k=>if j=k then some x else Zd l k
def yA (s:S) (l:List (Key × OSh)) (b a:Key):List (Nat × Nat):=
 match Zd l a,s.obj b with
 |some (.box sh),some (.box x)=>sh.un x|_,_=>[]
def unG (s:S) (l0:List (Key × OSh)):List (Key × OSh)->List (Nat × Nat)
 | []=>[]|(.g k,_)::l=>yA s l0 (.g k) (.g k)++unG s l0 l|(.l _,_)::l=>unG s l0 l
def Wq (s:S) (l:List (Key × OSh)):Nat->List (Nat × Nat)->List (Nat × Nat)->List (Nat × Nat)
 |0,_,acc=>acc|_,[],acc=>acc|f+1,(b,a)::todo,acc=>(match look acc b with|some _=>Wq s l f todo acc|none=>Wq s l f (yA s l (.l b) (.l a)++todo) ((b,a)::acc))
def Qc:List (Nat × Nat)->Bool
 | []=>true|(a,b)::l=>dc a b&&Qc l
def OG (l:List (Nat × Nat)) (n:Nat):Nat:=(look l n).getD (n+1000000000)
def TP (s:S):List (Nat × Sh)->Bool
 | []=>false|(i,sh)::l=>(match sh,s.get i with| .sl _ _ t,.yf=>s.known t||TP s l| .sl _ _ t,.emp _ _=>s.known t||TP s l|_,_=>TP s l)
def Vl (sh:SSh) (s:S):S:=
 match Wq s sh.loc 1000 (eP s sh.env++unG s sh.loc sh.loc) [],Ws s sh.env with
 |ps,ts=>bif Qc ps&&Qc ts&& !TP s sh.env then s
  else bif KH (OG ps) (GW s.loc)&&KH (OG ts) (Gi s.tk)then s.ren (OG ps) (OG ts)else s
mutual
def Sh.ad:Sh->V->List (Key × Nat)
 | .vec (.l a) _ _,.sr (.g b) _ _ _ _ _ _=>[(.g b,a+T0)]| .agg _ l,.agg _ xs=>Sh.ads l xs|_,_=>[]
def Sh.ads:List Sh->List V->List (Key × Nat)
 |s::l,x::xs=>s.ad x++Sh.ads l xs|_,_=>[]
end
def fQ (s:S):List (Nat × Sh)->List (Key × Nat)
 | []=>[]|(i,sh)::l=>sh.ad (s.get i)++fQ s l
def Ta (s:S):List (Key × OSh)->List (Key × Nat)
 | []=>[]|(k,.box sh)::l=>(match s.obj k with|some (.box x)=>sh.ad x++Ta s l|_=>Ta s l)|_::l=>Ta s l
def nV {α:Type}:List (Key × α)->List Key
 | []=>[]|(k,_)::l=>k::nV l
def XN (ks:List Key):List (Key × Nat)->S->S
 | [],s=>s|(K,t)::l,s=>XN ks l (Qb K t ks s)
def gE:List (Key × OSh)->Bool
 | []=>false|(_,.box (.arr _))::_=>true|_::l=>gE l
def Wt (sh:SSh) (s:S):S:=
 match gE sh.loc with
 |false=>s|true=>(match XN (nV sh.loc) (fQ s sh.env++Ta s sh.loc) s with|s=>Nl sh.loc (TQ sh.env s))
def JR {R:Type} (sh:SSh) (s:S) (K:List C->List Es->Option R):Option R:=
 frc (KB sh s) fun s=>frc (Wt sh s) fun s=>frc (Jn sh.env (Mi sh.loc (Vl sh s))) fun s=>Tr sh s K
theorem Y3 {R:Type} (sh:SSh) (s:S) (K:List C->List Es->Option R):JR sh s K=Tr sh (Jn sh.env (Mi sh.loc (Vl sh (Wt sh (KB sh s))))) K:=by unfold JR;simp only[Yk]
def WkA (s s':S):Prop:=s'.A=s.A/\∀(X:Cx) (n:Nat) (A':Key->Option O),leA s.A A'->EE X n (s.wA A') (s'.wA A')
theorem WkA.refl (s:S):WkA s s:=⟨rfl,fun _ _ _ _=>EE.refl _⟩
theorem WkA.trans {a b c:S} (h:WkA a b) (h':WkA b c):WkA a c:=
 ⟨h'.1.trans h.1,fun X n A' hA=>(h.2 X n A' hA).trans (h'.2 X n A' (by rw[h.1];exact hA))⟩
theorem UI:∀(l:List (Key × OSh)) (s:S),WkA s (Mi l s)
 | [],s=>WkA.refl s|(k,.box _)::l,s=>by simp only[Mi];split;{rename_i x hx;exact WkA.trans (b:=s.put k (.box x.Ei)) ⟨rfl,fun X n A' hA=>q9b (Dv hA hx)⟩ (UI l _)};{exact UI l s}
 |(_,.map _ _)::l,s|(_,.dead _)::l,s|(_,.it)::l,s=>UI l s
theorem Ni:∀(l:List (Nat × Sh)) (s:S),WkA s (Jn l s)
 | [],s=>WkA.refl s|(i,sh)::l,s=>by
  simp only[Jn];split
  ·rename_i eb e t
   have one:∀(hu:s.known t=false) (ht:s.get i= .yf\/s.get i= .emp eb e),WkA s (S.set {s with tk:=(t,some 0)::s.tk} (some i) (.sl eb e [] t)):=fun hu ht=>
    ⟨rfl,fun X n A' hA=>q9e (s:=s.wA A') hu ht⟩
   split;{rename_i hx;split;{rename_i hu;exact(one hu (.inl hx)).trans (Ni l _)};{exact Ni l s}};{rename_i eb' e' hx;split;{rename_i hu;obtain⟨rfl,rfl,hu⟩:=hu;exact(one hu (.inr hx)).trans (Ni l _)};{exact Ni l s}};{exact Ni l s}
  ·exact Ni l s
theorem q46 (sh:SSh) (s:S):WkA s (Vl sh s):=by unfold Vl;dsimp only;generalize Wq s sh.loc 1000 (eP s sh.env++unG s sh.loc sh.loc) []=ps;generalize Ws s sh.env=ts;cases Qc ps&&Qc ts&& !TP s sh.env;{cases hi:KH (OG ps) (GW s.loc)&&KH (OG ts) (Gi s.tk);{exact WkA.refl s};{simp only[bg]at hi;exact⟨rfl,fun X n A' _=>q9d (s:=s.wA A') _ _ hi.1 hi.2⟩}};{exact WkA.refl s}
theorem fT (ks:List Key):∀(l:List (Key × Nat)) (s:S),WkA s (XN ks l s)
 | [],s=>WkA.refl s|(K,t)::l,s=>WkA.trans (b:=Qb K t ks s) (ai K t ks s) (fT ks l _)
theorem v5 {X:Cx} {n:Nat} {Γ0:G} {t:Nat} {e:Ty} {a:Act} {w:World} {s:S} (ht:s.obj (.l t)=none) (h:At X n Γ0 s a w):At X n Γ0 (s.put (.l t) (.box (.d (.arr 0 e) (.agg [])))) a w:=by obtain⟨Γ,g1,g3,c,hs,hn,hf,hA⟩:=h;refine⟨Γ,g1,g3,⟨c.hH,c.hZ,c.hκ,fun j o hj=>?_,fun j hj=>?_,c.KI (fun j hj=>?_),c.tok,c.yv,c.hgl,c.hoo,c.hσ⟩,hs,hn,hf,hA⟩;{rw[EC]at hj;split at hj;{rename_i e1;subst e1;cases hj;exact .inl ⟨c.QZ ht,e,rfl⟩};{exact c.obj j o hj}};{rw[EC];split;{simp};{exact c.dom j hj}};{unfold S.CY at hj ⊢;rw[EC];split;{rename_i e1;subst e1;rw[ht]at hj;cases hj};{exact hj}}
theorem Wv:∀(l:List (Nat × Ty)) (s:S),WkA s (QW l s)
 | [],s=>WkA.refl s|(t,e)::l,s=>by
  simp only[QW];split
  ·rename_i h;have h':s.obj (.l t)=none:=by simpa using h
   exact WkA.trans (b:=s.put (.l t) (.box (.d (.arr 0 e) (.agg [])))) ⟨rfl,fun X n A' hA Γ0 a w hat=>v5 (s:=s.wA A') (by rw[KR];exact h') hat⟩ (Wv l _)
  ·exact Wv l s
theorem AI.Ds {Γ:G} {sh:Sh} {x:V} {v:Value} (h:AI Γ x v):AI Γ (V.Ds sh x) v:=by
 by_cases hp:x.plain=true;{obtain⟨h1,h2⟩:=(Ca hp).1 h;exact(Ca (by rw[V.yG];exact hp)).2 ⟨AA.Ds sh x h1,by rw[V.TS];exact h2⟩}
 ·have:V.Ds sh x=x:=by cases x <;> simp[V.plain]at hp <;> (unfold V.Ds;split <;> rfl)
  rw[this];exact h
theorem AI.MD {Γ:G} {sh:Sh} {x:V} {v:Value} (h:AI Γ x v):AI Γ (V.MD sh x) v:=by unfold V.MD;split;{have:=GL h;subst this;exact WM};{exact h.Ds}
theorem eW:∀(l:List (Nat × Sh)) (s:S),WkA s (TQ l s)
 | [],s=>WkA.refl s|(i,sh)::l,s=>by simp only[TQ];split;{exact eW l s};{refine WkA.trans (b:=s.set (some i) (V.MD sh (s.get i))) ⟨rfl,fun X n A' hA Γ0 a w hat=>?_⟩ (WkA.trans (Wv _ _) (eW l _));obtain⟨Γ,g1,g3,c,hs,hn,hf,hA⟩:=hat;refine⟨Γ,g1,g3,show AX Γ w ((s.wA A').set (some i) (V.MD sh (s.get i))) from Qm c _ _,fun j=>?_,hn,hf,hA⟩;have hj:=hs j;show AI Γ (S.get (S.set (s.wA A') (some i) (V.MD sh (s.get i))) j) _;rw[KC];split;{rename_i e;cases e;exact AI.MD hj};{exact hj}}
theorem TR:∀(l:List (Key × OSh)) (s:S),WkA s (Nl l s)
 | [],s=>WkA.refl s|(k,.box sh)::l,s=>by
  simp only[Nl];split
  ·rename_i x hx;split;{exact TR l s}
   ·refine WkA.trans (b:=s.put k (.box (V.Ds sh x))) ⟨rfl,fun X n A' hA Γ0 a w hat=>?_⟩ (WkA.trans (Wv _ _) (TR l _));obtain⟨Γ,g1,g3,c,hs,hn,hf,ze⟩:=hat;refine⟨Γ,g1,g3,c.cR (Dv hA hx) (fun yq=>?_) (fun hv=>?_),hs,hn,hf,ze⟩;{obtain⟨b,cells,T,h1,h2,h3,h4,h5,h6,h7,h8⟩:=yq;exact⟨b,cells,T,by rw[V.TS];exact h1,h2,h3,h4,by rw[V.TS];exact h5,by rw[V.TS];exact AA.Ds sh x h6,by rw[V.yG];exact h7,by rw[V.yF];exact h8⟩}
    ·obtain⟨e,rfl⟩:=hv;have:V.Ds sh (.d (.arr 0 e) (.agg []))= .d (.arr 0 e) (.agg []):=by unfold V.Ds;split <;> rfl
     rw[this];exact⟨e,rfl⟩
  ·exact TR l s
 |(_,.map _ _)::l,s|(_,.dead _)::l,s|(_,.it)::l,s=>TR l s
theorem q85 (sh:SSh) (s:S):WkA s (Wt sh s):=by unfold Wt;split;{exact WkA.refl s};{exact((fT _ _ s).trans (eW _ _)).trans (TR _ _)}
theorem q1l (sh:SSh) (s:S):WkA s (KB sh s):=by refine⟨?_,fun X n A' hA Γ0 a w hat=>?_⟩;{unfold KB;split;{rfl};{rw[(Ym _ _ _).2.2,(Rj _ _).2]}};{rw[<-q1m];exact w9 hat}
def nbV:V->V
 | .d τ c=>(match τ with| .bool=>.d .bool (.bool c.toBool)|τ=>.d τ c)|x=>x
def nbE:List (Nat × V)->List (Nat × V)
 | []=>[]|(i,x)::l=>(i,nbV x)::nbE l
def nbS (s:S):S:={s with env:=nbE s.env}
theorem q4b {Γ:G} {x:V} {v:Value} (h:AI Γ x v):AI Γ (nbV x) v:=by cases x <;> (try exact h);rename_i τ c;cases τ <;> (try exact h);obtain⟨_,e⟩:=GK h;rw[e]at h;exact h
theorem pX:∀(l:List (Nat × V)) (i:Nat),look (nbE l) i=(look l i).map nbV
 | [],_=>rfl|(j,x)::l,i=>by simp only[nbE,look];by_cases e:j=i;{rw[if_pos e,if_pos e];rfl};{rw[if_neg e,if_neg e];exact pX l i}
theorem qW (s:S):WkA s (nbS s):=by
 refine⟨rfl,fun X n A' _=>?_⟩;rintro Γ0 a w ⟨Γ,g1,g3,c,hs,hn,hf,hA⟩;refine⟨Γ,g1,g3,c.env _,fun i=>?_,hn,hf,hA⟩;have:=hs i;have e:((nbS s).wA A').get i=nbV ((s.wA A').get i):=by show(look (nbE s.env) i).getD .any=nbV ((look s.env i).getD .any);rw[pX];cases look s.env i <;> rfl
 rw[e];exact q4b this
def HM (sh:SSh) (A:Key->Option O) (ds:List C) (ms:List Es):S:=nbS (KA sh A ds ms)
theorem Qk {R:Type} {r:R} {sh:SSh} {s:S} {K:List C->List Es->Option R} (h:JR sh s K=some r):∃ds ms,K ds ms=some r/\WkA s (HM sh s.A ds ms):=by
 have key:∃ds ms,K ds ms=some r/\WkA s (KA sh s.A ds ms):=by rw[Y3]at h;obtain⟨ds,ms,h1,h2⟩:=Y4 h;have h3:=((((q1l sh s).trans (q85 sh _)).trans (q46 sh _)).trans (UI sh.loc _)).trans (Ni sh.env _);refine⟨ds,ms,h1,rfl,fun X n A' hA=>?_⟩;have:=(h3.2 X n A' hA).trans (h2 X n A' (by rw[h3.1];exact hA));exact this
 obtain⟨ds,ms,h1,h2⟩:=key;exact⟨ds,ms,h1,h2.trans (qW _)⟩
def Rx (j:Nat):List Nat->List Nat
 | []=>[]|i::l=>if i=j then Rx j l else i::Rx j l
def fxS (t j:Nat) (s:S):S:=⟨Fh s (Rx t (slotsOf s.env)),Gx s.loc (Rx j (GW s.loc)) s.loc,s.A,ED s (Gi s.tk)⟩
def fxB (t j:Nat) (s:S):Bool:=
 Kv (fxS t j s).loc&&Fu (Cd (fxS t j s).loc) (DQ (fxS t j s).tk) (fxS t j s).loc&&Ik (fxS t j s).loc s.loc&&JM (Cd (fxS t j s).loc) (DQ (fxS t j s).tk) (fxS t j s).env&& !(Cd (fxS t j s).loc j)
def Yc (t:Nat) (s:S):S:=
 match s.get t with
 | .ptr (.l j) [] τ=>(match s.obj (.l j)with|some (.box x)=>(match Cm x with|some cc=>if x.ty=τ/\fxB t j s=true then(fxS t j s).set (some t) (.yg τ cc)else s|none=>s)|_=>s)|_=>s
def Xk (t:Nat) (s:S):S:=
 match s.get t with
 | .ptr k [] _=>(match s.obj k with|some (.box x)=>(match x with| .d _ _=>s|x=>(match Cm x with|some c=>s.put k (.box (.d x.ty c))|none=>s))|_=>s)|_=>s
theorem Z7 (t:Nat) (s:S):WkA s (Xk t s):=by
 unfold Xk;split
 ·split
  ·rename_i x hx;split;{exact WkA.refl s}
   ·split
    ·rename_i c hc;refine⟨rfl,fun X n A' hA Γ0 a w hat=>?_⟩;obtain⟨Γ,g1,g3,cc,hs,hn,hf,ze⟩:=hat;have hin:V.BW x (.d x.ty c):=by cases x <;> first|exact⟨hc,rfl⟩|(simp[Cm]at hc)
     refine⟨Γ,g1,g3,cc.cR (Dv hA hx) (fun yq=>?_) (fun hv=>?_),hs,hn,hf,ze⟩;{obtain⟨b,cells,T,h1,h2,h3,h4,h5,h6,h7,h8⟩:=yq;exact⟨b,cells,T,h1,h2,h3,h4,h5,by have:=(AA.BW _ _ hin h6).1;simp only[AA]at this ⊢;exact this,rfl,rfl⟩};{obtain⟨e,rfl⟩:=hv;simp only[Cm,Option.some.injEq]at hc;subst hc;exact⟨e,rfl⟩}
    ·exact WkA.refl s
  ·exact WkA.refl s
 ·exact WkA.refl s
def ZR (t:Nat) (s:S):S:=
 match s.get t with
 | .sr (.l j) [] lo n _ eb e=>(match s.obj (.l j)with|some (.box (.d (.arr M e') cc))=>if e'=e then({s with loc:=(.l j,.dead (.arr M e))::s.loc}:S).set (some t) (.d (.slice eb e) (.slice ((cc.elems.drop lo).take n)))else s|_=>s)|_=>s
theorem q2T (t:Nat) (s:S):WkA s (ZR t s):=by
 unfold ZR;split;{rename_i j lo n cp eb e hs;split;{rename_i M e' cc ho;split;{rename_i he;subst he;refine⟨rfl,fun X n' A' hA Γ0 a w hat=>?_⟩;obtain⟨Γ,g1,g3,c,hsl,hn,hf,ze⟩:=hat;obtain⟨Γ',gle,p,c',h⟩:=c.oY (show(s.wA A').obj (.l j)=some (.box (.d (.arr M _) cc)) from ho);have yt:=hsl t;rw[show(s.wA A').get t=_ from hs]at yt;have hv:=h yt;refine⟨Γ',g1.trans gle,gle.gl.trans g3,Qm (s:=(({s with loc:=(.l j,.dead (.arr M _))::s.loc}:S).wA A')) c' (some t) _,fun i=>?_,hn,hf,ze⟩;rw[show((({s with loc:=(.l j,.dead (.arr M _))::s.loc}:S).set (some t) (.d (.slice eb _) (.slice ((cc.elems.drop lo).take n)))).wA A').get i=(({s with loc:=(.l j,.dead (.arr M _))::s.loc}:S).set (some t) (.d (.slice eb _) (.slice ((cc.elems.drop lo).take n)))).get i from rfl,KC];split;{rename_i hi;cases hi;exact hv};{exact(hsl i).Bn p}};{exact WkA.refl s}};{exact WkA.refl s}};{exact WkA.refl s}
def Ov:List (Nat × Nat)->S->S
 | [],s=>s|(t,m)::l,s=>Ov l (if m=6 then Yc t s else if m=16 then Xk t s else if m=17 then ZR (t-1000000) s else s)
theorem q1d (t:Nat) (s:S):WkA s (Yc t s):=by
 unfold Yc;split
 ·rename_i j τ hs;split
  ·rename_i x hx;split
   ·rename_i cc hcc;split
    ·rename_i h;obtain⟨hτ,h⟩:=h;simp only[fxB,bg,Bool.not_eq_true']at h;obtain⟨⟨⟨⟨h1,h2⟩,h3⟩,h4⟩,h5⟩:=h;refine⟨rfl,fun X n A' hA=>?_⟩;have zm:∀l,Fh (s.wA A') l=Fh s l:=by
      intro l
      induction l with
      |nil=>rfl|cons i l ih=>simp only[Fh,ih];rfl
     have htk:∀l,ED (s.wA A') l=ED s l:=by
      intro l
      induction l with
      |nil=>rfl|cons i l ih=>simp only[ED,ih];rfl
     exact q9c (s:=s.wA A') (s':=(fxS t j s).wA A') hs (Dv hA hx) hcc hτ h5 rfl (LU (s:=s.wA A') _ h1) h2 (Nz h3)
      (by show tkW (s.wA A') (ED s (Gi s.tk));rw[<-htk];exact Wn)
      (by
       have h4':JM (Cd (fxS t j s).loc) (DQ (fxS t j s).tk) (Fh (s.wA A') (Rx t (slotsOf s.env)))=true:=by rw[zm];exact h4
       have:=YO h4';rw[zm]at this;exact this)
    ·exact WkA.refl s
   ·exact WkA.refl s
  ·exact WkA.refl s
 ·exact WkA.refl s
theorem RQ:∀(l:List (Nat × Nat)) (s:S),WkA s (Ov l s)
 | [],s=>WkA.refl s|(t,m)::l,s=>by simp only[Ov];split;{exact(q1d t s).trans (RQ l _)};{split;{exact(Z7 t s).trans (RQ l _)};{split;{exact(q2T _ s).trans (RQ l _)};{exact RQ l s}}}
end Go.E
