/-
 A framework for runs of Go code over abstract data: what it needs, and that it is sound, part 7.
 Conditions: none.
-/
import Derived.Test.YtpemdagggddcfaaGreatDoorEf
set_option linter.all false
set_option maxRecDepth 100000
set_option maxHeartbeats 4000000
open Bool renaming and_eq_true->bz,true_and->pk
open Go.E.C renaming toInt->bp
open Go.E.RD renaming kind->nh
open Go.E.S renaming obj->jo
open Go.E.Ty renaming beq->uk,beq_iff->qd
open Go.E.V renaming oks->th
open List renaming all_eq_true->eh,find?_some->ql,getD_eq_getElem?_getD->du,isEmpty_iff->po,map_cons->ek,mem_append->ic,mem_cons->iu,mem_cons_of_mem->ep,mem_cons_self->fi,mem_of_find?_eq_some->qz
open Nat renaming add_assoc->fy,add_comm->py,add_zero->ir,beq->di,eq_of_beq_eq_true->fa,zero_add->cf
open Option renaming ite_none_right_eq_some->bt,ne_none_iff_exists'->qi
namespace Go.E
open Go
section
def Lk {R:Type} (X:Cx) (call:Dy R) (ext:Dm) (ops:Array Oper) (wy:List Nat) (tbl:List (Nat × Nat)):List Oper->S->(List (Nat × Nat)->S->Option R)->Option R
 | [],s,K=>K [] s|o::rest,s,K=>
  match o.guard with
  |none=>QD X call ext (Cj wy tbl o (Ae X.gl s) s) o s fun v s1=>Lk X call ext ops wy tbl rest ((s1.wA s.A).set o.dst v) fun ml s2=>K ((Ab o,Cj wy tbl o (Ae X.gl s) s)::ml) s2
  |some (j,want)=>QU ops s j want (fun s=>QD X call ext (Cj wy tbl o (Ae X.gl s) s) o s fun v s1=>Lk X call ext ops wy tbl rest ((s1.wA s.A).set o.dst v) fun ml s2=>K ((Ab o,Cj wy tbl o (Ae X.gl s) s)::ml) s2)
    (fun s=>Lk X call ext ops wy tbl rest (s.set o.dst (.tup [])) K)
theorem tW:∀(n:Nat) {loc:List (Key × O)} (ks:List Key),∀p∈JK n loc ks,AK loc p.1=some p.2
 |0,_,_,p,hp=>by simp[JK]at hp
 |n+1,loc,ks,p,hp=>by simp only[JK,List.mem_flatMap]at hp;obtain⟨k,h1,hp⟩:=hp;split at hp;{rename_i o ho;rcases iu.1 hp with rfl|hp;{exact ho};{split at hp;{exact tW n _ p hp};{simp at hp}}};{simp at hp}
def KC (base s:S) (xs:List V):S:=bif (V.GX xs).all (fun k=>(base.obj k).isSome)then base else base.see s xs
theorem Vk (base s:S) (xs:List V):KC base s xs=base\/KC base s xs=base.see s xs:=by unfold KC;cases(V.GX xs).all _;{exact .inr rfl};{exact .inl rfl}
theorem Vj (base s:S) (xs:List V):(KC base s xs).A=base.A:=by rcases Vk base s xs with h|h <;> rw[h] <;> rfl
theorem vO {base s:S} {xs:List V} (hb:∀k o,base.obj k=some o->s.obj k=some o) (k:Key) (o:O) (h:(KC base s xs).obj k=some o):s.obj k=some o:=by
 rcases Vk base s xs with e|e <;> rw[e]at h;{exact hb k o h}
 ·unfold jo S.see CY at h;simp only[Kl]at h;cases hl:AK (JK 3 s.loc (V.GX xs)) k with
  |some o'=>
   rw[hl]at h;cases h;exact oU (tW 3 _ (k,o) (ZK hl))
  |none=>
   rw[hl]at h;exact hb k o h
def ekK {R:Type} (X:Cx) (call:Dy R) (ext:Dm) (m:Nat) (o:Oper) (base s:S) (K:RD->Option R):Option R:=
 if Yc o=true then
  (match QH ext o (Ae X.gl s)with
  |some r=>(match r with|some v=>K (.k0 v)|none=>none)
  |none=>if di m 8=true then TY X call o (Ae X.gl s) s (fun v=>K (.k1 v [] []))else if di m 7=true then Je X call false o (Ae X.gl s) s00 fun v L=>if Kq L (v.tkR 2000)=true then K (.k0 ((v.Cw 2000).ren (dn (Ab o)) (rk (Ab o))))else none else(match m with
   |0=>Je X call false o (Ae X.gl s) (KC base s (Ej o (Ae X.gl s))) fun v L=>if Gu L=true then(if Ev s (dnL (Ab o) L)=true/\Kb s (dnT (Ab o) (v.tkR 2000))=true then K (.k1 ((v.Cw 2000).ren (dn (Ab o)) (rk (Ab o))) (dnL (Ab o) L) (dnT (Ab o) (v.tkR 2000)))else none)
      else if Gl s (Ab o) L=true/\Ii s (Ab o) (v.tkR 2000)=true then K (.k2 ((v.Cw 2000).ren (dn (Ab o)) (rk (Ab o))) (s.ret false (Ej o (Ae X.gl s)) (Ab o) v L))else none
   |m=>Je X call (m==1) o (Ae X.gl s) s fun v L=>if Gl s (Ab o) L=true/\Ii s (Ab o) (v.tkR 2000)=true then K (.k2 ((v.Cw 2000).ren (dn (Ab o)) (rk (Ab o))) (s.Vc (m==1) (Ej o (Ae X.gl s)) (Ab o) v L))else none))
 else if nA m o (Ae X.gl s)=true then ekT X m (Ab o) o (Ae X.gl s) s fun v s1=>K (.k2 v s1)
 else if mV o (Ae X.gl s)=true then TW X o (Ae X.gl s) (fun v=>K (.k0 v)) (ekI X m (Ab o) o (Ae X.gl s) s00 fun v lo tn=>if Kq lo tn=true then K (.k0 v)else none)
 else if(q1J o (Ae X.gl s)&& !(di m 4||di m 20))=true then ekI X m (Ab o) o (Ae X.gl s) s00 fun v lo tn=>if Kq lo tn=true then K (.k0 v)else none
 else ekI X m (Ab o) o (Ae X.gl s) s fun v lo tn=>if Ev s lo=true/\Kb s tn=true then K (.k1 v lo tn)else none
def Gi {R:Type} (X:Cx) (call:Dy R) (ext:Dm) (ops:Array Oper) (wy:List Nat) (tbl:List (Nat × Nat)):List Oper->S->S->(List (Nat × Nat)->List Nat->S->Option R)->Option R
 | [],_,s,K=>K [] [] s|o::rest,base,s,K=>
  match o.guard with
  |none=>ekK X call ext (Cj wy tbl o (Ae X.gl s) s) o base s fun r=>match r with| .k0 v=>Gi X call ext ops wy tbl rest base (s.set o.dst v) fun ml ts s2=>K ((Ab o,Cj wy tbl o (Ae X.gl s) s)::ml) (0::ts) s2| .k1 v lo tn=>Gi X call ext ops wy tbl rest base ((s.add lo tn).set o.dst v) fun ml ts s2=>K ((Ab o,Cj wy tbl o (Ae X.gl s) s)::ml) (1::ts) s2| .k2 v s1=>Gi X call ext ops wy tbl rest ((s1.wA s.A).set o.dst v) ((s1.wA s.A).set o.dst v) fun ml ts s2=>K ((Ab o,Cj wy tbl o (Ae X.gl s) s)::ml) (2::ts) s2
  |some (j,want)=>QU ops s j want (fun s=>ekK X call ext (Cj wy tbl o (Ae X.gl s) s) o base s fun r=>match r with
    | .k0 v=>Gi X call ext ops wy tbl rest base (s.set o.dst v) fun ml ts s2=>K ((Ab o,Cj wy tbl o (Ae X.gl s) s)::ml) (0::ts) s2| .k1 v lo tn=>Gi X call ext ops wy tbl rest base ((s.add lo tn).set o.dst v) fun ml ts s2=>K ((Ab o,Cj wy tbl o (Ae X.gl s) s)::ml) (1::ts) s2| .k2 v s1=>Gi X call ext ops wy tbl rest ((s1.wA s.A).set o.dst v) ((s1.wA s.A).set o.dst v) fun ml ts s2=>K ((Ab o,Cj wy tbl o (Ae X.gl s) s)::ml) (2::ts) s2)
    (fun s=>Gi X call ext ops wy tbl rest base (s.set o.dst (.tup [])) fun ml ts s2=>K ml (0::ts) s2)
section
variable {X:Cx} {R:Type} {call:Dy R} {ext:Dm} (hc:Ik X call) (he:IA X ext)
include hc he
theorem Xi {ops:Array Oper} {wy:List Nat} {tbl:List (Nat × Nat)} {r:R}:∀(l:List Oper) (s:S) {K:List (Nat × Nat)->S->Option R},Lk X call ext ops wy tbl l s K=some r->
  ∃ml s2,K ml s2=some r/\s2.A=s.A/\∀A',leA s.A A'->∀md:List (Nat × Nat),(∀p∈ml,CN md p.1=p.2)->∀Φ:S->Prop,Φ (s2.wA A')->vc X md ops Φ l (s.wA A')
 | [],s,K,h=>⟨_,_,h,rfl,fun A' hA md hm Φ hΦ=>hΦ⟩|o::rest,s,K,h=>by
  have go:(QD X call ext (Cj wy tbl o (Ae X.gl s) s) o s fun v s1=>Lk X call ext ops wy tbl rest ((s1.wA s.A).set o.dst v) fun ml s2=>K ((Ab o,Cj wy tbl o (Ae X.gl s) s)::ml) s2)=some r->
    ∃ml s2,K ml s2=some r/\s2.A=s.A/\∀A',leA s.A A'->∀md:List (Nat × Nat),(∀p∈ml,CN md p.1=p.2)->∀Φ:S->Prop,Φ (s2.wA A')->sop X md (Ab o) o (s.wA A') fun v s'=>vc X md ops Φ rest (s'.set o.dst v):=by
   intro h;obtain⟨v,s1,h1,h2⟩:=q0A hc he h;obtain⟨ml,s2,h3,h4,h5⟩:=Xi rest _ h1;refine⟨_,s2,h3,by rw[h4,DB];rfl,fun A' hA md hm Φ hΦ=>h2 A' hA md (hm (Ab o,_) (fi ..)) _ ?_⟩;have:=h5 A' (by rw[DB];exact hA) md (fun p hp=>hm p (ep _ hp)) Φ hΦ;rw[<-Ig]at this;exact this
  simp only[Lk]at h;simp only[vc];cases hg:o.guard with
  |none=>
   rw[hg]at h;exact go h
  |some jw=>
   obtain⟨j,want⟩:=jw;rw[hg]at h;dsimp only at h ⊢;simp only[YW];rcases YR h with⟨h1,h2⟩|⟨h1,h2⟩;{obtain⟨ml,s2,h3,h4,h5⟩:=go h1;exact⟨ml,s2,h3,h4,fun A' hA md hm Φ hΦ=>h2 _ _ (h5 A' hA md hm Φ hΦ)⟩};{obtain⟨ml,s2,h3,h4,h5⟩:=Xi rest _ h1;refine⟨ml,s2,h3,by rw[h4,DB],fun A' hA md hm Φ hΦ=>h2 _ _ ?_⟩;rw[Ig];exact h5 A' (by rw[DB];exact hA) md hm Φ hΦ}
theorem jJ {m:Nat} {o:Oper} {base s:S} (hb:∀k o,base.obj k=some o->s.obj k=some o) (hAb:base.A=s.A) {Kr:RD->Option R} {r:R} (h:ekK X call ext m o base s Kr=some r):
  ∃rd,Kr rd=some r/\(∀v lo tn,rd= .k1 v lo tn->Ev s lo=true)/\∀A',leA s.A A'->∀md:List (Nat × Nat),CN md (Ab o)=m->∀(K0:V->Prop) (K1:V->List (Key × O)->List (Nat × Option Nat)->Prop) (K2:V->S->Prop),RD.post s A' K0 K1 K2 rd->kop X md (some rd.kind) (base.wA A') (s.wA A') o K0 K1 K2:=by
 have zw:∀A',leA s.A A'->leA base.A A':=fun A' hA=>by rw[hAb];exact hA
 unfold ekK at h;split at h
 ·split at h;{rename_i x e0;split at h;{refine⟨_,h,fun _ _ _ e=>(by cases e),fun A' hA md hm K0 K1 K2 hK=>?_⟩;simp only[kop,nh];rw[Ep];exact .inl (kT he e0 ⟨rfl,rfl,hK⟩)};{cases h}}
  ·split at h;{obtain⟨v,h1,h2⟩:=jR hc h;refine⟨_,h1,fun v' lo' tn' e=>(by cases e;rfl),fun A' hA md hm K0 K1 K2 hK=>?_⟩;simp only[kop,nh];rw[Ep];exact h2 A' hA md _ _ _ (hK trivial trivial rfl)};split at h;{obtain⟨v,L,h1,h2⟩:=Xh (dst:=Ab o) (s:=s00) (base:=s00) hc (.inl rfl) h;simp only[bt]at h1;obtain⟨h3,h1⟩:=h1;simp only[Kq,bz,po]at h3;refine⟨_,h1,fun _ _ _ e=>(by cases e),fun A' hA md hm K0 K1 K2 hK=>?_⟩;simp only[kop,nh];rw[Ep];have:=(h2 s00.A (fun _ _ h=>h) md fun v lo tn=>lo=[]/\tn=[]/\K0 v).1 (by rw[h3.1];rfl) ⟨by rw[h3.1];rfl,by rw[h3.2];rfl,hK⟩;exact .inl this};split at h
   ·obtain⟨v,L,h1,h2⟩:∃v L,(if Gu L=true then(if Ev s (dnL (Ab o) L)=true/\Kb s (dnT (Ab o) (v.tkR 2000))=true then Kr (.k1 ((v.Cw 2000).ren (dn (Ab o)) (rk (Ab o))) (dnL (Ab o) L) (dnT (Ab o) (v.tkR 2000)))else none)
      else if Gl s (Ab o) L=true/\Ii s (Ab o) (v.tkR 2000)=true then Kr (.k2 ((v.Cw 2000).ren (dn (Ab o)) (rk (Ab o))) (s.ret false (Ej o (Ae X.gl s)) (Ab o) v L))else none)=some r/\∀A',leA (KC base s (Ej o (Ae X.gl s))).A A'->∀(md:List (Nat × Nat)) (K:V->List (Key × O)->List (Nat × Option Nat)->Prop),(Gu L=true->K ((v.Cw 2000).ren (dn (Ab o)) (rk (Ab o))) (dnL (Ab o) L) (dnT (Ab o) (v.tkR 2000))->iop X md (base.wA A') (Ab o) o (Ae X.gl s) (s.wA A') K)/\
   (CN md (Ab o)=0->(∀k o',(KC base s (Ej o (Ae X.gl s))).obj k=some o'->s.obj k=some o')->leA s.A A'->Gl s (Ab o) L=true->Ii s (Ab o) (v.tkR 2000)=true->∀K2:V->S->Prop,K2 ((v.Cw 2000).ren (dn (Ab o)) (rk (Ab o))) ((s.ret false (Ej o (Ae X.gl s)) (Ab o) v L).wA A')->top X md (Ab o) o (Ae X.gl s) (s.wA A') K2):=
     Xh hc (Vk base s _) h
    split at h1;{rename_i hl;simp only[bt]at h1;obtain⟨h3,h1⟩:=h1;refine⟨_,h1,fun v' lo' tn' e=>(by cases e;exact h3.1),fun A' hA md hm K0 K1 K2 hK=>?_⟩;simp only[kop,nh];rw[Ep];exact(h2 A' (by rw[Vj];exact zw A' hA) md K1).1 hl (hK (QS h3.1) (QT h3.2) h3.1)};{simp only[bt]at h1;obtain⟨h3,h1⟩:=h1;refine⟨_,h1,fun _ _ _ e=>(by cases e),fun A' hA md hm K0 K1 K2 hK=>?_⟩;simp only[kop,nh];rw[Ep];exact(h2 A' (by rw[Vj];exact zw A' hA) md (fun _ _ _=>True)).2 hm (vO hb) hA h3.1 h3.2 K2 hK}
   ·obtain⟨v,L,h1,hq,h2⟩:=jH (dst:=Ab o) hc h;rw[hq]at h1;simp only[bt]at h1;obtain⟨h3,h1⟩:=h1;refine⟨_,h1,fun _ _ _ e=>(by cases e),fun A' hA md hm K0 K1 K2 hK=>?_⟩;simp only[kop,nh];rw[Ep];exact h2 h3.1 h3.2 A' hA md (by rw[hm]) K2 hK
 ·split at h;{obtain⟨v,s1,h1,h2⟩:=Xm h;refine⟨_,h1,fun _ _ _ e=>(by cases e),fun A' hA md hm K0 K1 K2 hK=>?_⟩;simp only[kop,nh];rw[Ep];exact h2 A' hA md hm K2 hK}
  ·have z3F:(ekI X m (Ab o) o (Ae X.gl s) s00 fun v lo tn=>if Kq lo tn=true then Kr (.k0 v)else none)=some r->
     ∃rd,Kr rd=some r/\(∀v lo tn,rd= .k1 v lo tn->Ev s lo=true)/\∀A',leA s.A A'->∀md:List (Nat × Nat),CN md (Ab o)=m->∀(K0:V->Prop) (K1:V->List (Key × O)->List (Nat × Option Nat)->Prop) (K2:V->S->Prop),RD.post s A' K0 K1 K2 rd->kop X md (some rd.kind) (base.wA A') (s.wA A') o K0 K1 K2:=by
    intro h;obtain⟨v,lo,tn,h1,h2⟩:=TX h;simp only[bt]at h1;obtain⟨h3,h1⟩:=h1;refine⟨_,h1,fun _ _ _ e=>(by cases e),fun A' hA md hm K0 K1 K2 hK=>?_⟩;simp only[kop,nh];rw[Ep];simp only[Kq,bz,po]at h3;exact .inl (h2 s00.A (fun _ _ h=>h) md s00 hm _ ⟨h3.1,h3.2,hK⟩)
   split at h;{rcases jI h with⟨v,h1,h2⟩|h;{refine⟨_,h1,fun _ _ _ e=>(by cases e),fun A' hA md hm K0 K1 K2 hK=>?_⟩;simp only[kop,nh];rw[Ep];exact .inr (h2 _ hK)};{exact z3F h}};split at h;{exact z3F h};{obtain⟨v,lo,tn,h1,h2⟩:=TX h;simp only[bt]at h1;obtain⟨h3,h1⟩:=h1;refine⟨_,h1,fun v' lo' tn' e=>(by cases e;exact h3.1),fun A' hA md hm K0 K1 K2 hK=>?_⟩;simp only[kop,nh];rw[Ep];exact h2 A' hA md _ hm _ (hK (QS h3.1) (QT h3.2) h3.1)}
theorem QE {ops:Array Oper} {wy:List Nat} {tbl:List (Nat × Nat)} {r:R}:∀(l:List Oper) (base s:S) {K:List (Nat × Nat)->List Nat->S->Option R},base.A=s.A->(∀k o,base.obj k=some o->s.obj k=some o)->Gi X call ext ops wy tbl l base s K=some r->
  ∃ml ts s2,K ml ts s2=some r/\s2.A=s.A/\∀A',leA s.A A'->∀md:List (Nat × Nat),(∀p∈ml,CN md p.1=p.2)->∀Φ:S->Prop,Φ (s2.wA A')->vd X md ops Φ l ts (base.wA A') (s.wA A')
 | [],base,s,K,hAb,hb,h=>⟨_,_,_,h,rfl,fun A' hA md hm Φ hΦ=>hΦ⟩|o::rest,base,s,K,hAb,hb,h=>by
  have go:(ekK X call ext (Cj wy tbl o (Ae X.gl s) s) o base s fun r=>match r with
    | .k0 v=>Gi X call ext ops wy tbl rest base (s.set o.dst v) fun ml ts s2=>K ((Ab o,Cj wy tbl o (Ae X.gl s) s)::ml) (0::ts) s2| .k1 v lo tn=>Gi X call ext ops wy tbl rest base ((s.add lo tn).set o.dst v) fun ml ts s2=>K ((Ab o,Cj wy tbl o (Ae X.gl s) s)::ml) (1::ts) s2| .k2 v s1=>Gi X call ext ops wy tbl rest ((s1.wA s.A).set o.dst v) ((s1.wA s.A).set o.dst v) fun ml ts s2=>K ((Ab o,Cj wy tbl o (Ae X.gl s) s)::ml) (2::ts) s2)=some r->
    ∃ml ts s2,K ml ts s2=some r/\s2.A=s.A/\∀A',leA s.A A'->∀md:List (Nat × Nat),(∀p∈ml,CN md p.1=p.2)->∀Φ:S->Prop,Φ (s2.wA A')->kop X md ts.head? (base.wA A') (s.wA A') o (fun v=>vd X md ops Φ rest ts.tail (base.wA A') ((s.wA A').set o.dst v))
    (fun v lo tn=>FH (s.wA A') lo/\FI (s.wA A') tn/\vd X md ops Φ rest ts.tail (base.wA A') (((s.wA A').add lo tn).set o.dst v))
    (fun v s'=>vd X md ops Φ rest ts.tail (s'.set o.dst v) (s'.set o.dst v)):=by
   intro h;obtain⟨rd,h1,hf,h2⟩:=jJ hc he hb hAb h;cases rd with
   |k0 v=>
    obtain⟨ml,ts,s2,h3,h4,h5⟩:=QE rest base _ (by rw[DB];exact hAb) (fun k o' hk=>by rw[Hl];exact hb k o' hk) h1;refine⟨_,_,s2,h3,by rw[h4,DB],fun A' hA md hm Φ hΦ=>h2 A' hA md (hm (Ab o,_) (fi ..)) _ _ _ ?_⟩;have:=h5 A' (by rw[DB];exact hA) md (fun p hp=>hm p (ep _ hp)) Φ hΦ;rw[<-Ig]at this;exact this
   |k1 v lo tn=>
    have hfr:=hf v lo tn rfl;obtain⟨ml,ts,s2,h3,h4,h5⟩:=QE rest base _ (by rw[DB];exact hAb) (fun k o' hk=>by rw[Hl];exact Zv hfr (hb k o' hk)) h1;refine⟨_,_,s2,h3,by rw[h4,DB];rfl,fun A' hA md hm Φ hΦ=>h2 A' hA md (hm (Ab o,_) (fi ..)) _ _ _ ?_⟩;intro f1 f2 f3;refine⟨f1,f2,?_⟩;have:=h5 A' (by rw[DB];exact hA) md (fun p hp=>hm p (ep _ hp)) Φ hΦ;rw[<-Ig]at this;exact this
   |k2 v s1=>
    obtain⟨ml,ts,s2,h3,h4,h5⟩:=QE rest ((s1.wA s.A).set o.dst v) ((s1.wA s.A).set o.dst v) rfl (fun _ _ h=>h) h1;refine⟨_,_,s2,h3,by rw[h4,DB];rfl,fun A' hA md hm Φ hΦ=>h2 A' hA md (hm (Ab o,_) (fi ..)) _ _ _ ?_⟩;have:=h5 A' (by rw[DB];exact hA) md (fun p hp=>hm p (ep _ hp)) Φ hΦ;rw[<-Ig]at this;exact this
  simp only[Gi]at h;simp only[vd];cases hg:o.guard with
  |none=>
   rw[hg]at h;exact go h
  |some jw=>
   obtain⟨j,want⟩:=jw;rw[hg]at h;dsimp only at h ⊢;simp only[YW];rcases YR h with⟨h1,h2⟩|⟨h1,h2⟩;{obtain⟨ml,ts,s2,h3,h4,h5⟩:=go h1;exact⟨ml,ts,s2,h3,h4,fun A' hA md hm Φ hΦ=>h2 _ _ (h5 A' hA md hm Φ hΦ)⟩};{obtain⟨ml,ts,s2,h3,h4,h5⟩:=QE rest base _ (by rw[DB];exact hAb) (fun k o' hk=>by rw[Hl];exact hb k o' hk) h1;refine⟨ml,_,s2,h3,by rw[h4,DB],fun A' hA md hm Φ hΦ=>h2 _ _ ?_⟩;rw[Ig];exact h5 A' (by rw[DB];exact hA) md hm Φ hΦ}
end
end
section
theorem nD:∀(σ:List (Nat × List Nat)) (s:S) (k:Key),(EH σ s).obj k=s.obj k
 | [],_,_=>rfl|(_,_)::σ,s,k=>(nD σ _ k).trans rfl
theorem q0F {R:Type} {X:Cx} {m dst:Nat} {o:Oper} {ρ:Operand->V} {s:S} {T:TypeId} {p y:Operand} {k:Key} {q:List Nat} {τ:Ty} (ho:o.op= .store T p y) (hp:ρ p= .ptr k q τ) {K:KS R} {r:R} (h:ekT X m dst o ρ s K=some r):
  ∃v s1,ekT X m dst o ρ s (fun v s1=>some (v,s1))=some (v,s1)/\K v s1=some r/\∀A' j,j≠k->(s1.wA A').obj j=(s.wA A').obj j:=by
 unfold ekT at h ⊢;generalize o.op=op at ho h ⊢;subst ho;dsimp only at h ⊢;generalize ρ p=pv at hp h ⊢;subst hp;dsimp only at h ⊢;have xc:∀(ob:O) (A':Key->Option O) (j:Key),j≠k->((s.put k ob).wA A').obj j=(s.wA A').obj j:=fun ob A' j hj=>by show((s.wA A').put k ob).obj j=_;rw[Db,if_neg (fun e=>hj e.symm)]
 have z4f:∀(ob:O) (t:Nat) (A':Key->Option O) (j:Key),j≠k->(((s.put k ob).tok t none).wA A').obj j=(s.wA A').obj j:=fun ob t A' j hj=>(xc ob A' j hj);generalize s.obj k=ok at h ⊢;cases ok with
 |none=>cases h
 |some ob=>
  cases ob with
  |box x=>
   dsimp only at h ⊢;simp only[bt]at h;obtain⟨h1,h⟩:=h;rw[if_pos h1];generalize CL τ (ρ y)=z at h ⊢;cases z with
   |sl eb e cs t=>
    dsimp only at h ⊢;generalize Kj s t cs.length=lv at h ⊢;cases lv with
    |none=>exact⟨_,_,rfl,h,fun A' j hj=>xc _ A' j hj⟩|some b=>
     cases b;{cases h};{exact⟨_,_,rfl,h,fun A' j hj=>z4f _ _ A' j hj⟩}
   |_=>
    dsimp only at h ⊢;generalize V.GV _ _=nb at h ⊢;cases nb;{cases h};{exact⟨_,_,rfl,h,fun A' j hj=>by rw[<-UF];exact(nD _ _ _).trans (xc _ A' j hj)⟩}
  |_=>cases h
inductive RF where
 |k0 (v:V)|k1 (v:V) (lo:List (Key × O)) (tn:List (Nat × Option Nat))|k3 (v:V) (s:S)|k4 (v:V)
def RF.kind:RF->Nat
 | .k0 _=>0| .k1 _ _ _=>1| .k3 _ _=>3| .k4 _=>4
def RF.post (s:S) (A':Key->Option O) (K0:V->Prop) (K1:V->List (Key × O)->List (Nat × Option Nat)->Prop) (K2:V->S->Prop):RF->Prop
 | .k0 v=>K0 v| .k1 v lo tn=>FH (s.wA A') lo->FI (s.wA A') tn->Ev s lo=true->K1 v lo tn| .k3 v s1=>K2 v (s1.wA A')| .k4 v=>K0 v
def sE (F:List Key) (L:List (Key × O)):Bool:=F.all fun k=>(AK L k).isNone
def noF (F:List Key) (k:Key):Bool:=F.all fun j=>decide (j≠k)
def wH (o:Oper) (ρ:Operand->V):Option Key:=match o.op with| .store _ p _=>(match ρ p with| .ptr k _ _=>some k|_=>none)|_=>none
def Pw {R:Type} (X:Cx) (call:Dy R) (ext:Dm) (F:List Key) (m:Nat) (o:Oper) (base s:S) (K:RF->Option R):Option R:=
 if di m 19=true then ekI X m (Ab o) o (Ae X.gl s) (sF F s) fun v lo tn=>if Kq lo tn=true then K (.k4 v)else none
 else match wH o (Ae X.gl s)with
 |some k=>if noF F k=true then ekT X m (Ab o) o (Ae X.gl s) s fun v s1=>K (.k3 v s1)else none
 |none=>if Yc o=true/\di m 0=true/\(QH ext o (Ae X.gl s)).isNone=true then
    Je X call false o (Ae X.gl s) (KC base s (Ej o (Ae X.gl s))) fun v L=>if Gu L=true then(if Ev s (dnL (Ab o) L)=true/\Kb s (dnT (Ab o) (v.tkR 2000))=true then K (.k1 ((v.Cw 2000).ren (dn (Ab o)) (rk (Ab o))) (dnL (Ab o) L) (dnT (Ab o) (v.tkR 2000)))else none)
      else if sE F (dnL (Ab o) L)=true/\Gl s (Ab o) L=true/\Ii s (Ab o) (v.tkR 2000)=true then K (.k3 ((v.Cw 2000).ren (dn (Ab o)) (rk (Ab o))) (s.ret false (Ej o (Ae X.gl s)) (Ab o) v L))else none
   else ekK X call ext m o base s fun r=>match r with| .k0 v=>K (.k0 v)| .k1 v lo tn=>K (.k1 v lo tn)| .k2 _ _=>none
theorem q5E {F:List Key} {s:S} {A':Key->Option O} (hF:∀k∈F,s.obj k≠none) (hA:leA s.A A'):sF F (s.wA A')=sF F s:=by
 have:∀(G:List Key),(∀k∈G,s.obj k≠none)->G.filterMap (fun k=>((s.wA A').obj k).map fun o=>(k,o))=G.filterMap fun k=>(s.obj k).map fun o=>(k,o):=by
  intro G
  induction G with
  |nil=>intro _;rfl|cons k G ih=>
   intro h;simp only[List.filterMap_cons];have hk:=h k (fi ..);cases ho:s.obj k with
   |none=>exact absurd ho hk|some ob=>
    rw[DT hA ho,ih fun j hj=>h j (ep _ hj)]
 unfold sF;rw[this F hF]
section
variable {X:Cx} {R:Type} {call:Dy R} {ext:Dm} (hc:Ik X call) (he:IA X ext)
include hc he
theorem q0n {F:List Key} {m:Nat} {o:Oper} {base s:S} (hb:∀k o,base.obj k=some o->s.obj k=some o) (hAb:base.A=s.A) (hF:∀k∈F,s.obj k≠none) {Kr:RF->Option R} {r:R} (h:Pw X call ext F m o base s Kr=some r):
  ∃rd,Kr rd=some r/\(∀v lo tn,rd= .k1 v lo tn->Ev s lo=true)/\(∀v s1,rd= .k3 v s1->∀A',∀k∈F,(s1.wA A').obj k=(s.wA A').obj k)/\
   ∀A',leA s.A A'->∀md:List (Nat × Nat),CN md (Ab o)=m->∀(K0:V->Prop) (K1:V->List (Key × O)->List (Nat × Option Nat)->Prop) (K2:V->S->Prop),RF.post s A' K0 K1 K2 rd->JA X F md (some rd.kind) (base.wA A') (s.wA A') o K0 K1 K2:=by
 have zw:∀A',leA s.A A'->leA base.A A':=fun A' hA=>by rw[hAb];exact hA
 unfold Pw at h;split at h;{obtain⟨v,lo,tn,h1,h2⟩:=TX h;simp only[bt]at h1;obtain⟨h3,h1⟩:=h1;refine⟨_,h1,fun _ _ _ e=>(by cases e),fun _ _ e=>(by cases e),fun A' hA md hm K0 K1 K2 hK=>?_⟩;simp only[Kq,bz,po]at h3;simp only[JA,RF.kind];rw[Ep,q5E hF hA];exact h2 (sF F s).A (fun _ _ h=>h) md (sF F s) hm _ ⟨h3.1,h3.2,hK⟩}
 ·split at h
  ·rename_i k hk;simp only[bt]at h;obtain⟨hn,h⟩:=h;have hn':∀j∈F,j≠k:=by simpa[noF]using hn
   unfold wH at hk;split at hk;{rename_i T p y ho;split at hk;{rename_i k' q τ hp;cases hk;obtain⟨v,s1,g1,g2,g3⟩:=q0F ho hp h;obtain⟨v',s1',e1,h2⟩:=Xm g1;cases e1;refine⟨_,g2,fun _ _ _ e=>(by cases e),fun _ _ e=>(by cases e;exact fun A' j hj=>g3 A' j (hn' j hj)),fun A' hA md hm K0 K1 K2 hK=>?_⟩;simp only[JA,RF.kind];rw[Ep];exact h2 A' hA md hm _ ⟨fun j hj=>g3 A' j (hn' j hj),hK⟩};{cases hk}};{cases hk}
  ·split at h
   ·rename_i hcl;obtain⟨v,L,h1,h2⟩:=Xh (dst:=Ab o) hc (Vk base s _) h;split at h1;{rename_i hl;simp only[bt]at h1;obtain⟨h3,h1⟩:=h1;refine⟨_,h1,fun v' lo' tn' e=>(by cases e;exact h3.1),fun _ _ e=>(by cases e),fun A' hA md hm K0 K1 K2 hK=>?_⟩;simp only[JA,kop,RF.kind];rw[Ep];exact(h2 A' (by rw[Vj];exact zw A' hA) md K1).1 hl (hK (QS h3.1) (QT h3.2) h3.1)}
    ·simp only[bt]at h1;obtain⟨⟨ho,h3⟩,h1⟩:=h1;have ho':∀k∈F,AK (dnL (Ab o) L) k=none:=by simpa[sE,Option.isNone_iff_eq_none]using ho
     have kp:∀A',∀k∈F,((s.ret false (Ej o (Ae X.gl s)) (Ab o) v L).wA A').obj k=(s.wA A').obj k:=fun A' k hk=>by rw[<-bQ,uT];unfold S.back jo CY;simp only[Kl,ho' k hk]
     refine⟨_,h1,fun _ _ _ e=>(by cases e),fun _ _ e=>(by cases e;exact kp),fun A' hA md hm K0 K1 K2 hK=>?_⟩;simp only[JA,RF.kind];rw[Ep];exact(h2 A' (by rw[Vj];exact zw A' hA) md (fun _ _ _=>True)).2 (hm.trans (fa hcl.2.1)) (vO hb) hA h3.1 h3.2 _ ⟨kp A',hK⟩
   ·obtain⟨rd,h1,hf,h2⟩:=jJ hc he hb hAb h;cases rd with|k0 v=>exact⟨_,h1,fun _ _ _ e=>(by cases e),fun _ _ e=>(by cases e),fun A' hA md hm K0 K1 K2 hK=>h2 A' hA md hm K0 K1 K2 hK⟩|k1 v lo tn=>exact⟨_,h1,fun _ _ _ e=>(by cases e;exact hf v lo tn rfl),fun _ _ e=>(by cases e),fun A' hA md hm K0 K1 K2 hK=>h2 A' hA md hm K0 K1 K2 hK⟩|k2 v s1=>cases h1
end
def FW {R:Type} (X:Cx) (call:Dy R) (ext:Dm) (F:List Key) (ops:Array Oper) (wy:List Nat) (tbl:List (Nat × Nat)):List Oper->S->S->(List (Nat × Nat)->List Nat->S->Option R)->Option R
 | [],_,s,K=>K [] [] s|o::rest,base,s,K=>
  match o.guard with
  |none=>Pw X call ext F (Cj wy tbl o (Ae X.gl s) s) o base s fun r=>match r with| .k0 v=>FW X call ext F ops wy tbl rest base (s.set o.dst v) fun ml ts s2=>K ((Ab o,Cj wy tbl o (Ae X.gl s) s)::ml) (0::ts) s2| .k1 v lo tn=>FW X call ext F ops wy tbl rest base ((s.add lo tn).set o.dst v) fun ml ts s2=>K ((Ab o,Cj wy tbl o (Ae X.gl s) s)::ml) (1::ts) s2| .k3 v s1=>FW X call ext F ops wy tbl rest ((s1.wA s.A).set o.dst v) ((s1.wA s.A).set o.dst v) fun ml ts s2=>K ((Ab o,Cj wy tbl o (Ae X.gl s) s)::ml) (3::ts) s2| .k4 v=>FW X call ext F ops wy tbl rest base (s.set o.dst v) fun ml ts s2=>K ((Ab o,Cj wy tbl o (Ae X.gl s) s)::ml) (4::ts) s2
  |some (j,want)=>QU ops s j want (fun s=>Pw X call ext F (Cj wy tbl o (Ae X.gl s) s) o base s fun r=>match r with
    | .k0 v=>FW X call ext F ops wy tbl rest base (s.set o.dst v) fun ml ts s2=>K ((Ab o,Cj wy tbl o (Ae X.gl s) s)::ml) (0::ts) s2| .k1 v lo tn=>FW X call ext F ops wy tbl rest base ((s.add lo tn).set o.dst v) fun ml ts s2=>K ((Ab o,Cj wy tbl o (Ae X.gl s) s)::ml) (1::ts) s2| .k3 v s1=>FW X call ext F ops wy tbl rest ((s1.wA s.A).set o.dst v) ((s1.wA s.A).set o.dst v) fun ml ts s2=>K ((Ab o,Cj wy tbl o (Ae X.gl s) s)::ml) (3::ts) s2| .k4 v=>FW X call ext F ops wy tbl rest base (s.set o.dst v) fun ml ts s2=>K ((Ab o,Cj wy tbl o (Ae X.gl s) s)::ml) (4::ts) s2)
    (fun s=>FW X call ext F ops wy tbl rest base (s.set o.dst (.tup [])) fun ml ts s2=>K ml (0::ts) s2)
section
variable {X:Cx} {R:Type} {call:Dy R} {ext:Dm} (hc:Ik X call) (he:IA X ext)
include hc he
theorem Ng {F:List Key} {ops:Array Oper} {wy:List Nat} {tbl:List (Nat × Nat)} {r:R}:∀(l:List Oper) (base s:S) {K:List (Nat × Nat)->List Nat->S->Option R},base.A=s.A->(∀k o,base.obj k=some o->s.obj k=some o)->(∀k∈F,s.obj k≠none)->FW X call ext F ops wy tbl l base s K=some r->
  ∃ml ts s2,K ml ts s2=some r/\s2.A=s.A/\∀A',leA s.A A'->∀md:List (Nat × Nat),(∀p∈ml,CN md p.1=p.2)->∀Φ:S->Prop,Φ (s2.wA A')->vdF X F md ops Φ l ts (base.wA A') (s.wA A')
 | [],base,s,K,hAb,hb,hF,h=>⟨_,_,_,h,rfl,fun A' hA md hm Φ hΦ=>hΦ⟩|o::rest,base,s,K,hAb,hb,hF,h=>by
  have go:(Pw X call ext F (Cj wy tbl o (Ae X.gl s) s) o base s fun r=>match r with
    | .k0 v=>FW X call ext F ops wy tbl rest base (s.set o.dst v) fun ml ts s2=>K ((Ab o,Cj wy tbl o (Ae X.gl s) s)::ml) (0::ts) s2| .k1 v lo tn=>FW X call ext F ops wy tbl rest base ((s.add lo tn).set o.dst v) fun ml ts s2=>K ((Ab o,Cj wy tbl o (Ae X.gl s) s)::ml) (1::ts) s2| .k3 v s1=>FW X call ext F ops wy tbl rest ((s1.wA s.A).set o.dst v) ((s1.wA s.A).set o.dst v) fun ml ts s2=>K ((Ab o,Cj wy tbl o (Ae X.gl s) s)::ml) (3::ts) s2| .k4 v=>FW X call ext F ops wy tbl rest base (s.set o.dst v) fun ml ts s2=>K ((Ab o,Cj wy tbl o (Ae X.gl s) s)::ml) (4::ts) s2)=some r->
    ∃ml ts s2,K ml ts s2=some r/\s2.A=s.A/\∀A',leA s.A A'->∀md:List (Nat × Nat),(∀p∈ml,CN md p.1=p.2)->∀Φ:S->Prop,Φ (s2.wA A')->JA X F md ts.head? (base.wA A') (s.wA A') o (fun v=>vdF X F md ops Φ rest ts.tail (base.wA A') ((s.wA A').set o.dst v))
    (fun v lo tn=>FH (s.wA A') lo/\FI (s.wA A') tn/\vdF X F md ops Φ rest ts.tail (base.wA A') (((s.wA A').add lo tn).set o.dst v))
    (fun v s'=>vdF X F md ops Φ rest ts.tail (s'.set o.dst v) (s'.set o.dst v)):=by
   intro h;obtain⟨rd,h1,hf,hk3,h2⟩:=q0n hc he hb hAb hF h;cases rd with
   |k0 v=>
    obtain⟨ml,ts,s2,h3,h4,h5⟩:=Ng rest base _ (by rw[DB];exact hAb) (fun k o' hk=>by rw[Hl];exact hb k o' hk) (fun k hk=>by rw[Hl];exact hF k hk) h1;refine⟨_,_,s2,h3,by rw[h4,DB],fun A' hA md hm Φ hΦ=>h2 A' hA md (hm (Ab o,_) (fi ..)) _ _ _ ?_⟩;have:=h5 A' (by rw[DB];exact hA) md (fun p hp=>hm p (ep _ hp)) Φ hΦ;rw[<-Ig]at this;exact this
   |k1 v lo tn=>
    have hfr:=hf v lo tn rfl
    obtain⟨ml,ts,s2,h3,h4,h5⟩:=Ng rest base _ (by rw[DB];exact hAb) (fun k o' hk=>by rw[Hl];exact Zv hfr (hb k o' hk)) (fun k hk=>by
     rw[Hl];cases ho:s.obj k with
     |none=>exact absurd ho (hF k hk)|some ob=>rw[Zv hfr ho];exact fun e=>by cases e) h1
    refine⟨_,_,s2,h3,by rw[h4,DB];rfl,fun A' hA md hm Φ hΦ=>h2 A' hA md (hm (Ab o,_) (fi ..)) _ _ _ ?_⟩;intro f1 f2 f3;refine⟨f1,f2,?_⟩;have:=h5 A' (by rw[DB];exact hA) md (fun p hp=>hm p (ep _ hp)) Φ hΦ;rw[<-Ig]at this;exact this
   |k3 v s1=>
    obtain⟨ml,ts,s2,h3,h4,h5⟩:=Ng rest ((s1.wA s.A).set o.dst v) ((s1.wA s.A).set o.dst v) rfl (fun _ _ h=>h) (fun k hk=>by
     rw[Hl,hk3 v s1 rfl s.A k hk];exact hF k hk) h1
    refine⟨_,_,s2,h3,by rw[h4,DB];rfl,fun A' hA md hm Φ hΦ=>h2 A' hA md (hm (Ab o,_) (fi ..)) _ _ _ ?_⟩;have:=h5 A' (by rw[DB];exact hA) md (fun p hp=>hm p (ep _ hp)) Φ hΦ;rw[<-Ig]at this;exact this
   |k4 v=>
    obtain⟨ml,ts,s2,h3,h4,h5⟩:=Ng rest base _ (by rw[DB];exact hAb) (fun k o' hk=>by rw[Hl];exact hb k o' hk) (fun k hk=>by rw[Hl];exact hF k hk) h1;refine⟨_,_,s2,h3,by rw[h4,DB],fun A' hA md hm Φ hΦ=>h2 A' hA md (hm (Ab o,_) (fi ..)) _ _ _ ?_⟩;have:=h5 A' (by rw[DB];exact hA) md (fun p hp=>hm p (ep _ hp)) Φ hΦ;rw[<-Ig]at this;exact this
  simp only[FW]at h;simp only[vdF];cases hg:o.guard with
  |none=>
   rw[hg]at h;exact go h
  |some jw=>
   obtain⟨j,want⟩:=jw;rw[hg]at h;dsimp only at h ⊢;simp only[YW];rcases YR h with⟨h1,h2⟩|⟨h1,h2⟩;{obtain⟨ml,ts,s2,h3,h4,h5⟩:=go h1;exact⟨ml,ts,s2,h3,h4,fun A' hA md hm Φ hΦ=>h2 _ _ (h5 A' hA md hm Φ hΦ)⟩};{obtain⟨ml,ts,s2,h3,h4,h5⟩:=Ng rest base _ (by rw[DB];exact hAb) (fun k o' hk=>by rw[Hl];exact hb k o' hk) (fun k hk=>by rw[Hl];exact hF k hk) h1;refine⟨ml,_,s2,h3,by rw[h4,DB],fun A' hA md hm Φ hΦ=>h2 _ _ ?_⟩;rw[Ig];exact h5 A' (by rw[DB];exact hA) md hm Φ hΦ}
end
end
section
def q1M (tbl:List (Nat × Nat)):List Key:=tbl.filterMap fun p=>bif di p.2 19 then(bif Nat.ble 3000000 p.1 then some (.g (.l (p.1-3000000)))else bif Nat.ble 2000000 p.1 then some (.l (p.1-2000000))else none)else none
def Xj {R:Type} (X:Cx) (call:Dy R) (ext:Dm) (tbl:List (Nat × Nat)) (n:Nat) (ops:List Oper) (draw:Bool) (s:S) (K:S->Option R):Option R:=
 if ops.all (Hm n)=true then
  (match draw with
  |true=>(match q1M tbl with| []=>Gi X call ext ops.toArray (Sq ops) tbl ops s s fun ml ts s2=>if OC ml ml=true/\OI ops ts=true then K s2 else none|k::F=>if(k::F).all (fun k=>(s.obj k).isSome)=true then FW X call ext (k::F) ops.toArray (Sq ops) tbl ops s s fun ml ts s2=>if OC ml ml=true/\OI ops (ts.map tK)=true then K s2 else none else none)|false=>Lk X call ext ops.toArray (Sq ops) tbl ops s fun ml s2=>if OC ml ml=true then K s2 else none)
 else none
abbrev KE (R:Type):=Exit->S->Option R
def Py {R:Type} (body:S->KE R->Option R) (xc:List Nat):Nat->S->KE R->Option R
 |0,_,_=>none|k+1,s,K=>body s fun e s1=>match e with| .normal=>if gcB xc s1=true then Py body xc k (gcS xc s1) K else none|e=>K e s1
section
variable {X:Cx} {R:Type} {call:Dy R} {ext:Dm} (hP:BH X.P=true) (hmo:X.P.follows .mixedOrders=true) (hc:Ik X call) (he:IA X ext)
def LM (X:Cx) (n:Nat) (c:Code) (s:S) {R:Type} (r:R) (K:KE R):Prop:=
 ∃e s',K e s'=some r/\s'.A=s.A/\∀A',leA s.A A'->∀Ψ:Exit->S->Prop,Ψ e (s'.wA A')->DC X n c (s.wA A') Ψ
theorem jO {c:Code} {n:Nat} {xc:List Nat} {body:S->KE R->Option R} {r:R} (hb:∀s (K:KE R),body s K=some r->LM X n c s r K):
  ∀(k:Nat) (s:S) (K:KE R),Py body xc k s K=some r->∃e s',K e s'=some r/\s'.A=s.A/\∀A',leA s.A A'->∀Ψ:Exit->S->Prop,Ψ e (s'.wA A')->∀(Γ0:G) (a:Act) (w:World),At X n Γ0 (s.wA A') a w->Code.rounds X.P c (fun e a w=>∃s',Ψ e s'/\At X n Γ0 s' a w) k a w
 |0,s,K,h=>by simp[Py]at h
 |k+1,s,K,h=>by
  simp only[Py]at h;obtain⟨e0,s1,h1,hA1,hD⟩:=hb _ _ h;have zx:∀(hne:e0≠.normal),K e0 s1=some r->∃e s',K e s'=some r/\s'.A=s.A/\∀A',leA s.A A'->∀Ψ:Exit->S->Prop,Ψ e (s'.wA A')->∀(Γ0:G) (a:Act) (w:World),At X n Γ0 (s.wA A') a w->Code.rounds X.P c (fun e a w=>∃s',Ψ e s'/\At X n Γ0 s' a w) (k+1) a w:=by
   intro hne h1;refine⟨e0,s1,h1,hA1,fun A' hA Ψ hΨ Γ0 a w hat=>?_⟩;rw[rounds_succ];refine wp_mono (hD A' hA (fun e1 s2=>e1=e0/\s2=s1.wA A') ⟨rfl,rfl⟩ Γ0 a w hat) ?_;rintro e1 a1 w1 ⟨s2,⟨rfl,rfl⟩,zi⟩;cases e1 with
   |normal=>exact absurd rfl hne|exit _|goto _|ret|panic _|outgrown=>exact⟨_,hΨ,zi⟩
  cases e0 with
  |normal=>
   simp only[bt]at h1;obtain⟨h2,h1⟩:=h1;obtain⟨e,s',h3,h4,h5⟩:=jO hb k (gcS xc s1) K h1;refine⟨e,s',h3,by rw[h4];exact hA1,fun A' hA Ψ hΨ Γ0 a w hat=>?_⟩;have hA2:leA (gcS xc s1).A A':=by show leA s1.A A';rw[hA1];exact hA
   rw[rounds_succ];refine wp_mono (hD A' hA (fun e1 s2=>e1= .normal/\s2=s1.wA A') ⟨rfl,rfl⟩ Γ0 a w hat) ?_;rintro e1 a1 w1 ⟨s2,⟨rfl,rfl⟩,zi⟩;exact h5 A' hA2 Ψ hΨ Γ0 a1 w1 (q06 A' h2 Γ0 a1 w1 zi)
  |exit _|goto _|ret|panic _|outgrown=>exact zx (by simp) h1
include hP hmo hc he
theorem q0s {tbl:List (Nat × Nat)} {n id:Nat} {ops:List Oper} {draw:Bool} {s:S} {r:R} {K:S->Option R} (h:Xj X call ext tbl n ops draw s K=some r):
  ∃s',K s'=some r/\s'.A=s.A/\∀A',leA s.A A'->∀Ψ:Exit->S->Prop,Ψ .normal (s'.wA A')->DC X n (.region id ops.toArray draw) (s.wA A') Ψ:=by
 unfold Xj at h;simp only[bt]at h;obtain⟨h1,h⟩:=h;cases draw with
 |true=>
  dsimp only at h;split at h;{obtain⟨ml,ts,s2,h2,h3,h4⟩:=QE hc he ops s s rfl (fun _ _ h=>h) h;simp only[bt]at h2;obtain⟨⟨h5,h6⟩,h2⟩:=h2;exact⟨s2,h2,h3,fun A' hA Ψ hΨ=>Y9 hP hmo ml ts h1 h6 (h4 A' hA ml (Uk h5) _ hΨ)⟩}
  ·rename_i k F _;simp only[bt]at h;obtain⟨hq,h⟩:=h;have hF:∀j∈k::F,s.obj j≠none:=fun j hj e=>by have:=eh.1 hq j hj;rw[e]at this;cases this
   obtain⟨ml,ts,s2,h2,h3,h4⟩:=Ng hc he ops s s rfl (fun _ _ h=>h) hF h;simp only[bt]at h2;obtain⟨⟨h5,h6⟩,h2⟩:=h2;refine⟨s2,h2,h3,fun A' hA Ψ hΨ=>X1 hP hmo (k::F) ml ts h1 h6 (fun j hj e=>?_) (h4 A' hA ml (Uk h5) _ hΨ)⟩;cases ho:s.obj j with
   |none=>exact hF j hj ho|some ob=>rw[DT hA ho]at e;cases e
 |false=>
  obtain⟨ml,s2,h2,h3,h4⟩:=Xi hc he ops s h;simp only[bt]at h2;obtain⟨h5,h2⟩:=h2;exact⟨s2,h2,h3,fun A' hA Ψ hΨ=>Cs hP ml h1 (h4 A' hA ml (Uk h5) _ hΨ)⟩
end
def OJ {R:Type} (s:S):List V->(List V->Option R)->Option R
 | [],K=>K []|x::xs,K=>(match x with| .sl eb e cs t=>(match Kj s t cs.length with|some b=>bif b then OJ s xs (fun vs=>K (.ts eb e cs::vs))else none|none=>OJ s xs (fun vs=>K (.d (.slice eb e) (.slice cs)::vs)))|x=>OJ s xs (fun vs=>K (x.FK::vs)))
theorem VF {R:Type} {s:S} {r:R}:∀{xs:List V} {K:List V->Option R},OJ s xs K=some r->K (IZ s xs)=some r
 | [],K,h=>h|x::xs,K,h=>by
  simp only[OJ]at h;split at h
  ·rename_i eb e cs t;split at h
   ·rename_i b e0;cases b with
    |false=>cases h
    |true=>
     have hl:=ZC e0;have:=VF (xs:=xs) h;simp only[IZ,MI,if_pos hl];exact this
   ·rename_i e0;have hl:s.live t=none:=by unfold Kj at e0;split at e0;{cases e0};{rename_i e5;exact e5}
    have:=VF (xs:=xs) h;simp only[IZ,MI];rw[if_neg (by rw[hl];simp)];exact this
  ·rename_i hx;have:=VF (xs:=xs) h;simp only[IZ];have e:MI s x=x.FK:=by cases x <;> first|rfl|exact(hx _ _ _ _ rfl).elim
   rw[e];exact this
def jQ {R:Type} (X:Cx) (fn:Func) (s:S) (K:V->List (Key × O)->Option R):Option R:=
 OJ s (Ee X s fn.results.toList) fun vs=>
  if SE X s fn.results.toList=true/\RR (Ee X s fn.results.toList)=true/\IY (CB (GA s.loc (reach s.loc 100000 (V.Jq vs++Iz s.loc) []) s.loc)) vs=true/\GC (Ih (FR 2000 (Ee X s fn.results.toList) vs))=true/\KO (GA s.loc (reach s.loc 100000 (V.Jq vs++Iz s.loc) []) s.loc)=true/\
   FC (CB (GA s.loc (reach s.loc 100000 (V.Jq vs++Iz s.loc) []) s.loc)) Bl (GA s.loc (reach s.loc 100000 (V.Jq vs++Iz s.loc) []) s.loc)=true/\IG (GA s.loc (reach s.loc 100000 (V.Jq vs++Iz s.loc) []) s.loc) s.loc=true then
   K (aK vs) (GA s.loc (reach s.loc 100000 (V.Jq vs++Iz s.loc) []) s.loc)else none
theorem q0t {X:Cx} {fn:Func} {s:S} {R:Type} {r:R} {K:V->List (Key × O)->Option R} (h:jQ X fn s K=some r):∃v L,K v L=some r/\∀A',leA s.A A'->FE X fn A' v L (s.wA A'):=by have h:=VF h;simp only[bt]at h;obtain⟨h1,h⟩:=h;refine⟨_,_,h,fun A' hA=>q0Q hA ?_⟩;simp only[Xu,if_pos h1]
abbrev OvK (R:Type):=FuncId->Option (List V->(Key->Option O)->(V->List (Key × O)->Option R)->Option R)
def WQ (X:Cx) {R:Type} (ov:OvK R):Prop:=∀f g,ov f=some g->∀xs A Kr r,g xs A Kr=some r->∃v L,Bn X f xs A v L/\Kr v L=some r
section
variable {X:Cx} {R:Type} {ov:OvK R} {ext:Dm} (hP:BH X.P=true) (hmo:X.P.follows .mixedOrders=true) (hov:WQ X ov) (he:IA X ext)
include hP hmo hov he
end
abbrev kR:V->List (Key × O)->Option (V × List (Key × O)):=fun v L=>some (v,L)
end
section
section
variable {e:Exit} {s:S} {Q:Exit->S->Prop} {T T':Option (Exit × S)}
end
theorem DC.post {X:Cx} {n:Nat} {c:Code} {s:S} {Ψ Ψ':Exit->S->Prop} (h:DC X n c s Ψ) (hq:∀e s,Ψ e s->∃s',Dd X n s s'/\Ψ' e s'):DC X n c s Ψ':=
 fun Γ0 a w hat=>wp_mono (h Γ0 a w hat) fun e a w ⟨s1,h1,h2⟩=>by obtain⟨s2,h3,h4⟩:=hq e s1 h1;exact⟨s2,h4,h3 Γ0 a w h2⟩
abbrev OvG (R:Type):=List V->(Key->Option O)->(V->List (Key × O)->Option R)->Option R
def GOk (X:Cx) (f:FuncId) {R:Type} (g:OvG R):Prop:=∀xs A Kr r,g xs A Kr=some r->∃v L,Bn X f xs A v L/\Kr v L=some r
def Js {R:Type}:List (FuncId × OvG R)->FuncId->Option (OvG R)
 | [],_=>none|(f,g)::l,i=>bif di f i then some g else Js l i
structure OvS (X:Cx) where
 g:(R:Type)->List (FuncId × OvG R)
 ok:∀R,∀p∈g R,GOk X p.1 p.2
theorem oS {R:Type}:∀{l:List (FuncId × OvG R)} {f:FuncId} {g:OvG R},Js l f=some g->(f,g)∈l
 |(j,y)::l,f,g,h=>by
  simp only[Js]at h;cases hb:di j f with
  |true=>
   rw[hb]at h;cases h;rw[fa hb];exact fi ..
  |false=>
   rw[hb]at h;exact ep _ (oS h)
def OvS.ov {X:Cx} (o:OvS X) (R:Type):OvK R:=fun f=>Js (o.g R) f
theorem OvS.sQ {X:Cx} (o:OvS X) (R:Type):WQ X (o.ov R):=fun f g h=>o.ok R (f,g) (oS h)
theorem X5 {X:Cx} {f:FuncId} {eb:Nat} {e:Ty} {A:Key->Option O} {v:List C->V} {L:List C->List (Key × O)} (h:∀cs,Bn X f [.d (.slice eb e) (.slice cs)] A (v cs) (L cs)) (c:C):Bn X f [.d (.slice eb e) c] A (v c.elems) (L c.elems):=by intro A' Γ w args hA hg hc hn hr;have hs:args.size=1:=hn.symm;have h0:AE Γ (.d (.slice eb e) c) args[0]:=hr 0 _ _ rfl (Array.getElem?_eq_getElem (by omega:0<args.size));obtain⟨h1,_⟩:=(Bx rfl rfl).1 h0;simp only[AA,AH]at h1;obtain⟨_,_,_,cs,rfl,_⟩:=h1;exact h cs A' Γ w args hA hg hc hn hr
def PR {R:Type} (eb:Nat) (e:Ty):OvG R:=fun xs _ K=>match xs with| [.d (.slice eb' e') c]=>if eb'=eb/\e'=e then K (.ts eb e c.elems) []else none|_=>none
theorem XB {X:Cx} {f:FuncId} {eb:Nat} {e:Ty} (h:∀(A:Key->Option O) cs,Bn X f [.d (.slice eb e) (.slice cs)] A (.ts eb e cs) []) {R:Type}:GOk X f (PR (R:=R) eb e):=by intro xs A Kr r hr;unfold PR at hr;split at hr;{simp only[bt]at hr;obtain⟨⟨rfl,rfl⟩,hr⟩:=hr;exact⟨_,_,X5 (v:=fun cs=>.ts _ _ cs) (L:=fun _=>[]) (h A) _,hr⟩};{cases hr}
theorem q2x {A A':Key->Option O} (h:∀k,A k=none):leA A A':=fun k o e=>by rw[h k]at e;cases e
end
def CC (f:Nat->Nat):Key->Key
 | .l n=>.l (f n)| .g k=>.g k
def S.ren (s:S) (f g:Nat->Nat):S:=
 ⟨s.env.map fun p=>(p.1,p.2.ren (CC f) g),s.loc.map fun p=>(CC f p.1,p.2.ren (CC f)),s.A,s.tk.map fun p=>(g p.1,p.2)⟩
def Fa:List (Key × O)->List Nat
 | []=>[]|(.l n,_)::l=>n::Fa l|(.g _,_)::l=>Fa l
def Fj:List (Nat × Option Nat)->List Nat
 | []=>[]|(t,_)::l=>t::Fj l
def Jn (f:Nat->Nat) (l:List Nat):Bool:=l.all fun a=>l.all fun b=> !(di (f a) (f b))||di a b
theorem mR {f:Nat->Nat} {l:List Nat} (h:Jn f l=true) {a b:Nat} (ha:a∈l) (hb:b∈l) (e:f a=f b):a=b:=by simp only[Jn,eh]at h;have:=h a ha b hb;rw[e,Nat.beq_refl]at this;simpa[Nat.beq_eq]using this
theorem Qc:∀{l:List (Key × O)} {n:Nat},AK l (.l n)≠none->n∈Fa l
 | [],_,h=>by simp[AK]at h
 |(.l m,o)::l,n,h=>by simp only[AK]at h;simp only[Fa,iu];by_cases e:m=n;{exact .inl e.symm};{rw[if_neg (by intro e';cases e';exact e rfl)]at h;exact .inr (Qc h)}
 |(.g m,o)::l,n,h=>by simp only[AK]at h;rw[if_neg (by intro e';cases e')]at h;exact Qc (l:=l) h
theorem ZL {f:Nat->Nat}:∀{l:List (Key × O)} {k':Key} {o':O},AK (l.map fun p=>(CC f p.1,p.2.ren (CC f))) k'=some o'->∃k o,CC f k=k'/\AK l k=some o/\o'=o.ren (CC f)
 | [],_,_,h=>by simp[AK]at h
 |(j,p)::l,k',o',h=>by simp only[ek,AK]at h;by_cases e:CC f j=k';{rw[if_pos e]at h;cases h;exact⟨j,p,e,by simp[AK],rfl⟩};{rw[if_neg e]at h;obtain⟨k,o,h1,h2,h3⟩:=ZL h;refine⟨k,o,h1,?_,h3⟩;simp only[AK];rw[if_neg (fun e'=>e (by rw[e'];exact h1))];exact h2}
theorem Qr {f:Nat->Nat}:∀{l:List (Key × O)} {k:Key},AK (l.map fun p=>(CC f p.1,p.2.ren (CC f))) (.g k)=(AK l (.g k)).map fun o=>o.ren (CC f)
 | [],_=>rfl|(.l m,p)::l,k=>by simp only[ek,AK,CC];rw[if_neg (by intro e;cases e),if_neg (by intro e;cases e)];exact Qr
 |(.g m,p)::l,k=>by simp only[ek,AK,CC];by_cases e:Key.g m= .g k;{rw[if_pos e,if_pos e];rfl};{rw[if_neg e,if_neg e];exact Qr}
theorem pD {g:Nat->Nat}:∀{l:List (Nat × Option Nat)} {u:Nat} {x:Option Nat},look (l.map fun p=>(g p.1,p.2)) u=some x->∃t,g t=u/\look l t=some x/\t∈Fj l
 | [],_,_,h=>by simp[look]at h
 |(j,p)::l,u,x,h=>by simp only[ek,look]at h;by_cases e:g j=u;{rw[if_pos e]at h;cases h;exact⟨j,e,by simp[look],by simp[Fj]⟩};{rw[if_neg e]at h;obtain⟨t,h1,h2,h3⟩:=pD h;refine⟨t,h1,?_,by simp[Fj,h3]⟩;simp only[look];rw[if_neg (fun e'=>e (by rw[e'];exact h1))];exact h2}
theorem nI {g:Nat->Nat}:∀{l:List (Nat × Option Nat)} {t:Nat},t∈Fj l->(look (l.map fun p=>(g p.1,p.2)) (g t)).isSome=true
 | [],_,h=>by simp[Fj]at h
 |(j,p)::l,t,h=>by simp only[Fj,iu]at h;simp only[ek,look];by_cases e:g j=g t;{rw[if_pos e];rfl};{rw[if_neg e];rcases h with h|h;{subst h;exact absurd rfl e};{exact nI h}}
theorem wK:∀{l:List (Nat × Option Nat)} {t:Nat},(look l t).isSome=true->t∈Fj l
 | [],_,h=>by simp[look]at h
 |(j,p)::l,t,h=>by simp only[look]at h;simp only[Fj,iu];by_cases e:j=t;{exact .inl e.symm};{rw[if_neg e]at h;exact .inr (wK h)}
theorem ZP {f:V->V}:∀(l:List (Nat × V)) (i:Nat),look (l.map fun p=>(p.1,f p.2)) i=(look l i).map f
 | [],_=>rfl|(j,x)::l,i=>by simp only[ek,look];by_cases e:j=i;{rw[if_pos e,if_pos e];rfl};{rw[if_neg e,if_neg e];exact ZP l i}
theorem q1a (s:S) (f g:Nat->Nat) (i:Nat):(s.ren f g).get i=(s.get i).ren (CC f) g:=by unfold S.get S.ren;rw[ZP];cases look s.env i <;> rfl
mutual
theorem V.Rw {f g:Nat->Nat}:∀(x:V),x.ok Bl Bl=true->x.ren (CC f) g=x
 | .sl _ _ _ t,h=>by simp[V.ok,Bl]at h
 | .ptr (.l k) _ _,h| .mp (.l k),h| .sr (.l k) _ _ _ _ _ _,h=>by simp[V.ok,Bl]at h
 | .agg _ vs,h| .fn _ vs,h| .tup vs,h=>by simp only[V.ok]at h;simp only[V.ren,V.uF vs h]
 | .ptr (.g _) _ _,_| .mp (.g _),_| .sr (.g _) _ _ _ _ _ _,_| .d _ _,_| .ts _ _ _,_| .emp _ _,_| .wo,_| .wq _ _,_| .top _,_| .any,_=>by simp[V.ren,CC]
theorem V.uF {f g:Nat->Nat}:∀(xs:List V),th Bl Bl xs=true->V.DM (CC f) g xs=xs
 | [],_=>rfl|x::xs,h=>by simp only[th,bz]at h;simp only[V.DM,V.Rw x h.1,V.uF xs h.2]
end
theorem kM {f:Nat->Nat}:∀{es:List (C × V)},V.DK Bl Bl es=true->es.map (fun c=>(c.1,c.2.ren (CC f) id))=es
 | [],_=>rfl|x::xs,h=>by simp only[V.DK,bz]at h;simp only[ek,V.Rw x.2 h.1,kM h.2]
theorem O.Rw {f:Nat->Nat} {o:O} (h:o.ok Bl Bl=true):o.ren (CC f)=o:=by
 cases o with
 |box x=>simp only[O.ren];rw[V.Rw x h]|map kτ vτ es=>
  simp only[O.ren];rw[kM h];cases vτ.ES <;> rfl
 |it=>rfl|dead=>rfl
def Tip.ren (f g:Nat->Nat):Tip->Tip
 | .tok t=>.tok (g t)| .home k p=>.home (CC f k) p
def G.FO (Γ:G) (s:S) (f g:Nat->Nat):G:=
 {Γ with
  ι:=fun k=>match k with| .g k=>Γ.ι (.g k)| .l m=>match(Fa s.loc).find? (fun n=>decide (f n=m))with|some n=>Γ.ι (.l n)|none=>none
  τ:=fun u=>match(Fj s.tk).find? (fun t=>decide (g t=u))with|some t=>Γ.τ t|none=>none
  κ:=fun b=>(Γ.κ b).map fun p=>(p.1.ren f g,p.2)}
theorem lE {f:Nat->Nat} {l:List Nat} (h:Jn f l=true) {n:Nat} (hn:n∈l):l.find? (fun a=>decide (f a=f n))=some n:=by
 cases hf:l.find? (fun a=>decide (f a=f n))with
 |none=>
  have:=List.find?_eq_none.1 hf n hn;simp at this
 |some a=>
  have h1:=ql hf;have h2:=qz hf;rw[mR h h2 hn (by simpa using h1)]
theorem Zw {s:S} {n:Nat}:s.obj (.l n)=AK s.loc (.l n):=by unfold jo CY;cases AK s.loc (.l n) <;> rfl
theorem q7k {X:Cx} {n:Nat} {s:S} (f g:Nat->Nat) (hf:Jn f (Fa s.loc)=true) (hg:Jn g (Fj s.tk)=true):Dd X n s (s.ren f g):=by
 rintro Γ0 a w ⟨Γ,g1,g3,c,hs,hn,hfr,hA⟩
 have lin:∀m x,Γ.ι (.l m)=some x->m∈Fa s.loc:=fun m x h=>Qc (by
  have:=c.dom (.l m) (by rw[h];simp)
  rwa [Zw]at this)
 have tin:∀t x,Γ.τ t=some x->t∈Fj s.tk:=fun t x h=>wK (c.xi t (by rw[h];simp));have ιl:∀m,m∈Fa s.loc->(Γ.FO s f g).ι (.l (f m))=Γ.ι (.l m):=fun m hm=>by simp only[G.FO,lE hf hm]
 have z4g:∀k,s.obj k≠none->Γ.ι k=none->(Γ.FO s f g).ι (CC f k)=none:=by
  intro k ho hn;cases k with
  |g k=>exact hn|l m=>
   have hm:m∈Fa s.loc:=Qc (by rw[<-Zw];exact ho);exact(ιl m hm).trans hn
 have ιk:∀k x,Γ.ι k=some x->(Γ.FO s f g).ι (CC f k)=some x:=by
  intro k x h;cases k with
  |g k=>exact h|l m=>exact(ιl m (lin m x h)).trans h
 have τk:∀t x,Γ.τ t=some x->(Γ.FO s f g).τ (g t)=some x:=by intro t x h;simp only[G.FO,lE hg (tin t x h)];exact h
 have back:∀k' x,(Γ.FO s f g).ι k'=some x->∃k,CC f k=k'/\Γ.ι k=some x:=by
  intro k' x h;cases k' with
  |g k=>exact⟨.g k,rfl,h⟩|l m=>
   simp only[G.FO]at h;split at h;{rename_i n' hfd;exact⟨.l n',by simp only[CC];rw[show f n'=m by simpa using ql hfd],h⟩};{cases h}
 have pr:∀hm,GM Γ (Γ.FO s f g) (CC f) hm:=fun hm=>⟨Hp.le_refl _,ιk,fun _ _ h=>h,fun k b p sz _ hk=>⟨by simp[G.FO,hk,Tip.ren],rfl⟩⟩;have z3Y:∀k x,Γ.ι k=some x->(s.ren f g).obj (CC f k)≠none:=by
  intro k x h1;cases k with
  |l m=>
   have hm:=lin m x h1;show jo (s.ren f g) (.l (f m))≠none;rw[Zw];intro z4h;have key:∀{l:List (Key × O)},m∈Fa l->AK (l.map fun p=>(CC f p.1,p.2.ren (CC f))) (.l (f m))≠none:=by
    intro l
    induction l with
    |nil=>intro h;simp[Fa]at h|cons p l ih=>
     obtain⟨j,o⟩:=p;intro h;simp only[ek,AK];by_cases e:CC f j= .l (f m);{rw[if_pos e];simp}
     ·rw[if_neg e];cases j with
      |g j=>exact ih (by simpa[Fa]using h)|l j=>
       simp only[Fa,iu]at h;rcases h with rfl|h;{exact absurd rfl e};{exact ih h}
   exact key hm z4h
  |g k=>
   have h2:=c.dom (.g k) (by rw[h1];simp);show jo (s.ren f g) (.g k)≠none;unfold jo CY at h2 ⊢;rw[show AK (s.ren f g).loc (.g k)=_ from Qr];cases hl:AK s.loc (.g k)with
   |none=>rw[hl]at h2;exact h2|some o=>simp
 have xk:∀k x,Γ.ι k=some x->s.Bq k=true->(s.ren f g).Bq (CC f k)=true:=by
  intro k x h1 hd;cases ho':(s.ren f g).obj (CC f k)with
  |none=>exact absurd ho' (z3Y k x h1)|some o1=>
   rw[Ed ho'];cases hl:AK (s.ren f g).loc (CC f k)with
   |some o2=>
    have e:o2=o1:=by unfold jo CY at ho';rw[hl]at ho';exact Option.some.inj ho'
    subst e;obtain⟨k2,o,h2,h3,rfl⟩:=ZL hl;have hk:k2=k:=by
     cases k with
     |g k=>cases k2 with|g k2=>simpa[CC]using h2|l m2=>simp[CC]at h2
     |l m=>cases k2 with
      |g k2=>simp[CC]at h2|l m2=>
       simp only[CC,Key.l.injEq]at h2;rw[mR hf (Qc (by rw[h3];simp)) (lin m x h1) h2]
    subst hk;rw[O.Rv];rw[Ed (Uw h3)]at hd;exact hd
   |none=>
    cases k with
    |l m=>unfold jo CY at ho';rw[show CC f (.l m)= .l (f m) from rfl]at ho' hl;rw[hl]at ho';cases ho'
    |g k=>
     have h0:AK s.loc (.g k)=none:=by
      have:=Qr (f:=f) (l:=s.loc) (k:=k);rw[show AK (s.loc.map _) (.g k)=none from hl]at this;cases hx:AK s.loc (.g k)with
      |none=>rfl|some y=>rw[hx]at this;cases this
     have e1:(s.ren f g).obj (.g k)=s.A k:=by unfold jo CY;rw[show AK (s.ren f g).loc (.g k)=none from hl];rfl
     have e2:s.obj (.g k)=s.A k:=by unfold jo CY;rw[h0]
     rw[Ed (e2.trans (e1.symm.trans ho'))]at hd;exact hd
 refine⟨Γ.FO s f g,⟨g1.H,g1.Z,g1.ZH,g1.g,g1.gl,g1.oo,g1.σ,g1.gn⟩,g3,?_,fun i=>?_,hn,hfr,hA⟩
 ·refine⟨c.hH,c.hZ,fun b o sz h=>?_,fun k' o' h=>?_,fun k' h=>?_,fun k k' b τ τ' h1 h2=>?_,fun u L h=>?_,fun u h=>?_,c.hgl,c.hoo,c.hσ⟩
  ·cases hk:Γ.κ b with
   |none=>simp[G.FO,hk]at h|some p=>
    obtain⟨t,sz'⟩:=p;simp[G.FO,hk]at h;obtain⟨a1,a2,arr,T,a3,a4,a5⟩:=c.hκ b t sz' hk;rw[<-h.2,<-h.1];exact⟨a1,a2,arr,T,a3,a4,by cases t with|tok=>trivial|home _ p=>cases p <;> exact a5⟩
  ·have own:∀k o,s.obj k=some o->((Γ.FO s f g).ι (CC f k)=none/\(o.ren (CC f)).JR)\/Own (Γ.FO s f g) w (CC f k) (o.ren (CC f)):=fun k o ho=>
    (c.obj k o ho).imp (fun h=>⟨z4g k (by rw[ho];simp) h.1,O.WH h.2⟩) fun xd=>Own.ren (pr _) (fun hd b τ hb=>by
     obtain⟨e1,e2,_⟩:=c.Eb hb ho hd;exact⟨rfl,e1,e2⟩) (Nat.le_refl _) xd
   unfold jo CY at h;cases hl:AK (s.ren f g).loc k' with
   |some o1=>
    rw[hl]at h;cases h;obtain⟨k,o,h1,h2,rfl⟩:=ZL hl;rw[<-h1];exact own k o (Uw h2)
   |none=>
    rw[hl]at h;cases k' with
    |l m=>cases h
    |g k=>
     have h':s.A k=some o':=h;have h0:AK s.loc (.g k)=none:=by
      have:=Qr (f:=f) (l:=s.loc) (k:=k);rw[show AK (s.loc.map _) (.g k)=none from hl]at this;cases hx:AK s.loc (.g k)with
      |none=>rfl|some y=>rw[hx]at this;cases this
     have:=own (.g k) o' (by simp[jo,CY,h0,h']);rw[O.Rw (hA k o' h')]at this;exact this
  ·obtain⟨x,hx⟩:=qi.1 h;obtain⟨k,rfl,h1⟩:=back k' x hx;exact z3Y k x h1
  ·obtain⟨k0,rfl,h3⟩:=back k _ h1;obtain⟨k1,rfl,h4⟩:=back k' _ h2;exact(c.inj _ _ _ _ _ h3 h4).imp (fun e=>by rw[e]) (And.imp (Or.imp (xk _ _ h3) (xk _ _ h4)) id)
  ·unfold S.live Ds at h;cases hl:look (s.ren f g).tk u with
   |none=>simp[hl]at h|some x=>
    cases x with
    |none=>simp[hl]at h|some M=>
     simp[hl]at h;subst h;obtain⟨t,rfl,h2,h3⟩:=pD hl;obtain⟨x,a1,a2⟩:=c.tok t M (by simp[S.live,Ds,h2]);refine⟨x,τk t _ a1,fun b pos sz hx=>?_⟩;obtain⟨a3,a4⟩:=a2 b pos sz hx;exact⟨a3,by simp[G.FO,a4,Tip.ren]⟩
  ·obtain⟨x,hx⟩:=qi.1 h;simp only[G.FO]at hx;split at hx
   ·rename_i t hfd;have e:g t=u:=by simpa using ql hfd
    rw[<-e];exact nI (qz hfd)
   ·cases hx
 ·rw[q1a];exact AE.ren (pr none) τk (hs i)
def dk (ds:List C) (i:Nat):C:=ds.getD i .nil
abbrev Es:=List (C × C)
def dm (ms:List Es) (i:Nat):Es:=ms.getD i []
inductive Cap where
 |c (τ:Ty)|v (x:V)
 deriving Inhabited
def Ir:List Cap->Nat
 | []=>0| .c _::l=>Ir l+1| .v _::l=>Ir l
def Fp:List Cap->Nat->List C->List V
 | [],_,_=>[]| .c τ::l,i,ds=>.wq τ (dk ds i)::Fp l (i+1) ds| .v x::l,i,ds=>x::Fp l i ds
inductive Sh where
 |d (τ:Ty)|sl (eb:Nat) (e:Ty) (t:Nat)|ts (eb:Nat) (e:Ty)|sr (k:Key) (q:List Nat) (cp:Bool) (eb:Nat) (e:Ty)|wq (τ:Ty)|arr (e:Ty)|agg (τ:Ty) (l:List Sh)|as (v:V)|vec (k:Key) (eb:Nat) (e:Ty)|fnc (f:FuncId) (l:List Cap)
 deriving Inhabited
inductive OSh where
 |box (x:Sh)|map (kτ vτ:Ty)|dead (e:Ty)|it
 deriving Inhabited
structure SSh where
 env:List (Nat × Sh)
 loc:List (Key × OSh)
mutual
def Sh.many:Sh->Nat
 | .sr _ _ cp _ _=>bif cp then 3 else 2| .agg _ l=>Sh.Gr l| .as _=>0| .fnc _ l=>Ir l|_=>1
def Sh.Gr:List Sh->Nat
 | []=>0|s::l=>s.many+Sh.Gr l
end
mutual
def Sh.fill:Sh->Nat->List C->V
 | .d τ,i,ds=>.d τ (dk ds i)| .sl eb e t,i,ds=>.sl eb e (dk ds i).elems t| .ts eb e,i,ds=>.ts eb e (dk ds i).elems| .sr k q cp eb e,i,ds=>.sr k q (dk ds i).toInt.toNat (dk ds (i+1)).toInt.toNat (bif cp then some (dk ds (i+2)).toInt.toNat else none) eb e| .wq τ,i,ds=>.wq τ (dk ds i)| .arr e,i,ds=>.d (.arr (dk ds i).elems.length e) (dk ds i)| .agg τ l,i,ds=>.agg τ (Sh.EF l i ds)| .as v,_,_=>v| .vec k eb e,i,ds=>.sr k [] 0 (dk ds i).toInt.toNat none eb e| .fnc f l,i,ds=>.fn f (Fp l i ds)
def Sh.EF:List Sh->Nat->List C->List V
 | [],_,_=>[]|s::l,i,ds=>s.fill i ds::Sh.EF l (i+s.many) ds
end
mutual
def V.same:V->V->Bool
 | .emp a e,.emp b f=>decide (a=b)&&uk e f| .wo,.wo=>true| .ptr k q τ,.ptr k' q' τ'=>decide (k=k')&&decide (q=q')&&uk τ τ'| .mp k,.mp k'=>decide (k=k')| .any,.any=>true| .top τ,.top τ'=>uk τ τ'| .fn f l,.fn f' l'=>decide (f=f')&&V.MQ l l'| .tup l,.tup l'=>V.MQ l l'| .d τ c,.d τ' c'=>uk τ τ'&&C.beq c c'|_,_=>false
def V.MQ:List V->List V->Bool
 | [],[]=>true|x::xs,y::ys=>V.same x y&&V.MQ xs ys|_,_=>false
end
mutual
theorem V.Vi:∀(x y:V),V.same x y=true->x=y
 | .emp a e,y,h=>by cases y <;> simp only[V.same,bz,decide_eq_true_eq,qd,reduceCtorEq]at h;obtain⟨rfl,rfl⟩:=h;rfl
 | .wo,y,h=>by cases y <;> simp only[V.same,reduceCtorEq]at h;rfl
 | .ptr k q τ,y,h=>by cases y <;> simp only[V.same,bz,decide_eq_true_eq,qd,reduceCtorEq]at h;obtain⟨⟨rfl,rfl⟩,rfl⟩:=h;rfl
 | .mp k,y,h=>by cases y <;> simp only[V.same,decide_eq_true_eq,reduceCtorEq]at h;subst h;rfl
 | .any,y,h=>by cases y <;> simp only[V.same,reduceCtorEq]at h;rfl
 | .top τ,y,h=>by cases y <;> simp only[V.same,qd,reduceCtorEq]at h;subst h;rfl
 | .fn f l,y,h=>by cases y <;> simp only[V.same,bz,decide_eq_true_eq,reduceCtorEq]at h;obtain⟨rfl,h⟩:=h;rw[V.bZ l _ h]
 | .tup l,y,h=>by cases y <;> simp only[V.same,reduceCtorEq]at h;rw[V.bZ l _ h]
 | .d τ c,y,h=>by cases y <;> simp only[V.same,bz,qd,C.beq_iff,reduceCtorEq]at h;obtain⟨rfl,rfl⟩:=h;rfl
 | .sl _ _ _ _,y,h=>by cases y <;> simp[V.same]at h
 | .ts _ _ _,y,h=>by cases y <;> simp[V.same]at h
 | .wq _ _,y,h=>by cases y <;> simp[V.same]at h
 | .sr _ _ _ _ _ _ _,y,h=>by cases y <;> simp[V.same]at h
 | .agg _ _,y,h=>by cases y <;> simp[V.same]at h
theorem V.bZ:∀(xs ys:List V),V.MQ xs ys=true->xs=ys
 | [],ys,h=>by cases ys <;> simp[V.MQ]at h;rfl
 |x::xs,ys,h=>by
  cases ys with
  |nil=>simp[V.MQ]at h|cons y ys=>
   simp only[V.MQ,bz]at h;rw[V.Vi x y h.1,V.bZ xs ys h.2]
end
def XM {R:Type} (τ:Ty) (x:V) (K:List C->Option R):Option R:=
 match x with
 | .wo=>(match τ with| .slice _ _=>K [.slice []]|_=>none)|x=>(match CQ x with|some c=>if x.ty=τ then K [c]else none|none=>none)
def IJ {R:Type}:List Cap->List V->(List C->Option R)->Option R
 | [],[],K=>K []| .c τ::l,x::xs,K=>(match x with| .wq τ' c=>if τ'=τ then IJ l xs fun ds=>K (c::ds)else none|_=>none)| .v y::l,x::xs,K=>if V.same x y=true then IJ l xs K else none|_,_,_=>none
theorem TD:∀(l:List Cap) (i i':Nat) (ds ds':List C),(∀j,j<Ir l->dk ds (i+j)=dk ds' (i'+j))->Fp l i ds=Fp l i' ds'
 | [],_,_,_,_,_=>by simp only[Fp]
 | .c τ::l,i,i',ds,ds',h=>by
  simp only[Fp,Ir]at h ⊢;have h0:=h 0 (by omega);simp only[ir]at h0
  rw[h0,TD l (i+1) (i'+1) ds ds' fun j hj=>by
   have:=h (1+j) (by omega)
   rwa [<-fy,<-fy]at this]
 | .v x::l,i,i',ds,ds',h=>by simp only[Fp,Ir]at h ⊢;rw[TD l i i' ds ds' h]
theorem TC {R:Type} {r:R}:∀(l:List Cap) (xs:List V) {K:List C->Option R},IJ l xs K=some r->∃ds,K ds=some r/\ds.length=Ir l/\Fp l 0 ds=xs
 | [],[],K,h=>⟨[],by simpa only[IJ]using h,by simp[Ir],by simp[Fp]⟩| [],_::_,K,h=>by simp[IJ]at h
 | .c _::_,[],K,h=>by simp[IJ]at h
 | .v _::_,[],K,h=>by simp[IJ]at h
 | .c τ::l,x::xs,K,h=>by simp only[IJ]at h;split at h;{simp only[bt]at h;obtain⟨rfl,h⟩:=h;obtain⟨ds,h1,h2,h3⟩:=TC l xs h;refine⟨_,h1,by simp[Ir,h2],?_⟩;rename_i c;simp only[Fp,cf];rw[TD l 1 0 (c::ds) ds fun j _=>by unfold dk;simp[py 1 j],h3];rfl};{cases h}
 | .v y::l,x::xs,K,h=>by simp only[IJ,bt]at h;obtain⟨h0,h⟩:=h;have:=V.Vi _ _ h0;subst this;obtain⟨ds,h1,h2,h3⟩:=TC l xs h;exact⟨ds,h1,by simp only[Ir];exact h2,by simp only[Fp];rw[h3]⟩
mutual
def Sh.coe {R:Type}:Sh->V->(List C->Option R)->Option R
 | .d τ,x,K=>XM τ x K| .sl eb e t,x,K=>(match x with| .sl eb' e' cs t'=>if eb'=eb/\e'=e/\t'=t then K [.slice cs]else none|_=>none)| .ts eb e,x,K=>(match x with| .ts eb' e' cs=>if eb'=eb/\e'=e then K [.slice cs]else none|_=>none)| .sr k q cp eb e,x,K=>(match x with| .sr k' q' lo n cp' eb' e'=>if k'=k/\q'=q/\eb'=eb/\e'=e then(match cp,cp' with|false,none=>K [.int lo,.int n]|true,some c=>K [.int lo,.int n,.int c]|_,_=>none)else none|_=>none)| .wq τ,x,K=>(match x with| .wq τ' c=>if τ'=τ then K [c]else none|_=>none)| .arr e,x,K=>(match x with| .d (.arr n e') c=>if e'=e then(if n=c.elems.length then K [c]else none)else none|_=>none)| .agg τ l,x,K=>(match x with| .agg τ' vs=>if τ'=τ then Sh.NJ l vs K else none|_=>none)| .as v,x,K=>if V.same x v=true then K []else none| .vec k eb e,x,K=>(match x with| .sr k' q' lo n cp' eb' e'=>if k'=k/\q'=[]/\lo=0/\cp'.isNone=true/\eb'=eb/\e'=e then K [.int n]else none|_=>none)| .fnc f l,x,K=>(match x with| .fn f' vs=>if f'=f then IJ l vs K else none|_=>none)
def Sh.NJ {R:Type}:List Sh->List V->(List C->Option R)->Option R
 | [],[],K=>K []|s::l,x::xs,K=>if(match x with| .wo=>true|_=>false)=false then s.coe x fun d1=>Sh.NJ l xs fun d2=>K (d1++d2)else none|_,_,_=>none
end
theorem Jc {a b:List C} {j:Nat} (h:j<a.length):dk (a++b) j=dk a j:=by unfold dk;rw[du,du,List.getElem?_append_left h]
theorem Li {a b:List C} {j:Nat} (h:a.length<=j):dk (a++b) j=dk b (j-a.length):=by unfold dk;rw[du,du,List.getElem?_append_right h]
mutual
theorem Sh.KY:∀(s:Sh) (i i':Nat) (ds ds':List C),(∀j,j<s.many->dk ds (i+j)=dk ds' (i'+j))->s.fill i ds=s.fill i' ds'
 | .d τ,i,i',ds,ds',h=>by simp only[Sh.fill];have:=h 0 (by simp[Sh.many]);simp only[ir]at this;rw[this]
 | .sl eb e t,i,i',ds,ds',h=>by simp only[Sh.fill];have:=h 0 (by simp[Sh.many]);simp only[ir]at this;rw[this]
 | .ts eb e,i,i',ds,ds',h=>by simp only[Sh.fill];have:=h 0 (by simp[Sh.many]);simp only[ir]at this;rw[this]
 | .sr k q cp eb e,i,i',ds,ds',h=>by
  simp only[Sh.fill];have h0:=h 0 (by cases cp <;> simp[Sh.many]);have h1:=h 1 (by cases cp <;> simp[Sh.many]);simp only[ir]at h0;rw[h0,h1];cases cp with
  |false=>rfl|true=>rw[h 2 (by simp[Sh.many])]
 | .wq τ,i,i',ds,ds',h=>by simp only[Sh.fill];have:=h 0 (by simp[Sh.many]);simp only[ir]at this;rw[this]
 | .arr e,i,i',ds,ds',h=>by simp only[Sh.fill];have:=h 0 (by simp[Sh.many]);simp only[ir]at this;rw[this]
 | .agg τ l,i,i',ds,ds',h=>by simp only[Sh.fill];rw[Sh.QJ l i i' ds ds' (by simpa only[Sh.many]using h)]
 | .as v,_,_,_,_,_=>by simp only[Sh.fill]
 | .vec k eb e,i,i',ds,ds',h=>by simp only[Sh.fill];have:=h 0 (by simp[Sh.many]);simp only[ir]at this;rw[this]
 | .fnc f l,i,i',ds,ds',h=>by simp only[Sh.fill];rw[TD l i i' ds ds' (by simpa only[Sh.many]using h)]
theorem Sh.QJ:∀(l:List Sh) (i i':Nat) (ds ds':List C),(∀j,j<Sh.Gr l->dk ds (i+j)=dk ds' (i'+j))->Sh.EF l i ds=Sh.EF l i' ds'
 | [],_,_,_,_,_=>by simp only[Sh.EF]
 |s::l,i,i',ds,ds',h=>by
  simp only[Sh.EF];simp only[Sh.Gr]at h
  rw[Sh.KY s i i' ds ds' (fun j hj=>h j (by omega)),Sh.QJ l (i+s.many) (i'+s.many) ds ds' (fun j hj=>by
   have:=h (s.many+j) (by omega)
   rwa [<-fy,<-fy]at this)]
end
theorem k7 {R:Type} {r:R} {τ:Ty} {x:V} {K:List C->Option R} (h:XM τ x K=some r):∃c,K [c]=some r/\V.BR x (.d τ c)/\(x≠.wo->(V.d τ c).ty=x.ty):=by
 cases x <;> simp only[XM]at h
 case wo=>
  split at h;{exact⟨_,h,by simp[V.BR],fun h=>absurd rfl h⟩};{cases h}
 all_goals
  split at h;{rename_i c hc;simp only[bt]at h;obtain⟨h1,h⟩:=h;refine⟨c,h,?_,fun _=>h1.symm⟩;simp only[V.BR];exact⟨hc,h1⟩};{cases h}
mutual
theorem Sh.XN {R:Type} {r:R}:∀(s:Sh) (x:V) {K:List C->Option R},s.coe x K=some r->∃ds,K ds=some r/\ds.length=s.many/\V.BR x (s.fill 0 ds)/\(x≠.wo->(s.fill 0 ds).ty=x.ty)
 | .d τ,x,K,h=>by simp only[Sh.coe]at h;obtain⟨c,h1,h2,h3⟩:=k7 h;exact⟨[c],h1,by simp[Sh.many],by simp only[Sh.fill];exact h2,by simp only[Sh.fill];exact h3⟩
 | .sl eb e t,x,K,h=>by cases x <;> simp only[Sh.coe,reduceCtorEq,bt]at h;obtain⟨⟨rfl,rfl,rfl⟩,h⟩:=h;exact⟨_,h,by simp[Sh.many],by simp[Sh.fill,dk,C.elems,V.BR],fun _=>rfl⟩
 | .ts eb e,x,K,h=>by cases x <;> simp only[Sh.coe,reduceCtorEq,bt]at h;obtain⟨⟨rfl,rfl⟩,h⟩:=h;exact⟨_,h,by simp[Sh.many],by simp[Sh.fill,dk,C.elems,V.BR],fun _=>rfl⟩
 | .sr k q cp eb e,x,K,h=>by cases x <;> simp only[Sh.coe,reduceCtorEq,bt]at h;obtain⟨⟨rfl,rfl,rfl,rfl⟩,h⟩:=h;split at h;{exact⟨_,h,by simp[Sh.many],by simp[Sh.fill,dk,bp,V.BR],fun _=>rfl⟩};{exact⟨_,h,by simp[Sh.many],by simp[Sh.fill,dk,bp,V.BR],fun _=>rfl⟩};{cases h}
 | .wq τ,x,K,h=>by cases x <;> simp only[Sh.coe,reduceCtorEq,bt]at h;obtain⟨rfl,h⟩:=h;exact⟨_,h,by simp[Sh.many],by simp[Sh.fill,dk,V.BR],fun _=>rfl⟩
 | .arr e,x,K,h=>by simp only[Sh.coe]at h;split at h;{simp only[bt]at h;obtain⟨rfl,h1,h⟩:=h;subst h1;exact⟨_,h,by simp[Sh.many],by simp[Sh.fill,dk,V.BR,CQ,V.ty],fun _=>rfl⟩};{cases h}
 | .agg τ l,x,K,h=>by cases x <;> simp only[Sh.coe,reduceCtorEq,bt]at h;obtain⟨rfl,h⟩:=h;obtain⟨ds,h1,h2,h3⟩:=Sh.hG l _ h;exact⟨ds,h1,by simpa only[Sh.many]using h2,by simp only[Sh.fill,V.BR];exact⟨trivial,h3⟩,fun _=>rfl⟩
 | .as v,x,K,h=>by simp only[Sh.coe,bt]at h;obtain⟨h1,h⟩:=h;have:=V.Vi _ _ h1;subst this;exact⟨_,h,by simp[Sh.many],by simp only[Sh.fill];exact V.Lt _,fun _=>by simp only[Sh.fill]⟩
 | .vec k eb e,x,K,h=>by
  cases x <;> simp only[Sh.coe,reduceCtorEq,bt]at h;obtain⟨⟨rfl,rfl,rfl,hc,rfl,rfl⟩,h⟩:=h;rename_i cp _ _;cases cp with
  |some c=>cases hc
  |none=>exact⟨_,h,by simp[Sh.many],by simp[Sh.fill,dk,bp,V.BR],fun _=>rfl⟩
 | .fnc f l,x,K,h=>by cases x <;> simp only[Sh.coe,reduceCtorEq,bt]at h;obtain⟨rfl,h⟩:=h;obtain⟨ds,h1,h2,h3⟩:=TC l _ h;exact⟨ds,h1,by simpa only[Sh.many]using h2,by simp only[Sh.fill,V.BR,h3],fun _=>rfl⟩
theorem Sh.hG {R:Type} {r:R}:∀(l:List Sh) (xs:List V) {K:List C->Option R},Sh.NJ l xs K=some r->∃ds,K ds=some r/\ds.length=Sh.Gr l/\V.FZ xs (Sh.EF l 0 ds)
 | [],xs,K,h=>by cases xs <;> simp only[Sh.NJ,reduceCtorEq]at h;exact⟨_,h,by simp[Sh.Gr],by simp[Sh.EF,V.FZ]⟩
 |s::l,[],K,h=>by simp[Sh.NJ]at h
 |s::l,x::xs,K,h=>by
  simp only[Sh.NJ,bt]at h;obtain⟨hn,h⟩:=h;obtain⟨d1,h1,h2,h3,h4⟩:=Sh.XN s x h;obtain⟨d2,h5,h6,h7⟩:=Sh.hG l xs h1;refine⟨_,h5,by simp[Sh.Gr,h2,h6],?_⟩;have e1:s.fill 0 (d1++d2)=s.fill 0 d1:=Sh.KY s 0 0 _ _ fun j hj=>Jc (by omega);have e2:Sh.EF l s.many (d1++d2)=Sh.EF l 0 d2:=Sh.QJ l _ 0 _ _ fun j hj=>by rw[Li (by omega),h2];congr 1;omega
  simp only[Sh.EF,V.FZ,cf,e1,e2];exact⟨h3,h4 (by intro e;subst e;simp at hn),h7⟩
end
def Iw:List (Nat × Sh)->Nat
 | []=>0|(_,s)::l=>s.many+Iw l
def Fv:List (Nat × Sh)->Nat->List C->List (Nat × V)
 | [],_,_=>[]|(j,s)::l,i,ds=>(j,s.fill i ds)::Fv l (i+s.many) ds
def Fw:List (Nat × Sh)->Nat->List C->List (Nat × Option Nat)
 | [],_,_=>[]|(_,s)::l,i,ds=>(match s with| .sl _ _ t=>(t,some (dk ds i).elems.length)::Fw l (i+s.many) ds|_=>Fw l (i+s.many) ds)
def FB:List (Key × OSh)->Nat
 | []=>0|(_,.box s)::l=>s.many+FB l|(_,.map _ _)::l=>FB l|(_,.dead _)::l=>1+FB l|(_,.it)::l=>2+FB l
def dE (τ:Ty) (l:Es):List (C × V):=l.map fun p=>(p.1,.d τ p.2)
def isD (τ:Ty):V->Bool
 | .d τ' _=>decide (τ'=τ)|_=>false
def unV:V->C
 | .d _ c=>c|_=>.nil
def AW (τ:Ty):List (C × V)->Bool
 | []=>true|(_,v)::es=>isD τ v&&AW τ es
def unE (es:List (C × V)):Es:=es.map fun p=>(p.1,unV p.2)
theorem XW {τ:Ty}:∀{es:List (C × V)},AW τ es=true->dE τ (unE es)=es
 | [],_=>rfl|(k,v)::es,h=>by simp only[AW,bz]at h;have:=XW h.2;simp only[dE,unE,ek,List.map_map]at this ⊢;rw[this];cases v <;> simp only[isD,reduceCtorEq,decide_eq_true_eq]at h <;> first|exact h.1.elim|(rw[h.1];rfl)
theorem Aj (τ:Ty):∀(l:Es),AW τ (dE τ l)=true
 | []=>rfl|(k,v)::l=>by have:=Aj τ l;simp only[dE,ek,AW,isD,decide_true,pk]at this ⊢;exact this
theorem Al (τ:Ty) (l:Es):unE (dE τ l)=l:=by
 induction l with
 |nil=>rfl|cons p l ih=>simp only[dE,unE,ek,unV]at ih ⊢;rw[ih]
theorem eS (τ:Ty):∀m:Es,DY τ (dE τ m)=true
 | []=>rfl|_::m=>by have:=eS τ m;have h:uk τ τ=true:=(qd τ τ).2 rfl;simp only[dE,ek,DY,h,pk]at this ⊢;exact this
def Bo:List (Key × OSh)->Nat->Nat->List C->List Es->List (Key × O)
 | [],_,_,_,_=>[]|(k,.box s)::l,i,j,ds,ms=>(k,.box (s.fill i ds))::Bo l (i+s.many) j ds ms|(k,.map kτ vτ)::l,i,j,ds,ms=>(k,.map kτ vτ (dE vτ (dm ms j)))::Bo l i (j+1) ds ms|(k,.dead e)::l,i,j,ds,ms=>(k,.dead (.arr (dk ds i).toInt.toNat e))::Bo l (i+1) j ds ms|(k,.it)::l,i,j,ds,ms=>(k,.it (dk ds i).toStr (dk ds (i+1)).toInt.toNat)::Bo l (i+2) j ds ms
def Jg (sh:SSh) (A:Key->Option O) (ds:List C) (ms:List Es):S:=
 ⟨Fv sh.env 0 ds,Bo sh.loc (Iw sh.env) 0 ds ms,A,Fw sh.env 0 ds⟩
def dI (s:S) (sh:Sh) (d:List C):Bool:=
 match sh with
 | .sl _ _ t=>(match Ds s.tk t with|some L=>di L (dk d 0).elems.length|none=>false)|_=>true
def Tc {R:Type} (s:S):List (Nat × Sh)->(List C->Option R)->Option R
 | [],K=>K []|(j,sh)::l,K=>sh.coe (s.get j) fun d1=>if(sh.fill 0 d1).ty.isAgg=(s.get j).ty.isAgg then(bif dI s sh d1 then Tc s l fun d2=>K (d1++d2)else none)else none
def mW:V->Bool
 | .wo=>true|_=>false
def JB {R:Type} (s:S):List (Key × OSh)->(List C->List Es->Option R)->Option R
 | [],K=>K [] []|(k,.box sh)::l,K=>(match s.obj k with|some (.box x)=>if mW x=false then sh.coe x fun d1=>if(sh.fill 0 d1).plain=true/\(sh.fill 0 d1).BN=true then JB s l fun d2 m2=>K (d1++d2) m2 else none else none|_=>none)|(k,.map kτ vτ)::l,K=>(match s.obj k with|some (.map kτ' vτ' es)=>if kτ'=kτ/\vτ'=vτ then(if AW vτ es=true then JB s l fun d2 m2=>K d2 (unE es::m2)else none)else none|_=>none)|(k,.dead e)::l,K=>(match s.obj k with|some o=>(match o.ty with| .arr M e'=>if e'=e then JB s l fun d2 m2=>K (.int M::d2) m2 else none|_=>none)|_=>none)|(k,.it)::l,K=>(match s.obj k with|some (.it x p)=>JB s l fun d2 m2=>K (.str x:: .int p::d2) m2|_=>none)
def NG (f g:Nat->Bool):List Cap->Bool
 | []=>true| .c _::l=>NG f g l| .v x::l=>x.ok f g&&NG f g l
theorem Wt {f g:Nat->Bool}:∀(l:List Cap) (i:Nat) (ds:List C),NG f g l=true->th f g (Fp l i ds)=true
 | [],_,_,_=>rfl| .c _::l,i,ds,h=>by simp only[NG]at h;simp only[Fp,th,V.ok,pk];exact Wt l _ _ h
 | .v x::l,i,ds,h=>by simp only[NG,bz]at h;simp only[Fp,th,bz];exact⟨h.1,Wt l _ _ h.2⟩
mutual
def Sh.okB (f g:Nat->Bool):Sh->Bool
 | .sl _ _ t=>g t| .sr (.l k) _ _ _ _=>f k| .vec (.l k) _ _=>f k| .agg _ l=>Sh.VA f g l| .as v=>v.ok f g| .fnc _ l=>NG f g l|_=>true
def Sh.VA (f g:Nat->Bool):List Sh->Bool
 | []=>true|s::l=>s.okB f g&&Sh.VA f g l
end
mutual
theorem Sh.Xz {f g:Nat->Bool}:∀(s:Sh) (i:Nat) (ds:List C),s.okB f g=true->(s.fill i ds).ok f g=true
 | .sl _ _ t,_,_,h=>by simpa only[Sh.fill,V.ok,Sh.okB]using h
 | .sr (.l k) _ _ _ _,_,_,h=>by simpa only[Sh.fill,V.ok,Sh.okB]using h
 | .sr (.g k) _ _ _ _,_,_,h=>by simp only[Sh.fill,V.ok]
 | .vec (.l k) _ _,_,_,h=>by simpa only[Sh.fill,V.ok,Sh.okB]using h
 | .vec (.g k) _ _,_,_,h=>by simp only[Sh.fill,V.ok]
 | .agg _ l,_,_,h=>by simp only[Sh.fill,V.ok,Sh.okB]at h ⊢;exact Sh.lC l _ _ h
 | .as v,_,_,h=>by simpa only[Sh.fill,Sh.okB]using h
 | .fnc _ l,i,ds,h=>by simp only[Sh.fill,V.ok,Sh.okB]at h ⊢;exact Wt l i ds h
 | .d _,_,_,_| .ts _ _,_,_,_| .wq _,_,_,_| .arr _,_,_,_=>by simp only[Sh.fill,V.ok]
theorem Sh.lC {f g:Nat->Bool}:∀(l:List Sh) (i:Nat) (ds:List C),Sh.VA f g l=true->th f g (Sh.EF l i ds)=true
 | [],_,_,_=>rfl|s::l,i,ds,h=>by simp only[Sh.VA,bz]at h;simp only[Sh.EF,th,bz];exact⟨Sh.Xz s _ _ h.1,Sh.lC l _ _ h.2⟩
end
def OSh.okB (f g:Nat->Bool):OSh->Bool
 | .box s=>s.okB f g| .map _ _=>true| .dead _| .it=>true
def Kh:List (Key × OSh)->Key->Bool
 | [],_=>false|(j,_)::l,k=>if j=k then true else Kh l k
def Tx (l:List (Key × OSh)) (n:Nat):Bool:=Kh l (.l n)
def Ln:List (Nat × Sh)->Nat->Bool
 | [],_=>false|(_,.sl _ _ t)::l,u=>if t=u then true else Ln l u|_::l,u=>Ln l u
def Mq (L:List (Key × OSh)):List (Key × O)->Bool
 | []=>true|(.g k,_)::l=>Kh L (.g k)&&Mq L l|(.l _,_)::l=>Mq L l
def Nx (f g:Nat->Bool):List (Key × OSh)->Bool
 | []=>true|(_,o)::l=>o.okB f g&&Nx f g l
def Td (f g:Nat->Bool):List (Nat × Sh)->Bool
 | []=>true|(_,s)::l=>s.okB f g&&Td f g l
def okS (sh:SSh) (loc:List (Key × O)):Bool:=
 Nx (Tx sh.loc) (Ln sh.env) sh.loc&&Mq sh.loc loc&&Td (Tx sh.loc) (Ln sh.env) sh.env
theorem UE:∀(l:List (Key × OSh)) (i j:Nat) (ds:List C) (ms:List Es) (k:Key),(AK (Bo l i j ds ms) k).isSome=Kh l k
 | [],_,_,_,_,_=>rfl|(n,.box s)::l,i,j,ds,ms,k=>by simp only[Bo,AK,Kh];split;{rfl};{exact UE l _ _ _ _ _}
 |(n,.map _ _)::l,i,j,ds,ms,k|(n,.dead _)::l,i,j,ds,ms,k|(n,.it)::l,i,j,ds,ms,k=>by simp only[Bo,AK,Kh];split;{rfl};{exact UE l _ _ _ _ _}
theorem q1j (l:List (Key × OSh)) (i j:Nat) (ds:List C) (ms:List Es):CB (Bo l i j ds ms)=Tx l:=by funext n;exact UE l i j ds ms (.l n)
theorem mF:∀(l:List (Nat × Sh)) (i:Nat) (ds:List C),Ct (Fw l i ds)=Ln l
 | [],_,_=>rfl|(_,s)::l,i,ds=>by have ih:=mF l (i+s.many) ds;funext u;have ih:=congrFun ih u;unfold Ct at ih ⊢;cases s <;> simp only[Fw,Ln,look] <;> (try exact ih);split;{rfl};{exact ih}
theorem UW {f g:Nat->Bool}:∀(l:List (Key × OSh)) (i j:Nat) (ds:List C) (ms:List Es),Nx f g l=true->FC f g (Bo l i j ds ms)=true
 | [],_,_,_,_,_=>rfl|(n,.box s)::l,i,j,ds,ms,h=>by simp only[Nx,bz]at h;simp only[Bo,FC,bz,O.okB,O.ok];exact⟨Sh.Xz s _ _ h.1,UW l _ _ _ _ h.2⟩
 |(n,.map _ vτ)::l,i,j,ds,ms,h=>by simp only[Nx,bz]at h;simp only[Bo,FC,bz,O.okB,O.ok];exact⟨by rw[eS vτ _,Bool.or_true],UW l _ _ _ _ h.2⟩
 |(n,.dead _)::l,i,j,ds,ms,h|(n,.it)::l,i,j,ds,ms,h=>by simp only[Nx,bz]at h;simp only[Bo,FC,bz,O.okB,O.ok];exact⟨trivial,UW l _ _ _ _ h.2⟩
theorem kC {f g:Nat->Bool}:∀(l:List (Nat × Sh)) (i:Nat) (ds:List C),Td f g l=true->Im f g (Fv l i ds)=true
 | [],_,_,_=>rfl|(n,s)::l,i,ds,h=>by simp only[Td,bz]at h;simp only[Fv,Im,bz];exact⟨Sh.Xz s _ _ h.1,kC l _ _ h.2⟩
theorem WW {L:List (Key × OSh)} {i j:Nat} {ds:List C} {ms:List Es}:∀{l:List (Key × O)},Mq L l=true->IG (Bo L i j ds ms) l=true
 | [],_=>rfl|(.g k,_)::l,h=>by simp only[Mq,bz]at h;simp only[IG,bz,UE];exact⟨h.1,WW h.2⟩
 |(.l _,_)::l,h=>by simp only[Mq]at h;simp only[IG];exact WW h
def TK {R:Type} (sh:SSh) (s:S) (K:List C->List Es->Option R):Option R:=
 Tc s sh.env fun d1=>JB s sh.loc fun d2 ms=>if okS sh s.loc=true then K (d1++d2) ms else none
theorem Xn:∀(l:List (Nat × Sh)) (i i':Nat) (ds ds':List C),(∀j,j<Iw l->dk ds (i+j)=dk ds' (i'+j))->Fv l i ds=Fv l i' ds'
 | [],_,_,_,_,_=>rfl|(n,s)::l,i,i',ds,ds',h=>by
  simp only[Iw]at h;simp only[Fv]
  rw[Sh.KY s i i' ds ds' (fun j hj=>h j (by omega)),Xn l (i+s.many) (i'+s.many) ds ds' (fun j hj=>by
   have:=h (s.many+j) (by omega)
   rwa [<-fy,<-fy]at this)]
theorem Xo:∀(l:List (Nat × Sh)) (i i':Nat) (ds ds':List C),(∀j,j<Iw l->dk ds (i+j)=dk ds' (i'+j))->Fw l i ds=Fw l i' ds'
 | [],_,_,_,_,_=>rfl|(n,s)::l,i,i',ds,ds',h=>by
  simp only[Iw]at h;simp only[Fw]
  have e:=Xo l (i+s.many) (i'+s.many) ds ds' (fun j hj=>by
   have:=h (s.many+j) (by omega)
   rwa [<-fy,<-fy]at this)
  cases s <;> simp only at e ⊢ <;> (try exact e);have h0:=h 0 (by simp only[Sh.many];omega);simp only[ir]at h0;rw[e,h0]
theorem JC:∀(l:List (Key × OSh)) (i i' m:Nat) (ds ds':List C) (ms:List Es),(∀j,j<FB l->dk ds (i+j)=dk ds' (i'+j))->Bo l i m ds ms=Bo l i' m ds' ms
 | [],_,_,_,_,_,_,_=>rfl|(n,.box s)::l,i,i',m,ds,ds',ms,h=>by
  simp only[FB]at h;simp only[Bo]
  rw[Sh.KY s i i' ds ds' (fun j hj=>h j (by omega)),JC l (i+s.many) (i'+s.many) m ds ds' ms (fun j hj=>by
   have:=h (s.many+j) (by omega)
   rwa [<-fy,<-fy]at this)]
 |(n,.map _ _)::l,i,i',m,ds,ds',ms,h=>by simp only[FB]at h;simp only[Bo];rw[JC l i i' (m+1) ds ds' ms h]
 |(n,.dead e)::l,i,i',m,ds,ds',ms,h=>by
  simp only[FB]at h;simp only[Bo];have h0:=h 0 (by omega);simp only[ir]at h0
  rw[h0,JC l (i+1) (i'+1) m ds ds' ms (fun j hj=>by
   have:=h (1+j) (by omega)
   rwa [<-fy,<-fy]at this)]
 |(n,.it)::l,i,i',m,ds,ds',ms,h=>by
  simp only[FB]at h;simp only[Bo];have h0:=h 0 (by omega);have h1:=h 1 (by omega);simp only[ir]at h0
  rw[h0,h1,JC l (i+2) (i'+2) m ds ds' ms (fun j hj=>by
   have:=h (2+j) (by omega)
   rwa [<-fy,<-fy]at this)]
theorem Qq:∀(l:List (Key × OSh)) (i m:Nat) (ds:List C) (e:Es) (ms:List Es),Bo l i (m+1) ds (e::ms)=Bo l i m ds ms
 | [],_,_,_,_,_=>rfl|(n,.box s)::l,i,m,ds,e,ms=>by simp only[Bo];rw[Qq l]
 |(n,.map _ _)::l,i,m,ds,e,ms=>by simp only[Bo];rw[Qq l];rfl
 |(n,.dead _)::l,i,m,ds,e,ms|(n,.it)::l,i,m,ds,e,ms=>by simp only[Bo];rw[Qq l]
theorem jY {R:Type} {r:R} {s:S}:∀(l:List (Nat × Sh)) {K:List C->Option R},Tc s l K=some r->
  ∃ds,K ds=some r/\ds.length=Iw l/\(∀f g,Im f g (Fv l 0 ds)=true->HX f g s (Fv l 0 ds))/\tkW s (Fw l 0 ds)
 | [],K,h=>⟨[],h,rfl,fun _ _ _=>trivial,trivial⟩|(n,sh)::l,K,h=>by
  simp only[Tc]at h;obtain⟨d1,h1,h2,h3,h4⟩:=Sh.XN sh _ h;simp only[bt]at h1;obtain⟨h5,h1⟩:=h1;cases htk:dI s sh d1 with
  |false=>rw[htk]at h1;cases h1
  |true=>
   rw[htk,cond_true]at h1;obtain⟨d2,h6,h7,h8,h9⟩:=jY l h1;have e1:sh.fill 0 (d1++d2)=sh.fill 0 d1:=Sh.KY sh 0 0 _ _ fun j hj=>Jc (by omega);have sft:∀j,dk (d1++d2) (sh.many+j)=dk d2 (0+j):=fun j=>by rw[Li (by omega),h2];congr 1;omega
   have e2:Fv l sh.many (d1++d2)=Fv l 0 d2:=Xn l _ 0 _ _ fun j hj=>sft j;have e3:Fw l sh.many (d1++d2)=Fw l 0 d2:=Xo l _ 0 _ _ fun j hj=>sft j;refine⟨_,h6,by simp[Iw,h2,h7],fun f g hok=>?_,?_⟩;{simp only[Fv,cf,e1,e2,Im,bz]at hok ⊢;exact⟨h3,hok.1,.inr h5,h8 f g hok.2⟩};{simp only[Fw,cf];cases sh <;> simp only[e3] <;> (try exact h9);simp only[dI]at htk;simp only[Sh.many]at h2;rw[Jc (by omega)];refine⟨?_,h9⟩;split at htk;{rename_i L hL;have:=fa htk;show s.live _=some _;rw[<-this];exact hL};{cases htk}}
theorem wW {s:S} {A':Key->Option O}:∀{l:List (Nat × Option Nat)},tkW s l->tkW (s.wA A') l
 | [],_=>trivial|(_,_)::_,h=>⟨h.1,wW h.2⟩
theorem kF {f g:Nat->Bool} {s:S} {A':Key->Option O}:∀{l:List (Nat × V)},HX f g s l->HX f g (s.wA A') l
 | [],_=>trivial|(_,_)::_,h=>⟨h.1,h.2.1,h.2.2.1,kF h.2.2.2⟩
theorem k9 {R:Type} {r:R} {sh:SSh} {s:S} {K:List C->List Es->Option R} (h:TK sh s K=some r):
  ∃ds ms,K ds ms=some r/\∀(X:Cx) (n:Nat) (A':Key->Option O),leA s.A A'->Dd X n (s.wA A') ((Jg sh s.A ds ms).wA A'):=by
 unfold TK at h;obtain⟨d1,h1,h2,h3,h4⟩:=jY _ h;have det:∃d2 ms,K (d1++d2) ms=some r/\okS sh s.loc=true/\d2.length=FB sh.loc/\∀A',leA s.A A'->Fc (s.wA A') (Bo sh.loc 0 0 d2 ms):=by
  -- what is read does not lean on A'
  have gen:∀(l:List (Key × OSh)) {K:List C->List Es->Option R},JB s l K=some r->∃ds ms,K ds ms=some r/\ds.length=FB l/\∀A',leA s.A A'->Fc (s.wA A') (Bo l 0 0 ds ms):=by
   intro l
   induction l with
   |nil=>intro K h;exact⟨[],[],h,rfl,fun _ _=>trivial⟩|cons p l ih=>
    obtain⟨k,o⟩:=p;intro K h;cases o with
    |box sh=>
     simp only[JB]at h;split at h
     ·rename_i x hx;simp only[bt]at h;obtain⟨h0,h⟩:=h;obtain⟨d1,h1,h2,h3,h4⟩:=Sh.XN sh _ h;simp only[bt]at h1;obtain⟨h5,h1⟩:=h1;obtain⟨d2,ms,h6,h7,h8⟩:=ih h1;have e1:sh.fill 0 (d1++d2)=sh.fill 0 d1:=Sh.KY sh 0 0 _ _ fun j hj=>Jc (by omega);have e2:Bo l sh.many 0 (d1++d2) ms=Bo l 0 0 d2 ms:=JC l _ 0 0 _ _ _ fun j hj=>by rw[Li (by omega),h2];congr 1;omega
      refine⟨_,_,h6,by simp[FB,h2,h7],fun A' hA=>?_⟩;simp only[Bo,cf,e1,e2,Fc];rw[DT hA hx];exact⟨⟨h3,h4 (by intro e;subst e;simp[mW]at h0),h5.1,h5.2⟩,h8 A' hA⟩
     ·cases h
    |map kτ vτ=>
     simp only[JB]at h;split at h;{rename_i kτ' vτ' es hx;simp only[bt]at h;obtain⟨⟨rfl,rfl⟩,hd,h⟩:=h;obtain⟨d2,ms,h6,h7,h8⟩:=ih h;refine⟨_,_,h6,by simp[FB,h7],fun A' hA=>?_⟩;simp only[Bo,Fc,Qq];rw[DT hA hx];exact⟨⟨rfl,rfl,(XW hd).symm⟩,h8 A' hA⟩};{cases h}
    |dead e=>
     simp only[JB]at h;split at h
     ·rename_i o hx;split at h
      ·rename_i M e' ht;simp only[bt]at h;obtain⟨rfl,h⟩:=h;obtain⟨d2,ms,h6,h7,h8⟩:=ih h;have e2:Bo l 1 0 (.int M::d2) ms=Bo l 0 0 d2 ms:=JC l _ 0 0 _ _ _ fun j hj=>by unfold dk;simp[py 1 j]
       refine⟨_,_,h6,by simp[FB,h7,py],fun A' hA=>?_⟩;simp only[Bo,cf,e2,Fc];rw[DT hA hx];refine⟨?_,h8 A' hA⟩;have:(dk (C.int M::d2) 0).toInt.toNat=M:=by simp[dk,bp]
       rw[this];cases o <;> exact ht.symm
      ·cases h
     ·cases h
    |it=>
     simp only[JB]at h;split at h
     ·rename_i x p hx;obtain⟨d2,ms,h6,h7,h8⟩:=ih h;have e2:Bo l 2 0 (.str x:: .int p::d2) ms=Bo l 0 0 d2 ms:=JC l _ 0 0 _ _ _ fun j hj=>by unfold dk;simp[py 2 j]
      refine⟨_,_,h6,by simp[FB,h7];omega,fun A' hA=>?_⟩;simp only[Bo,cf,e2,Fc];rw[DT hA hx];refine⟨?_,h8 A' hA⟩;have e3:(dk (C.str x::C.int p::d2) 0).toStr=x:=by simp[dk,C.toStr]
      have e4:(dk (C.str x::C.int p::d2) 1).toInt.toNat=p:=by simp[dk,bp]
      rw[e3,e4];exact⟨rfl,rfl⟩
     ·cases h
  obtain⟨d2,ms,h5,h6,h7⟩:=gen _ h1;simp only[bt]at h5;exact⟨d2,ms,h5.2,h5.1,h6,h7⟩
 obtain⟨d2,ms,h5,h6,h7,h8⟩:=det;refine⟨d1++d2,ms,h5,fun X n A' hA=>?_⟩;have e1:Fv sh.env 0 (d1++d2)=Fv sh.env 0 d1:=Xn _ 0 0 _ _ fun j hj=>Jc (by omega);have e2:Fw sh.env 0 (d1++d2)=Fw sh.env 0 d1:=Xo _ 0 0 _ _ fun j hj=>Jc (by omega);have e3:Bo sh.loc (Iw sh.env) 0 (d1++d2) ms=Bo sh.loc 0 0 d2 ms:=JC _ _ 0 0 _ _ _ fun j hj=>by rw[Li (by omega),h2];congr 1;omega
 simp only[okS,bz]at h6;have hL:CB (Jg sh s.A (d1++d2) ms).loc=Tx sh.loc:=q1j ..;have hT:Ct (Jg sh s.A (d1++d2) ms).tk=Ln sh.env:=mF ..;refine xV rfl ?_ ?_ (Mp (WW h6.1.2)) ?_ ?_;{show Fc (s.wA A') (Bo sh.loc (Iw sh.env) 0 (d1++d2) ms);rw[e3];exact h8 A' hA};{show FC (CB (Jg sh s.A (d1++d2) ms).loc) (Ct (Jg sh s.A (d1++d2) ms).tk) _=true;rw[hL,hT];exact UW _ _ _ _ _ h6.1.1};{show tkW (s.wA A') (Fw sh.env 0 (d1++d2));rw[e2];exact wW h4};{show HX (CB (Jg sh s.A (d1++d2) ms).loc) (Ct (Jg sh s.A (d1++d2) ms).tk) (s.wA A') (Fv sh.env 0 (d1++d2));refine kF ?_;rw[hL,hT,e1];exact h3 _ _ (kC _ _ _ h6.2)}
theorem AJ.bM {Γ:G} {w:World} {s:S} (c:AJ Γ w s) {k:Key} {x x':V} (h:s.obj k=some (.box x)) (h1:Own Γ w k (.box x)->Own Γ w k (.box x')) (h2:(O.box x).JR->(O.box x').JR):AJ Γ w (s.put k (.box x')):=by refine⟨c.hH,c.hZ,c.hκ,fun j o hj=>?_,fun j hj=>?_,c.Jo (fun j hj=>?_),c.tok,c.xi,c.hgl,c.hoo,c.hσ⟩;{rw[Db]at hj;split at hj;{rename_i e;subst e;cases hj;exact(c.obj _ _ h).imp (fun h=>⟨h.1,h2 h.2⟩) h1};{exact c.obj j o hj}};{rw[Db];split;{simp};{exact c.dom j hj}};{unfold S.Bq at hj ⊢;rw[Db];split;{rename_i e;subst e;rw[h]at hj;cases hj};{exact hj}}
def mvK (K:Key) (t:Nat) (k:Key):Key:=if k=K then .l t else k
def AtE (X:Cx) (n:Nat) (Γ0:G) (K:Key) (t:Nat) (s:S) (a:Act) (w:World):Prop:=
 ∃Γ,GLe Γ0 Γ/\Γ.gl=X.gl/\AJ Γ w s/\Fm Γ s a.tmps/\a.tmps.size=n/\a.defers=[]/\AOk s.A/\∀x,Γ.ι K=some x->Γ.ι (.l t)=some x
theorem qO {Γ:G} {K:Key} {t:Nat} (h:∀x,Γ.ι K=some x->Γ.ι (.l t)=some x) {hm:Option Key} (hn:hm≠some K):GM Γ Γ (mvK K t) hm:=
 ⟨Hp.le_refl _,fun k x hk=>by
  unfold mvK;split;{rename_i e;subst e;exact h x hk}
  ·exact hk,fun _ _ h=>h,fun k b p sz e hk=>by
  have:mvK K t k=k:=by unfold mvK;split;{rename_i e2;subst e2;exact absurd e hn};{rfl}
  rw[this];exact⟨hk,rfl⟩⟩
theorem AE.mv {Γ:G} {K:Key} {t:Nat} (h:∀x,Γ.ι K=some x->Γ.ι (.l t)=some x) {x:V} {v:Value} (hr:AE Γ x v):AE Γ (x.ren (mvK K t) id) v:=
 AE.ren (qO h (by simp)) (fun _ _ h=>h) hr
def Ht (K:Key) (t:Nat):List Key->S->S
 | [],s=>s|k::ks,s=>if k=K\/k= .l t then Ht K t ks s else(match s.obj k with|some (.box x)=>Ht K t ks (s.put k (.box (x.ren (mvK K t) id)))|_=>Ht K t ks s)
theorem VZ (K:Key) (t:Nat):∀(ks:List Key) (s:S),(Ht K t ks s).A=s.A
 | [],_=>rfl|k::ks,s=>by simp only[Ht];split;{exact VZ K t ks s};{split;{exact VZ K t ks _};{exact VZ K t ks s}}
def WkE (K:Key) (t:Nat) (s s':S):Prop:=s'.A=s.A/\∀(X:Cx) (n:Nat) (A':Key->Option O),leA s.A A'->∀(Γ0:G) (a:Act) (w:World),AtE X n Γ0 K t (s.wA A') a w->AtE X n Γ0 K t (s'.wA A') a w
theorem WkE.refl {K:Key} {t:Nat} (s:S):WkE K t s s:=⟨rfl,fun _ _ _ _ _ _ _ h=>h⟩
theorem WkE.trans {K:Key} {t:Nat} {a b c:S} (h:WkE K t a b) (h':WkE K t b c):WkE K t a c:=
 ⟨h'.1.trans h.1,fun X n A' hA Γ0 ac w hat=>h'.2 X n A' (by rw[h.1];exact hA) Γ0 ac w (h.2 X n A' hA Γ0 ac w hat)⟩
theorem zM {X:Cx} {n:Nat} {Γ0:G} {K:Key} {t:Nat} {a:Act} {w:World} {s:S} {k:Key} {x:V} (hk:¬(k=K\/k= .l t)) (hx:s.obj k=some (.box x)) (h:AtE X n Γ0 K t s a w):AtE X n Γ0 K t (s.put k (.box (x.ren (mvK K t) id))) a w:=by
 obtain⟨Γ,g1,g3,c,hs,hn,hf,hA,hι⟩:=h;have hkK:(some k:Option Key)≠some K:=fun e=>hk (.inl (by cases e;rfl));refine⟨Γ,g1,g3,c.bM hx (fun xd=>?_) (fun hv=>?_),hs,hn,hf,hA,hι⟩
 ·obtain⟨b,cells,T,h1,h2,h3,h4,h5,h6,h7,h8⟩:=xd;have hmv:mvK K t k=k:=by unfold mvK;rw[if_neg (fun e=>hk (.inl e))]
  have:=AA.CC (θ:=id) (qO hι hkK) h8 h6;simp only[Option.map_some,hmv]at this;exact⟨b,cells,T,by rw[V.Ib];exact h1,h2,h3,h4,by rw[V.Ib];exact h5,by rw[V.Ib];exact this,by rw[V.bJ];exact h7,by rw[V.VU];exact h8⟩
 ·obtain⟨e,rfl⟩:=hv;exact⟨e,by simp[V.ren]⟩
theorem Va (K:Key) (t:Nat):∀(ks:List Key) (s:S),WkE K t s (Ht K t ks s)
 | [],s=>WkE.refl s|k::ks,s=>by simp only[Ht];split;{exact Va K t ks s};{rename_i hk;split;{rename_i x hx;exact WkE.trans (b:=s.put k (.box (x.ren (mvK K t) id))) ⟨rfl,fun X n A' hA Γ0 a w h=>zM (s:=s.wA A') hk (DT hA hx) h⟩ (Va K t ks _)};{exact Va K t ks s}}
def PF (K:Key) (t:Nat) (ks:List Key) (s:S):S:=
 match s.obj K with
 |some (.box (.d (.arr M e) cc))=>if(s.obj (.l t)).isNone=true then
   {Ht K t ks ((s.put K (.dead (.arr M e))).put (.l t) (.box (.d (.arr M e) cc)))with env:=s.env.map fun p=>(p.1,p.2.ren (mvK K t) id)} else s
 |_=>s
theorem yW {X:Cx} {n:Nat} {Γ0:G} {K:Key} {t:Nat} {a:Act} {w:World} {s:S} {M:Nat} {e:Ty} {cc:C} (hK:s.obj K=some (.box (.d (.arr M e) cc))) (ht:s.obj (.l t)=none) (h:At X n Γ0 s a w):
  AtE X n Γ0 K t ((s.put K (.dead (.arr M e))).put (.l t) (.box (.d (.arr M e) cc))) a w:=by
 obtain⟨Γ,g1,g3,c,hs,hn,hf,hA⟩:=h;have xa:∀j,jo ((s.put K (.dead (.arr M e))).put (.l t) (.box (.d (.arr M e) cc))) j=jo {s with loc:=(Key.l t,O.box (.d (.arr M e) cc))::(K,O.dead (.arr M e))::s.loc} j:=fun j=>by rw[Db,Db,show jo {s with loc:=(Key.l t,O.box (.d (.arr M e) cc))::(K,O.dead (.arr M e))::s.loc} j=jo {({s with loc:=(K,O.dead (.arr M e))::s.loc}:S)with loc:=(Key.l t,O.box (.d (.arr M e) cc))::({s with loc:=(K,O.dead (.arr M e))::s.loc}:S).loc} j from rfl,Cv,Cv]
 rcases c.obj K _ hK with⟨h1,h2⟩|xd
 · -- without a block
  refine⟨Γ,g1,g3,⟨c.hH,c.hZ,c.hκ,fun j o hj=>?_,fun j hj=>?_,c.Jo (fun j hj=>?_),c.tok,c.xi,c.hgl,c.hoo,c.hσ⟩,hs,hn,hf,hA,fun x hx=>by rw[h1]at hx;cases hx⟩;{rw[Db]at hj;split at hj;{rename_i e1;subst e1;cases hj;exact .inl ⟨c.PB ht,h2⟩};{rw[Db]at hj;split at hj;{rename_i e1;subst e1;cases hj;exact .inl ⟨h1,trivial⟩};{exact c.obj j o hj}}};{rw[Db];split;{simp};{rw[Db];split;{simp};{exact c.dom j hj}}};{unfold S.Bq at hj ⊢;rw[Db];split;{rename_i e1;subst e1;rw[ht]at hj;cases hj};{rw[Db];split;{rfl};{exact hj}}}
 ·obtain⟨b,cells,T,e1,e2,e3,⟨fr0,e4,xn⟩,e5,e6,e7,e8⟩:=xd;have hx0:AA Γ none [] (.d (.arr M e) cc) (chunk cells.toList 0 (V.d (.arr M e) cc).ty.size):=by simp only[AA]at e6 ⊢;exact e6
  obtain⟨k1,k2,k3⟩:=c.uB (w':=w) (j:=.l t) (x':=.d (.arr M e) cc) hK rfl e1 ht e4 xn (fun _ _=>rfl) rfl rfl e5 hx0 e7 e8 (fun arr T' fr h=>by rw[e4]at h;cases h;rfl);have hkt:K≠.l t:=fun e=>by rw[e,ht]at hK;cases hK
  refine⟨_,g1.trans k3,by rw[k3.gl];exact g3,k1.congr xa (fun _=>rfl) (fun _ h=>h),hs.Bd k2,hn,hf,hA,fun x hx=>?_⟩;have:Γ.ι K=some x:=by simpa[G.addKey,Dl,hkt]using hx
  rw[e1]at this;cases this;simp[G.addKey,Dl,V.ty]
theorem yV (K:Key) (t:Nat) (ks:List Key) (s:S):(PF K t ks s).A=s.A/\∀(X:Cx) (n:Nat) (A':Key->Option O),leA s.A A'->Dd X n (s.wA A') ((PF K t ks s).wA A'):=by
 unfold PF;split
 ·rename_i M e cc hK;split
  ·rename_i ht;have ht':s.obj (.l t)=none:=by simpa using ht
   refine⟨VZ K t ks _,fun X n A' hA Γ0 a w hat=>?_⟩;have h1:=yW (s:=s.wA A') (DT hA hK) (by rw[Jw];exact ht') hat;obtain⟨_,h2⟩:=Va K t ks ((s.put K (.dead (.arr M e))).put (.l t) (.box (.d (.arr M e) cc)));obtain⟨Γ,g1,g3,c,hs,hn,hf,xq,hι⟩:=h2 X n A' hA Γ0 a w h1;refine⟨Γ,g1,g3,c.congr (fun _=>rfl) (fun _=>rfl) (fun _ h=>h),fun i=>?_,hn,hf,xq⟩;have xy:((Ht K t ks ((s.put K (.dead (.arr M e))).put (.l t) (.box (.d (.arr M e) cc)))).wA A').env=s.env:=by
    have:∀(ks:List Key) (s:S),(Ht K t ks s).env=s.env:=by
     intro ks
     induction ks with
     |nil=>intro s;rfl|cons k ks ih=>
      intro s;simp only[Ht];split;{exact ih s};{split;{exact ih _};{exact ih s}}
    exact this ks _
   have hi:=hs i;have e1:S.get ((Ht K t ks ((s.put K (.dead (.arr M e))).put (.l t) (.box (.d (.arr M e) cc)))).wA A') i=(look s.env i).getD .any:=by unfold S.get;rw[xy]
   rw[e1]at hi;show AE Γ ((look (s.env.map fun p=>(p.1,p.2.ren (mvK K t) id)) i).getD .any) _;rw[ZP];cases hl:look s.env i with
   |none=>trivial|some x=>
    rw[hl]at hi;exact AE.mv hι hi
  ·exact⟨rfl,fun _ _ _ _=>Dd.refl _⟩
 ·exact⟨rfl,fun _ _ _ _=>Dd.refl _⟩
def T0:Nat:=1000000000000000
mutual
def V.DP:Sh->V->V
 | .vec (.l a) eb e,x=>(match x with| .emp eb' e'=>if eb'=eb/\e'=e then .sr (.l (a+T0)) [] 0 0 none eb e else x|x=>x)| .agg _ l,x=>(match x with| .agg τ xs=>.agg τ (V.FU l xs)|x=>x)|_,x=>x
def V.FU:List Sh->List V->List V
 |s::l,x::xs=>V.DP s x::V.FU l xs|_,xs=>xs
end
theorem V.xL:∀(l:List Sh) (xs:List V),(V.FU l xs).length=xs.length
 | [],xs=>by simp[V.FU]
 |s::l,[]=>by simp[V.FU]
 |s::l,x::xs=>by simp[V.FU,V.xL l xs]
theorem V.Sd (s:Sh) (x:V):(V.DP s x).ty=x.ty:=by unfold V.DP;split;{split;{split;{rename_i h;obtain⟨rfl,rfl⟩:=h;rfl};{rfl}};{rfl}};{split <;> rfl};{rfl}
theorem V.xK (s:Sh) (x:V):(V.DP s x).plain=x.plain:=by unfold V.DP;split;{split;{split;{rfl};{rfl}};{rfl}};{split <;> rfl};{rfl}
mutual
theorem V.xJ:∀(s:Sh) (x:V),(V.DP s x).BN=x.BN
 | .vec (.l a) eb e,x=>by simp only[V.DP];split;{split <;> simp[V.BN]};{rfl}
 | .agg _ l,x=>by simp only[V.DP];split;{simp only[V.BN];exact V.xM l _};{rfl}
 | .vec (.g _) _ _,_| .d _,_| .sl _ _ _,_| .ts _ _,_| .sr _ _ _ _ _,_| .wq _,_| .arr _,_| .as _,_| .fnc _ _,_=>by simp[V.DP]
theorem V.xM:∀(l:List Sh) (xs:List V),V.Cd (V.FU l xs)=V.Cd xs
 | [],xs=>by simp[V.FU]
 |s::l,[]=>by simp[V.FU]
 |s::l,x::xs=>by simp only[V.FU,V.Cd,V.xJ s x,V.xM l xs]
end
mutual
theorem AA.DP {Γ:G} {hm:Option Key}:∀(s:Sh) (x:V) {p:List Nat} {vs:List Value},AA Γ hm p x vs->AA Γ hm p (V.DP s x) vs
 | .vec (.l a) eb e,x,p,vs,h=>by simp only[V.DP];split;{split;{simp only[AA]at h ⊢;obtain⟨a,h⟩:=h;exact .inl ⟨trivial,trivial,a,h⟩};{exact h}};{exact h}
 | .agg _ l,x,p,vs,h=>by simp only[V.DP];split;{simp only[AA]at h ⊢;exact⟨h.1,h.2.1,by rw[V.xL];exact h.2.2.1,h.2.2.2.1,AV.FU l _ h.2.2.2.2⟩};{exact h}
 | .vec (.g _) _ _,_,_,_,h| .d _,_,_,_,h| .sl _ _ _,_,_,_,h| .ts _ _,_,_,_,h| .sr _ _ _ _ _,_,_,_,h| .wq _,_,_,_,h| .arr _,_,_,_,h| .as _,_,_,_,h| .fnc _ _,_,_,_,h=>by simpa only[V.DP]using h
theorem AV.FU {Γ:G} {hm:Option Key}:∀(l:List Sh) (xs:List V) {p:List Nat} {i:Nat} {τ:Ty} {vs:List Value},AV Γ hm p i τ xs vs->AV Γ hm p i τ (V.FU l xs) vs
 | [],xs,_,_,_,_,h=>by simpa only[V.FU]using h
 |s::l,[],_,_,_,_,h=>by simpa only[V.FU]using h
 |s::l,x::xs,_,_,_,_,h=>by simp only[AV,V.FU,V.Sd]at h ⊢;obtain⟨⟨o,f,h1,h2,h3,h4⟩,h5⟩:=h;exact⟨⟨o,f,h1,h2,h3,AA.DP s x h4⟩,AV.FU l xs h5⟩
end
mutual
def V.dU:Sh->V->List (Nat × Ty)
 | .vec (.l a) eb e,x=>(match x with| .emp eb' e'=>if eb'=eb/\e'=e then[(a+T0,e)]else[]| .wo=>[(a+T0,e)]|_=>[])| .agg _ l,x=>(match x with| .agg _ xs=>V.xI l xs|_=>[])|_,_=>[]
def V.xI:List Sh->List V->List (Nat × Ty)
 |s::l,x::xs=>V.dU s x++V.xI l xs|_,_=>[]
end
def Ow:List (Nat × Ty)->S->S
 | [],s=>s|(t,e)::l,s=>if(s.obj (.l t)).isNone=true then Ow l (s.put (.l t) (.box (.d (.arr 0 e) (.agg []))))else Ow l s
def V.LH (s:Sh) (x:V):V:=
 match s,x with
 | .vec (.l a) eb e,.wo=>.sr (.l (a+T0)) [] 0 0 none eb e|s,x=>V.DP s x
def Sb:List (Nat × Sh)->S->S
 | [],s=>s|(i,sh)::l,s=>(match V.dU sh (s.get i)with| []=>Sb l s|ns=>Sb l (Ow ns (s.set (some i) (V.LH sh (s.get i)))))
def Mc:List (Key × OSh)->S->S
 | [],s=>s|(k,.box sh)::l,s=>(match s.obj k with|some (.box x)=>(match V.dU sh x with| []=>Mc l s|ns=>Mc l (Ow ns (s.put k (.box (V.DP sh x)))))|_=>Mc l s)|_::l,s=>Mc l s
section
mutual
def V.FA (s:S):V->V
 | .agg τ vs=>.agg τ (V.Gn s vs)|x=>DA s x
def V.Gn (s:S):List V->List V
 | []=>[]|x::xs=>V.FA s x::V.Gn s xs
end
mutual
def V.Qo:V->List Nat
 | .agg _ vs=>V.UT vs|x=>Fb x
def V.UT:List V->List Nat
 | []=>[]|x::xs=>V.Qo x++V.UT xs
end
mutual
def V.frz (s:S):Sh->V->V
 | .d _,x=>x.FA s| .agg _ l,x=>(match x with| .agg τ xs=>.agg τ (V.Ew s l xs)|x=>x)|_,x=>x
def V.Ew (s:S):List Sh->List V->List V
 |sh::l,x::xs=>V.frz s sh x::V.Ew s l xs|_,xs=>xs
end
mutual
def V.Iy:Sh->V->List Nat
 | .d _,x=>x.Qo| .agg _ l,x=>(match x with| .agg _ xs=>V.Tr l xs|_=>[])|_,_=>[]
def V.Tr:List Sh->List V->List Nat
 |sh::l,x::xs=>V.Iy sh x++V.Tr l xs|_,_=>[]
end
theorem AA.Rp {Γ Γ':G} (p:Ba Γ Γ') {q:List Nat} {x:V} {vs:List Value} (h:AA Γ none q x vs):AA Γ' none q x vs:=AA.Bd p (hm:=none) trivial x h
theorem oI (s:S) (x:V):(DA s x).ty=x.ty/\(DA s x).plain=x.plain:=by
 unfold DA;split;{split;{split;{split;{split;{exact⟨rfl,rfl⟩};{exact⟨rfl,rfl⟩}};{exact⟨rfl,rfl⟩}};{exact⟨rfl,rfl⟩}};{exact⟨rfl,rfl⟩}};{exact⟨rfl,rfl⟩}
theorem V.oB (s:S) (x:V):(x.FA s).ty=x.ty/\(x.FA s).plain=x.plain:=by cases x <;> simp only[V.FA] <;> first|exact oI s _|exact⟨rfl,rfl⟩
theorem V.oD (s:S):∀xs:List V,(V.Gn s xs).length=xs.length
 | []=>rfl|x::xs=>by simp[V.Gn,V.oD s xs]
theorem V.YO (s:S) (sh:Sh) (x:V):(V.frz s sh x).ty=x.ty/\(V.frz s sh x).plain=x.plain:=by unfold V.frz;split;{exact V.oB s x};{split <;> exact⟨rfl,rfl⟩};{exact⟨rfl,rfl⟩}
theorem V.lS (s:S):∀(l:List Sh) (xs:List V),(V.Ew s l xs).length=xs.length
 | [],xs=>by simp[V.Ew]
 |_::_,[]=>by simp[V.Ew]
 |sh::l,x::xs=>by simp[V.Ew,V.lS s l xs]
section
variable {Γ Γ':G} {s:S} {js:List Nat} (p:Ba Γ Γ') (hc:∀(x:V) (v:Value),AE Γ x v->(∀j∈Fb x,j∈js)->AE Γ' (DA s x) v)
include p hc
theorem AA.DA {x:V} {q:List Nat} {vs:List Value} (hx:x.plain=true) (ha:x.ty.isAgg=false) (h:AA Γ none q x vs) (hk:∀j∈Fb x,j∈js):AA Γ' none q (DA s x) vs:=by
 by_cases hn:Fb x=[];{rw[oG (fun j hj=>by rw[hn]at hj;cases hj)];exact h.Rp p}
 ·cases x <;> (try (exact absurd rfl hn));rename_i k q0 lo n cp eb e;cases k with
  |g k=>exact absurd rfl hn|l j=>
   have hv:∃v,vs=[v]/\AE Γ (.sr (.l j) q0 lo n cp eb e) v:=by have h':=h;simp only[AA]at h;rcases h with⟨_,_,a,rfl⟩|⟨b,τ0,o,m,cap,_,_,_,⟨a,rfl,_⟩,_⟩;{exact⟨_,rfl,(Bx rfl rfl).2 ⟨by simpa only[AA]using h',rfl⟩⟩};{exact⟨_,rfl,(Bx rfl rfl).2 ⟨by simpa only[AA]using h',rfl⟩⟩}
   obtain⟨v,rfl,hv⟩:=hv;have h2:=hc _ _ hv hk;have h3:=oI s (.sr (.l j) q0 lo n cp eb e);have hvc:v.cells.toList=[v]:=by rcases Gw hv with⟨_,_,a,rfl⟩|⟨b,τ0,o,m,cap,a,_,_,_,rfl,_⟩ <;> rfl
   obtain⟨h4,_⟩:=(Bz (by rw[h3.2];rfl)).1 h2;rw[hvc]at h4;exact AA.Dn _ h4
mutual
theorem AA.FA:∀(x:V) {q:List Nat} {vs:List Value},AA Γ none q x vs->(∀j∈x.Qo,j∈js)->AA Γ' none q (x.FA s) vs
 | .agg τ xs,q,vs,h,hk=>by simp only[V.FA,V.Qo]at hk ⊢;simp only[AA]at h ⊢;exact⟨h.1,h.2.1,by rw[V.oD];exact h.2.2.1,h.2.2.2.1,AV.Gn xs h.2.2.2.2 hk⟩
 | .any,q,vs,_,_=>by simp only[V.FA,Go.E.DA,AA]
 | .tup _,q,vs,h,_=>by simp only[AA]at h
 | .d τ c,q,vs,h,_=>by simp only[V.FA,Go.E.DA];exact h.Rp p
 | .sl _ _ _ _,q,vs,h,hk| .ts _ _ _,q,vs,h,hk| .emp _ _,q,vs,h,hk| .wo,q,vs,h,hk| .ptr _ _ _,q,vs,h,hk| .wq _ _,q,vs,h,hk| .mp _,q,vs,h,hk| .fn _ _,q,vs,h,hk| .top _,q,vs,h,hk=>by simp only[V.FA,Go.E.DA];exact h.Rp p
 | .sr k q0 lo n cp eb e,q,vs,h,hk=>by simp only[V.FA];exact AA.DA p hc rfl rfl h (by simpa only[V.Qo]using hk)
theorem AV.Gn:∀(xs:List V) {q:List Nat} {i:Nat} {τ:Ty} {vs:List Value},AV Γ none q i τ xs vs->(∀j∈V.UT xs,j∈js)->AV Γ' none q i τ (V.Gn s xs) vs
 | [],_,_,_,_,_,_=>by simp only[V.Gn,AV]
 |x::xs,_,_,_,_,h,hk=>by simp only[AV,V.Gn,(V.oB s x).1]at h ⊢;simp only[V.UT,ic]at hk;obtain⟨⟨o,f,h1,h2,h3,h4⟩,h5⟩:=h;exact⟨⟨o,f,h1,h2,h3,AA.FA x h4 fun j hj=>hk j (.inl hj)⟩,AV.Gn xs h5 fun j hj=>hk j (.inr hj)⟩
end
mutual
theorem AA.frz:∀(sh:Sh) (x:V) {q:List Nat} {vs:List Value},AA Γ none q x vs->(∀j∈V.Iy sh x,j∈js)->AA Γ' none q (V.frz s sh x) vs
 | .d _,x,q,vs,h,hk=>by simp only[V.frz,V.Iy]at hk ⊢;exact AA.FA p hc x h hk
 | .agg _ l,x,q,vs,h,hk=>by simp only[V.frz,V.Iy]at hk ⊢;split;{simp only[AA]at h ⊢;exact⟨h.1,h.2.1,by rw[V.lS];exact h.2.2.1,h.2.2.2.1,AV.Ew l _ h.2.2.2.2 hk⟩};{exact h.Rp p}
 | .sl _ _ _,x,q,vs,h,_| .ts _ _,x,q,vs,h,_| .sr _ _ _ _ _,x,q,vs,h,_| .wq _,x,q,vs,h,_| .arr _,x,q,vs,h,_| .as _,x,q,vs,h,_| .vec _ _ _,x,q,vs,h,_| .fnc _ _,x,q,vs,h,_=>by simp only[V.frz];exact h.Rp p
theorem AV.Ew:∀(l:List Sh) (xs:List V) {q:List Nat} {i:Nat} {τ:Ty} {vs:List Value},AV Γ none q i τ xs vs->(∀j∈V.Tr l xs,j∈js)->AV Γ' none q i τ (V.Ew s l xs) vs
 | [],xs,_,_,_,_,h,_=>by simp only[V.Ew];exact AV.Bd p (hm:=none) trivial xs h
 |_::_,[],_,_,_,_,_,_=>by simp only[V.Ew,AV]
 |sh::l,x::xs,_,_,_,_,h,hk=>by simp only[AV,V.Ew,(V.YO s sh x).1]at h ⊢;simp only[V.Tr,ic]at hk;obtain⟨⟨o,f,h1,h2,h3,h4⟩,h5⟩:=h;exact⟨⟨o,f,h1,h2,h3,AA.frz sh x h4 fun j hj=>hk j (.inl hj)⟩,AV.Ew l xs h5 fun j hj=>hk j (.inr hj)⟩
end
theorem AE.frz {sh:Sh} {x:V} {v:Value} (h:AE Γ x v) (hk:∀j∈V.Iy sh x,j∈js):AE Γ' (V.frz s sh x) v:=by
 by_cases hp:x.plain=true;{obtain⟨h1,h2⟩:=(Bz hp).1 h;exact(Bz (by rw[(V.YO s sh x).2];exact hp)).2 ⟨AA.frz p hc sh x h1 hk,by rw[(V.YO s sh x).1];exact h2⟩}
 ·have:V.frz s sh x=x:=by cases x <;> simp[V.plain]at hp <;> (unfold V.frz;split <;> rfl)
  rw[this];exact h.Bd p
end
def IP (s:S):List (Nat × Sh)->List Nat
 | []=>[]|(i,sh)::l=>V.Iy sh (s.get i)++IP s l
def IQ (s0:S):List (Nat × Sh)->S->S
 | [],s=>s|(i,sh)::l,s=>IQ s0 l (match V.Iy sh (s0.get i)with| []=>s|_=>s.set (some i) (V.frz s0 sh (s0.get i)))
def Jh (sh:SSh) (s:S):S:=
 match IP s sh.env with
 | []=>s|js=>IQ s sh.env (Dr js s)
theorem YN (s0:S):∀(l:List (Nat × Sh)) (s:S),(IQ s0 l s).loc=s.loc/\(IQ s0 l s).tk=s.tk/\(IQ s0 l s).A=s.A
 | [],s=>⟨rfl,rfl,rfl⟩|(i,sh)::l,s=>by simp only[IQ];have:=YN s0 l (match V.Iy sh (s0.get i)with| []=>s|_=>s.set (some i) (V.frz s0 sh (s0.get i)));refine⟨this.1.trans ?_,this.2.1.trans ?_,this.2.2.trans ?_⟩ <;> (split <;> rfl)
theorem lP {Γ':G} {tmps:Array Value} {s0:S} {js:List Nat} (h0:∀i sh,(∀j∈V.Iy sh (s0.get i),j∈js)->AE Γ' (V.frz s0 sh (s0.get i)) (tmps.getD i undef)):∀(l:List (Nat × Sh)) (s:S),(∀j∈IP s0 l,j∈js)->(∀i,AE Γ' (s.get i) (tmps.getD i undef))->∀i,AE Γ' ((IQ s0 l s).get i) (tmps.getD i undef)
 | [],s,_,h=>h|(i,sh)::l,s,hk,h=>by simp only[IQ];simp only[IP,ic]at hk;refine lP h0 l _ (fun j hj=>hk j (.inr hj)) fun m=>?_;split;{exact h m};{rw[Jk];split;{rename_i e;cases e;exact h0 i sh fun j hj=>hk j (.inl hj)};{exact h m}}
theorem zL {X:Cx} {n:Nat} {Γ0:G} {a:Act} {w:World} {sh:SSh} {s:S} (h:At X n Γ0 s a w):At X n Γ0 (Jh sh s) a w:=by unfold Jh;split;{exact h};{obtain⟨Γ,g1,g3,c,hs,hn,hf,hA⟩:=h;obtain⟨Γ',g,p,c',hcv⟩:=UU (IP s sh.env) s c;have hl:=YN s sh.env (Dr (IP s sh.env) s);have hE:=Qp (IP s sh.env) s;refine⟨Γ',g1.trans g,g.gl.trans g3,c'.congr (fun k=>?_) (fun t=>?_) (fun t ht=>?_),?_,hn,hf,by rw[hl.2.2,hE.2];exact hA⟩;{unfold jo;rw[hl.1,hl.2.2]};{unfold S.live;rw[hl.2.1]};{unfold S.known at ht ⊢;rw[hl.2.1];exact ht};{refine lP (js:=IP s sh.env) (fun i sh' hk=>AE.frz p hcv (hs i) hk) sh.env _ (fun j hj=>hj) fun i=>?_;exact LC hE.1 (hs.Bd p) i}}
mutual
theorem V.oC (s:S) (A':Key->Option O):∀x:V,x.FA (s.wA A')=x.FA s
 | .agg τ vs=>by simp only[V.FA];rw[V.oE s A' vs]
 | .d _ _| .sl _ _ _ _| .ts _ _ _| .emp _ _| .wo| .ptr _ _ _| .wq _ _| .mp _| .fn _ _| .top _| .any| .tup _| .sr _ _ _ _ _ _ _=>by simp only[V.FA];exact oJ s A' _
theorem V.oE (s:S) (A':Key->Option O):∀xs:List V,V.Gn (s.wA A') xs=V.Gn s xs
 | []=>rfl|x::xs=>by simp only[V.Gn];rw[V.oC s A' x,V.oE s A' xs]
end
mutual
theorem V.lR (s:S) (A':Key->Option O):∀(sh:Sh) (x:V),V.frz (s.wA A') sh x=V.frz s sh x
 | .d _,x=>by simp only[V.frz];exact V.oC s A' x
 | .agg _ l,x=>by simp only[V.frz];split <;> (try rfl);rw[V.lT s A' l]
 | .sl _ _ _,x| .ts _ _,x| .sr _ _ _ _ _,x| .wq _,x| .arr _,x| .as _,x| .vec _ _ _,x| .fnc _ _,x=>by simp only[V.frz]
theorem V.lT (s:S) (A':Key->Option O):∀(l:List Sh) (xs:List V),V.Ew (s.wA A') l xs=V.Ew s l xs
 | [],xs=>by simp only[V.Ew]
 |_::_,[]=>by simp only[V.Ew]
 |sh::l,x::xs=>by simp only[V.Ew];rw[V.lR s A' sh x,V.lT s A' l xs]
end
theorem jZ (s:S) (A':Key->Option O):∀l:List (Nat × Sh),IP (s.wA A') l=IP s l
 | []=>rfl|(i,sh)::l=>by simp only[IP];rw[jZ s A' l];rfl
theorem lQ (s0:S) (A':Key->Option O):∀(l:List (Nat × Sh)) (s:S),IQ (s0.wA A') l (s.wA A')=(IQ s0 l s).wA A'
 | [],_=>rfl|(i,sh)::l,s=>by simp only[IQ];rw[<-lQ s0 A' l];congr 1;show(match V.Iy sh (s0.get i)with| []=>s.wA A'|_=>(s.wA A').set (some i) (V.frz (s0.wA A') sh (s0.get i)))=_;rw[V.lR];split <;> rfl
theorem q05 (sh:SSh) (s:S) (A':Key->Option O):Jh sh (s.wA A')=(Jh sh s).wA A':=by unfold Jh;rw[jZ];split;{rfl};{rw[Yz];exact lQ s A' sh.env _}
end
def HZ {R:Type}:Key->(Key->Option R)->Option R
 | .l 0,K=>K (.l 0)| .l (n+1),K=>K (.l (n+1))| .g k,K=>HZ k fun k=>K (.g k)
theorem Ka {R:Type}:∀(k:Key) (K:Key->Option R),HZ k K=K k
 | .l 0,K=>rfl| .l (n+1),K=>rfl| .g k,K=>by simp only[HZ,Ka k]
mutual
def Hb {R:Type}:V->(V->Option R)->Option R
 | .d τ c,K=>K (.d τ c)| .sl eb e cs t,K=>K (.sl eb e cs t)| .ts eb e cs,K=>K (.ts eb e cs)| .emp eb e,K=>K (.emp eb e)| .wo,K=>K .wo| .ptr k q τ,K=>HZ k fun k=>K (.ptr k q τ)| .wq τ c,K=>K (.wq τ c)| .sr k q lo n cp eb e,K=>HZ k fun k=>K (.sr k q lo n cp eb e)| .mp k,K=>HZ k fun k=>K (.mp k)| .agg τ l,K=>Nj l fun l=>K (.agg τ l)| .fn f l,K=>K (.fn f l)| .tup l,K=>Nj l fun l=>K (.tup l)| .top τ,K=>K (.top τ)| .any,K=>K .any
def Nj {R:Type}:List V->(List V->Option R)->Option R
 | [],K=>K []|x::l,K=>Hb x fun x=>Nj l fun l=>K (x::l)
end
mutual
theorem QR {R:Type}:∀(x:V) (K:V->Option R),Hb x K=K x
 | .d _ _,_| .sl _ _ _ _,_| .ts _ _ _,_| .emp _ _,_| .wo,_| .wq _ _,_| .fn _ _,_| .top _,_| .any,_=>by simp only[Hb]
 | .ptr k q τ,K=>by simp only[Hb,Ka]
 | .sr k q lo n cp eb e,K=>by simp only[Hb,Ka]
 | .mp k,K=>by simp only[Hb,Ka]
 | .agg τ l,K=>by simp only[Hb,YK l]
 | .tup l,K=>by simp only[Hb,YK l]
theorem YK {R:Type}:∀(l:List V) (K:List V->Option R),Nj l K=K l
 | [],K=>by simp only[Nj]
 |x::l,K=>by simp only[Nj,QR x,YK l]
end
def Tn {R:Type}:List (Nat × V)->(List (Nat × V)->Option R)->Option R
 | [],K=>K []|(i,x)::l,K=>Hb x fun x=>Tn l fun l=>K ((i,x)::l)
theorem lH {R:Type}:∀(l:List (Nat × V)) (K:List (Nat × V)->Option R),Tn l K=K l
 | [],K=>rfl|(i,x)::l,K=>by simp only[Tn,QR,lH l]
def QM {R:Type}:List (Key × O)->(List (Key × O)->Option R)->Option R
 | [],K=>K []|(k,.box x)::l,K=>HZ k fun k=>Hb x fun x=>QM l fun l=>K ((k,.box x)::l)|(k,o)::l,K=>HZ k fun k=>QM l fun l=>K ((k,o)::l)
theorem lI {R:Type}:∀(l:List (Key × O)) (K:List (Key × O)->Option R),QM l K=K l
 | [],K=>rfl|(k,o)::l,K=>by cases o <;> simp only[QM,Ka,QR,lI l]
def QQ {R:Type}:List (Nat × Option Nat)->(List (Nat × Option Nat)->Option R)->Option R
 | [],K=>K []|(i,none)::l,K=>QQ l fun l=>K ((i,none)::l)|(i,some n)::l,K=>QQ l fun l=>K ((i,some n)::l)
theorem lM {R:Type}:∀(l:List (Nat × Option Nat)) (K:List (Nat × Option Nat)->Option R),QQ l K=K l
 | [],K=>rfl|(i,o)::l,K=>by cases o <;> simp only[QQ,lM l]
def frc {R:Type} (s:S) (K:S->Option R):Option R:=
 match s with
 |⟨env,loc,A,tk⟩=>Tn env fun env=>QM loc fun loc=>QQ tk fun tk=>K ⟨env,loc,A,tk⟩
theorem YL {R:Type} (s:S) (K:S->Option R):frc s K=K s:=by unfold frc;simp only[lH,lI,lM]
def Ni {R:Type}:List Cap->(List Cap->Option R)->Option R
 | [],K=>K []| .c τ::l,K=>Ni l fun l=>K (.c τ::l)| .v x::l,K=>Hb x fun x=>Ni l fun l=>K (.v x::l)
theorem YH {R:Type}:∀(l:List Cap) (K:List Cap->Option R),Ni l K=K l
 | [],K=>rfl| .c τ::l,K=>by simp only[Ni,YH l]
 | .v x::l,K=>by simp only[Ni,QR,YH l]
mutual
def Ix {R:Type}:Sh->(Sh->Option R)->Option R
 | .sr k q cp eb e,K=>HZ k fun k=>K (.sr k q cp eb e)| .vec k eb e,K=>HZ k fun k=>K (.vec k eb e)| .agg τ l,K=>QP l fun l=>K (.agg τ l)| .as v,K=>Hb v fun v=>K (.as v)| .d τ,K=>K (.d τ)| .sl eb e t,K=>K (.sl eb e t)| .ts eb e,K=>K (.ts eb e)| .wq τ,K=>K (.wq τ)| .arr e,K=>K (.arr e)| .fnc f l,K=>Ni l fun l=>K (.fnc f l)
def QP {R:Type}:List Sh->(List Sh->Option R)->Option R
 | [],K=>K []|x::l,K=>Ix x fun x=>QP l fun l=>K (x::l)
end
mutual
theorem YJ {R:Type}:∀(x:Sh) (K:Sh->Option R),Ix x K=K x
 | .d _,_| .sl _ _ _,_| .ts _ _,_| .wq _,_| .arr _,_=>by simp only[Ix]
 | .sr _ _ _ _ _,K=>by simp only[Ix,Ka]
 | .vec _ _ _,K=>by simp only[Ix,Ka]
 | .as v,K=>by simp only[Ix,QR]
 | .fnc f l,K=>by simp only[Ix,YH]
 | .agg τ l,K=>by simp only[Ix,lL l]
theorem lL {R:Type}:∀(l:List Sh) (K:List Sh->Option R),QP l K=K l
 | [],K=>by simp only[QP]
 |x::l,K=>by simp only[QP,YJ x,lL l]
end
def Tp {R:Type}:List (Nat × Sh)->(List (Nat × Sh)->Option R)->Option R
 | [],K=>K []|(i,x)::l,K=>Ix x fun x=>Tp l fun l=>K ((i,x)::l)
theorem lJ {R:Type}:∀(l:List (Nat × Sh)) (K:List (Nat × Sh)->Option R),Tp l K=K l
 | [],K=>rfl|(i,x)::l,K=>by simp only[Tp,YJ,lJ l]
def QN {R:Type}:List (Key × OSh)->(List (Key × OSh)->Option R)->Option R
 | [],K=>K []|(k,.box x)::l,K=>HZ k fun k=>Ix x fun x=>QN l fun l=>K ((k,.box x)::l)|(k,o)::l,K=>HZ k fun k=>QN l fun l=>K ((k,o)::l)
theorem lK {R:Type}:∀(l:List (Key × OSh)) (K:List (Key × OSh)->Option R),QN l K=K l
 | [],K=>rfl|(k,o)::l,K=>by cases o <;> simp only[QN,Ka,YJ,lK l]
def QO {R:Type} (s:SSh) (K:SSh->Option R):Option R:=
 match s with
 |⟨env,loc⟩=>Tp env fun env=>QN loc fun loc=>K ⟨env,loc⟩
theorem YI {R:Type} (s:SSh) (K:SSh->Option R):QO s K=K s:=by unfold QO;simp only[lJ,lK]
def gD:List V->Bool
 | []=>false| .wq _ _::_=>true|_::l=>gD l
def Wv:List V->List Cap
 | []=>[]| .wq τ _::l=>.c τ::Wv l|x::l=>.v x::Wv l
mutual
def V.Sn:V->Sh
 | .d τ _=>(match τ with| .ptr=>.as (.d .ptr .nil)| .map=>.as (.d .map .nil)| .func=>.as (.d .func .nil)|τ=>.d τ)| .sl eb e _ _=>.d (.slice eb e)| .ts eb e _=>.ts eb e| .sr k q _ _ cp eb e=>(match q,cp with| [],none=>.vec k eb e|q,cp=>.sr k q cp.isSome eb e)| .wq τ _=>.wq τ| .agg τ vs=>.agg τ (V.eI vs)| .tup _=>.as .any| .fn f vs=>bif gD vs then .fnc f (Wv vs)else .as (.fn f vs)|x=>.as x
def V.eI:List V->List Sh
 | []=>[]|x::xs=>x.Sn::V.eI xs
end
mutual
def V.Qb:V->List Key
 | .ptr k _ _| .mp k| .sr k _ _ _ _ _ _=>[k]| .agg _ vs| .fn _ vs| .tup vs=>V.nB vs|_=>[]
def V.nB:List V->List Key
 | []=>[]|x::xs=>x.Qb++V.nB xs
end
def O.Qb:O->List Key
 | .box x=>x.Qb| .map _ _ _=>[]| .it _ _| .dead _=>[]
def Ub:Key->List Key->Bool
 |_,[]=>false|k,j::l=>if j=k then true else Ub k l
def VT (s:S):Nat->List Key->List Key->List Key
 |0,_,acc=>acc|_,[],acc=>acc|f+1,k::ks,acc=>if Ub k acc=true then VT s f ks acc else(match s.obj k with|some o=>VT s f (o.Qb++ks) (acc++[k])|none=>VT s f ks acc)
structure Hint where
 live:List Nat
 new:List (Nat × Sh)
 roots:List Key
 obs:List (Key × OSh)
 drop:List Key
 z3u:List Ty:=[]
def kB (s:S):List Nat->List Key
 | []=>[]|i::l=>(s.get i).Qb++kB s l
def WR (s:S):List Nat->List (Nat × Sh)
 | []=>[]|i::l=>(match s.get i with| .any=>WR s l|x=>(i,x.Sn)::WR s l)
def Nq (e:Ty):List Ty->Bool
 | []=>false|t::l=>if uk t e=true then true else Nq e l
def TG:Key->Nat
 | .l n=>2*n| .g k=>2*TG k+1
def V1:Nat:=1000000000000
mutual
def Sh.dV (ts:List Ty):Nat->Sh->V->Sh
 |b,.vec (.g k) eb e,_=>if Nq e ts=true then .vec (.l (V1+8*TG (.g k)+2)) eb e else .vec (.g k) eb e|b,.as v,_=>(match v with| .emp eb e=>if Nq e ts=true then .vec (.l b) eb e else .as v|v=>.as v)|b,.ts eb e,x=>(match x with| .emp _ _=>if Nq e ts=true then .vec (.l b) eb e else .ts eb e|_=>.ts eb e)|b,.agg τ l,x=>(match x with| .agg _ xs=>.agg τ (Sh.xN ts (64*b) l xs)|_=>.agg τ l)|_,s,_=>s
def Sh.xN (ts:List Ty):Nat->List Sh->List V->List Sh
 |b,s::l,x::xs=>Sh.dV ts b s x::Sh.xN ts (b+1) l xs|_,_,_=>[]
end
mutual
def Sh.dW:Sh->List (Key × OSh)
 | .vec (.l a) _ e=>if V1<=a then[(.l a,.box (.arr e))]else[]| .agg _ l=>Sh.xS l|_=>[]
def Sh.xS:List Sh->List (Key × OSh)
 | []=>[]|s::l=>s.dW++Sh.xS l
end
def kD (s:S) (ts:List Ty):List (Nat × Sh)->List (Nat × Sh)
 | []=>[]|(i,sh)::l=>(i,sh.dV ts (V1+8*i+3) (s.get i))::kD s ts l
def Ny (s:S) (ts:List Ty):List (Key × OSh)->List (Key × OSh)
 | []=>[]|(k,.box sh)::l=>(match k,sh with| .g k,.arr e=>if Nq e ts=true then(.g k,.dead e)::(.l (V1+8*TG (.g k)+2),.box (.arr e))::Ny s ts l else(.g k,.box sh)::Ny s ts l|k,sh=>(match s.obj k with|some (.box x)=>(k,.box (sh.dV ts (V1+8*TG k+1) x))::Ny s ts l|_=>(k,.box sh)::Ny s ts l))|p::l=>p::Ny s ts l
def kE:List (Nat × Sh)->List (Key × OSh)
 | []=>[]|(_,sh)::l=>sh.dW++kE l
def ZG:List (Key × OSh)->List (Key × OSh)
 | []=>[]|(_,.box sh)::l=>sh.dW++ZG l|_::l=>ZG l
def WT:List (Key × OSh)->List (Key × OSh)->List (Key × OSh)
 | [],acc=>acc|(k,o)::l,acc=>if Kh acc k=true then WT l acc else WT l (acc++[(k,o)])
def q7b (s:S) (ts:List Ty) (sh:SSh):SSh:=
 match ts with
 | []=>sh|ts=>(match kD s ts sh.env,Ny s ts sh.loc with|env,loc=>⟨env,WT (kE env++ZG loc) loc⟩)
def KN (s:S) (h:Hint):List Key->List (Key × OSh)
 | []=>[]
 |k::l=>if Ub k h.drop=true then KN s h l else if Kh h.obs k=true then KN s h l else(match s.obj k with|some (.box x)=>(k,.box (match x with| .d (.arr M e) _=>(match k,M with|_,_=>if Nq e h.z3u=true then .arr e else .d (.arr M e))| .d τ _=>.d τ|x=>(match h.z3u with| []=>bif (CQ x).isSome then .d x.ty else x.EE.Sn|_=>x.Sn)))::KN s h l|some (.map kτ vτ _)=>(k,.map kτ vτ)::KN s h l|some (.it _ _)=>(k,.it)::KN s h l|some (.dead (.arr _ e))=>(k,.dead e)::KN s h l|_=>KN s h l)
def XZ:List (Key × O)->List Key
 | []=>[]|(.g k,.dead _)::l=>.g k::XZ l|_::l=>XZ l
def Zf (h:Hint) (s:S):SSh:=
 q7b s h.z3u ⟨WR s h.live++h.new,h.obs++KN s h (VT s 1000 (kB s h.live++h.roots) []++XZ s.loc)⟩
def Ll:List (Key × OSh)->S->S
 | [],s=>s|(k,.box _)::l,s=>(match s.obj k with|some (.box x)=>Ll l (s.put k (.box x.EE))|_=>Ll l s)|_::l,s=>Ll l s
def JQ:List (Nat × Sh)->S->S
 | [],s=>s|(i,sh)::l,s=>(match sh with| .sl eb e t=>(match s.get i with| .wo=>if s.known t=false then JQ l (S.set {s with tk:=(t,some 0)::s.tk} (some i) (.sl eb e [] t))else JQ l s| .emp eb' e'=>if eb'=eb/\e'=e/\s.known t=false then JQ l (S.set {s with tk:=(t,some 0)::s.tk} (some i) (.sl eb e [] t))else JQ l s|_=>JQ l s)|_=>JQ l s)
mutual
def V.un:V->V->List (Nat × Nat)
 | .ptr (.l a) _ _,.ptr (.l b) _ _=>[(b,a)]| .mp (.l a),.mp (.l b)=>[(b,a)]| .fn _ l,.fn _ l'=>V.uns l l'| .tup l,.tup l'=>V.uns l l'|_,_=>[]
def V.uns:List V->List V->List (Nat × Nat)
 |x::xs,y::ys=>V.un x y++V.uns xs ys|_,_=>[]
end
def Wu:List Cap->List V->List (Nat × Nat)
 | .v y::l,x::xs=>V.un y x++Wu l xs| .c _::l,_::xs=>Wu l xs|_,_=>[]
mutual
def Sh.un:Sh->V->List (Nat × Nat)
 | .sr (.l a) _ _ _ _,.sr (.l b) _ _ _ _ _ _=>[(b,a)]| .vec (.l a) _ _,.sr (.l b) _ _ _ _ _ _=>[(b,a)]| .as v,x=>V.un v x| .fnc _ l,.fn _ xs=>Wu l xs| .agg _ l,.agg _ xs=>Sh.uns l xs|_,_=>[]
def Sh.uns:List Sh->List V->List (Nat × Nat)
 |s::l,x::xs=>s.un x++Sh.uns l xs|_,_=>[]
end
def dM (s:S):List (Nat × Sh)->List (Nat × Nat)
 | []=>[]|(i,sh)::l=>sh.un (s.get i)++dM s l
def WB (s:S):List (Nat × Sh)->List (Nat × Nat)
 | []=>[]|(i,sh)::l=>(match sh,s.get i with| .sl _ _ t,.sl _ _ _ t'=>(t',t)::WB s l|_,_=>WB s l)
def ZM:List (Key × OSh)->Key->Option OSh
 | [],_=>none|(j,x)::l,k=>if j=k then some x else ZM l k
def xE (s:S) (l:List (Key × OSh)) (b a:Key):List (Nat × Nat):=
 match ZM l a,s.obj b with
 |some (.box sh),some (.box x)=>sh.un x|_,_=>[]
def unG (s:S) (l0:List (Key × OSh)):List (Key × OSh)->List (Nat × Nat)
 | []=>[]|(.g k,_)::l=>xE s l0 (.g k) (.g k)++unG s l0 l|(.l _,_)::l=>unG s l0 l
def Vz (s:S) (l:List (Key × OSh)):Nat->List (Nat × Nat)->List (Nat × Nat)->List (Nat × Nat)
 |0,_,acc=>acc|_,[],acc=>acc|f+1,(b,a)::todo,acc=>(match look acc b with|some _=>Vz s l f todo acc|none=>Vz s l f (xE s l (.l b) (.l a)++todo) ((b,a)::acc))
def PG:List (Nat × Nat)->Bool
 | []=>true|(a,b)::l=>di a b&&PG l
def Mw (l:List (Nat × Nat)) (n:Nat):Nat:=(look l n).getD (n+1000000000)
def SZ (s:S):List (Nat × Sh)->Bool
 | []=>false|(i,sh)::l=>(match sh,s.get i with| .sl _ _ t,.wo=>s.known t||SZ s l| .sl _ _ t,.emp _ _=>s.known t||SZ s l|_,_=>SZ s l)
def VQ (sh:SSh) (s:S):S:=
 match Vz s sh.loc 1000 (dM s sh.env++unG s sh.loc sh.loc) [],WB s sh.env with
 |ps,ts=>bif PG ps&&PG ts&& !SZ s sh.env then s
  else bif Jn (Mw ps) (Fa s.loc)&&Jn (Mw ts) (Fj s.tk)then s.ren (Mw ps) (Mw ts)else s
mutual
def Sh.ad:Sh->V->List (Key × Nat)
 | .vec (.l a) _ _,.sr (.g b) _ _ _ _ _ _=>[(.g b,a+T0)]| .agg _ l,.agg _ xs=>Sh.ads l xs|_,_=>[]
def Sh.ads:List Sh->List V->List (Key × Nat)
 |s::l,x::xs=>s.ad x++Sh.ads l xs|_,_=>[]
end
def eJ (s:S):List (Nat × Sh)->List (Key × Nat)
 | []=>[]|(i,sh)::l=>sh.ad (s.get i)++eJ s l
def Sp (s:S):List (Key × OSh)->List (Key × Nat)
 | []=>[]|(k,.box sh)::l=>(match s.obj k with|some (.box x)=>sh.ad x++Sp s l|_=>Sp s l)|_::l=>Sp s l
def nC {α:Type}:List (Key × α)->List Key
 | []=>[]|(k,_)::l=>k::nC l
def WU (ks:List Key):List (Key × Nat)->S->S
 | [],s=>s|(K,t)::l,s=>WU ks l (PF K t ks s)
def fA:List (Key × OSh)->Bool
 | []=>false|(_,.box (.arr _))::_=>true|_::l=>fA l
def WC (sh:SSh) (s:S):S:=
 match fA sh.loc with
 |false=>s|true=>(match WU (nC sh.loc) (eJ s sh.env++Sp s sh.loc) s with|s=>Mc sh.loc (Sb sh.env s))
def Iu {R:Type} (sh:SSh) (s:S) (K:List C->List Es->Option R):Option R:=
 frc (Jh sh s) fun s=>frc (WC sh s) fun s=>frc (JQ sh.env (Ll sh.loc (VQ sh s))) fun s=>TK sh s K
theorem k8 {R:Type} (sh:SSh) (s:S) (K:List C->List Es->Option R):Iu sh s K=TK sh (JQ sh.env (Ll sh.loc (VQ sh (WC sh (Jh sh s))))) K:=by unfold Iu;simp only[YL]
def WkA (s s':S):Prop:=s'.A=s.A/\∀(X:Cx) (n:Nat) (A':Key->Option O),leA s.A A'->Dd X n (s.wA A') (s'.wA A')
theorem WkA.refl (s:S):WkA s s:=⟨rfl,fun _ _ _ _=>Dd.refl _⟩
theorem WkA.trans {a b c:S} (h:WkA a b) (h':WkA b c):WkA a c:=
 ⟨h'.1.trans h.1,fun X n A' hA=>(h.2 X n A' hA).trans (h'.2 X n A' (by rw[h.1];exact hA))⟩
theorem Ta:∀(l:List (Key × OSh)) (s:S),WkA s (Ll l s)
 | [],s=>WkA.refl s|(k,.box _)::l,s=>by simp only[Ll];split;{rename_i x hx;exact WkA.trans (b:=s.put k (.box x.EE)) ⟨rfl,fun X n A' hA=>q7i (DT hA hx)⟩ (Ta l _)};{exact Ta l s}
 |(_,.map _ _)::l,s|(_,.dead _)::l,s|(_,.it)::l,s=>Ta l s
theorem MX:∀(l:List (Nat × Sh)) (s:S),WkA s (JQ l s)
 | [],s=>WkA.refl s|(i,sh)::l,s=>by
  simp only[JQ];split
  ·rename_i eb e t
   have one:∀(hu:s.known t=false) (ht:s.get i= .wo\/s.get i= .emp eb e),WkA s (S.set {s with tk:=(t,some 0)::s.tk} (some i) (.sl eb e [] t)):=fun hu ht=>
    ⟨rfl,fun X n A' hA=>q7l (s:=s.wA A') hu ht⟩
   split;{rename_i hx;split;{rename_i hu;exact(one hu (.inl hx)).trans (MX l _)};{exact MX l s}};{rename_i eb' e' hx;split;{rename_i hu;obtain⟨rfl,rfl,hu⟩:=hu;exact(one hu (.inr hx)).trans (MX l _)};{exact MX l s}};{exact MX l s}
  ·exact MX l s
theorem q4R (sh:SSh) (s:S):WkA s (VQ sh s):=by unfold VQ;dsimp only;generalize Vz s sh.loc 1000 (dM s sh.env++unG s sh.loc sh.loc) []=ps;generalize WB s sh.env=ts;cases PG ps&&PG ts&& !SZ s sh.env;{cases hi:Jn (Mw ps) (Fa s.loc)&&Jn (Mw ts) (Fj s.tk);{exact WkA.refl s};{simp only[bz]at hi;exact⟨rfl,fun X n A' _=>q7k (s:=s.wA A') _ _ hi.1 hi.2⟩}};{exact WkA.refl s}
theorem eP (ks:List Key):∀(l:List (Key × Nat)) (s:S),WkA s (WU ks l s)
 | [],s=>WkA.refl s|(K,t)::l,s=>WkA.trans (b:=PF K t ks s) (yV K t ks s) (eP ks l _)
theorem zN {X:Cx} {n:Nat} {Γ0:G} {t:Nat} {e:Ty} {a:Act} {w:World} {s:S} (ht:s.obj (.l t)=none) (h:At X n Γ0 s a w):At X n Γ0 (s.put (.l t) (.box (.d (.arr 0 e) (.agg [])))) a w:=by obtain⟨Γ,g1,g3,c,hs,hn,hf,hA⟩:=h;refine⟨Γ,g1,g3,⟨c.hH,c.hZ,c.hκ,fun j o hj=>?_,fun j hj=>?_,c.Jo (fun j hj=>?_),c.tok,c.xi,c.hgl,c.hoo,c.hσ⟩,hs,hn,hf,hA⟩;{rw[Db]at hj;split at hj;{rename_i e1;subst e1;cases hj;exact .inl ⟨c.PB ht,e,rfl⟩};{exact c.obj j o hj}};{rw[Db];split;{simp};{exact c.dom j hj}};{unfold S.Bq at hj ⊢;rw[Db];split;{rename_i e1;subst e1;rw[ht]at hj;cases hj};{exact hj}}
theorem WG:∀(l:List (Nat × Ty)) (s:S),WkA s (Ow l s)
 | [],s=>WkA.refl s|(t,e)::l,s=>by
  simp only[Ow];split
  ·rename_i h;have h':s.obj (.l t)=none:=by simpa using h
   exact WkA.trans (b:=s.put (.l t) (.box (.d (.arr 0 e) (.agg [])))) ⟨rfl,fun X n A' hA Γ0 a w hat=>zN (s:=s.wA A') (by rw[Jw];exact h') hat⟩ (WG l _)
  ·exact WG l s
theorem AE.DP {Γ:G} {sh:Sh} {x:V} {v:Value} (h:AE Γ x v):AE Γ (V.DP sh x) v:=by
 by_cases hp:x.plain=true;{obtain⟨h1,h2⟩:=(Bz hp).1 h;exact(Bz (by rw[V.xK];exact hp)).2 ⟨AA.DP sh x h1,by rw[V.Sd];exact h2⟩}
 ·have:V.DP sh x=x:=by cases x <;> simp[V.plain]at hp <;> (unfold V.DP;split <;> rfl)
  rw[this];exact h
theorem AE.LH {Γ:G} {sh:Sh} {x:V} {v:Value} (h:AE Γ x v):AE Γ (V.LH sh x) v:=by unfold V.LH;split;{have:=FQ h;subst this;exact Oc};{exact h.DP}
theorem dT:∀(l:List (Nat × Sh)) (s:S),WkA s (Sb l s)
 | [],s=>WkA.refl s|(i,sh)::l,s=>by simp only[Sb];split;{exact dT l s};{refine WkA.trans (b:=s.set (some i) (V.LH sh (s.get i))) ⟨rfl,fun X n A' hA Γ0 a w hat=>?_⟩ (WkA.trans (WG _ _) (dT l _));obtain⟨Γ,g1,g3,c,hs,hn,hf,hA⟩:=hat;refine⟨Γ,g1,g3,show AJ Γ w ((s.wA A').set (some i) (V.LH sh (s.get i))) from PU c _ _,fun j=>?_,hn,hf,hA⟩;have hj:=hs j;show AE Γ (S.get (S.set (s.wA A') (some i) (V.LH sh (s.get i))) j) _;rw[Jk];split;{rename_i e;cases e;exact AE.LH hj};{exact hj}}
theorem Sc:∀(l:List (Key × OSh)) (s:S),WkA s (Mc l s)
 | [],s=>WkA.refl s|(k,.box sh)::l,s=>by
  simp only[Mc];split
  ·rename_i x hx;split;{exact Sc l s}
   ·refine WkA.trans (b:=s.put k (.box (V.DP sh x))) ⟨rfl,fun X n A' hA Γ0 a w hat=>?_⟩ (WkA.trans (WG _ _) (Sc l _));obtain⟨Γ,g1,g3,c,hs,hn,hf,xq⟩:=hat;refine⟨Γ,g1,g3,c.bM (DT hA hx) (fun xd=>?_) (fun hv=>?_),hs,hn,hf,xq⟩;{obtain⟨b,cells,T,h1,h2,h3,h4,h5,h6,h7,h8⟩:=xd;exact⟨b,cells,T,by rw[V.Sd];exact h1,h2,h3,h4,by rw[V.Sd];exact h5,by rw[V.Sd];exact AA.DP sh x h6,by rw[V.xK];exact h7,by rw[V.xJ];exact h8⟩}
    ·obtain⟨e,rfl⟩:=hv;have:V.DP sh (.d (.arr 0 e) (.agg []))= .d (.arr 0 e) (.agg []):=by unfold V.DP;split <;> rfl
     rw[this];exact⟨e,rfl⟩
  ·exact Sc l s
 |(_,.map _ _)::l,s|(_,.dead _)::l,s|(_,.it)::l,s=>Sc l s
theorem q7a (sh:SSh) (s:S):WkA s (WC sh s):=by unfold WC;split;{exact WkA.refl s};{exact((eP _ _ s).trans (dT _ _)).trans (Sc _ _)}
theorem q04 (sh:SSh) (s:S):WkA s (Jh sh s):=by refine⟨?_,fun X n A' hA Γ0 a w hat=>?_⟩;{unfold Jh;split;{rfl};{rw[(YN _ _ _).2.2,(Qp _ _).2]}};{rw[<-q05];exact zL hat}
def nbV:V->V
 | .d τ c=>(match τ with| .bool=>.d .bool (.bool c.toBool)|τ=>.d τ c)|x=>x
def nbE:List (Nat × V)->List (Nat × V)
 | []=>[]|(i,x)::l=>(i,nbV x)::nbE l
def nbS (s:S):S:={s with env:=nbE s.env}
theorem q3A {Γ:G} {x:V} {v:Value} (h:AE Γ x v):AE Γ (nbV x) v:=by cases x <;> (try exact h);rename_i τ c;cases τ <;> (try exact h);obtain⟨_,e⟩:=FP h;rw[e]at h;exact h
theorem oY:∀(l:List (Nat × V)) (i:Nat),look (nbE l) i=(look l i).map nbV
 | [],_=>rfl|(j,x)::l,i=>by simp only[nbE,look];by_cases e:j=i;{rw[if_pos e,if_pos e];rfl};{rw[if_neg e,if_neg e];exact oY l i}
theorem qP (s:S):WkA s (nbS s):=by
 refine⟨rfl,fun X n A' _=>?_⟩;rintro Γ0 a w ⟨Γ,g1,g3,c,hs,hn,hf,hA⟩;refine⟨Γ,g1,g3,c.env _,fun i=>?_,hn,hf,hA⟩;have:=hs i;have e:((nbS s).wA A').get i=nbV ((s.wA A').get i):=by show(look (nbE s.env) i).getD .any=nbV ((look s.env i).getD .any);rw[oY];cases look s.env i <;> rfl
 rw[e];exact q3A this
def GS (sh:SSh) (A:Key->Option O) (ds:List C) (ms:List Es):S:=nbS (Jg sh A ds ms)
theorem PS {R:Type} {r:R} {sh:SSh} {s:S} {K:List C->List Es->Option R} (h:Iu sh s K=some r):∃ds ms,K ds ms=some r/\WkA s (GS sh s.A ds ms):=by
 have key:∃ds ms,K ds ms=some r/\WkA s (Jg sh s.A ds ms):=by rw[k8]at h;obtain⟨ds,ms,h1,h2⟩:=k9 h;have h3:=((((q04 sh s).trans (q7a sh _)).trans (q4R sh _)).trans (Ta sh.loc _)).trans (MX sh.env _);refine⟨ds,ms,h1,rfl,fun X n A' hA=>?_⟩;have:=(h3.2 X n A' hA).trans (h2 X n A' (by rw[h3.1];exact hA));exact this
 obtain⟨ds,ms,h1,h2⟩:=key;exact⟨ds,ms,h1,h2.trans (qP _)⟩
def RS (j:Nat):List Nat->List Nat
 | []=>[]|i::l=>if i=j then RS j l else i::RS j l
def fxS (t j:Nat) (s:S):S:=⟨Eo s (RS t (slotsOf s.env)),GA s.loc (RS j (Fa s.loc)) s.loc,s.A,Dc s (Fj s.tk)⟩
def fxB (t j:Nat) (s:S):Bool:=
 KO (fxS t j s).loc&&FC (CB (fxS t j s).loc) (Ct (fxS t j s).tk) (fxS t j s).loc&&IG (fxS t j s).loc s.loc&&Im (CB (fxS t j s).loc) (Ct (fxS t j s).tk) (fxS t j s).env&& !(CB (fxS t j s).loc j)
def YE (t:Nat) (s:S):S:=
 match s.get t with
 | .ptr (.l j) [] τ=>(match s.obj (.l j)with|some (.box x)=>(match CQ x with|some cc=>if x.ty=τ/\fxB t j s=true then(fxS t j s).set (some t) (.wq τ cc)else s|none=>s)|_=>s)|_=>s
def XC (t:Nat) (s:S):S:=
 match s.get t with
 | .ptr k [] _=>(match s.obj k with|some (.box x)=>(match x with| .d _ _=>s|x=>(match CQ x with|some c=>s.put k (.box (.d x.ty c))|none=>s))|_=>s)|_=>s
theorem w9 (t:Nat) (s:S):WkA s (XC t s):=by
 unfold XC;split
 ·split
  ·rename_i x hx;split;{exact WkA.refl s}
   ·split
    ·rename_i c hc;refine⟨rfl,fun X n A' hA Γ0 a w hat=>?_⟩;obtain⟨Γ,g1,g3,cc,hs,hn,hf,xq⟩:=hat;have hin:V.BR x (.d x.ty c):=by cases x <;> first|exact⟨hc,rfl⟩|(simp[CQ]at hc)
     refine⟨Γ,g1,g3,cc.bM (DT hA hx) (fun xd=>?_) (fun hv=>?_),hs,hn,hf,xq⟩;{obtain⟨b,cells,T,h1,h2,h3,h4,h5,h6,h7,h8⟩:=xd;exact⟨b,cells,T,h1,h2,h3,h4,h5,by have:=(AA.BR _ _ hin h6).1;simp only[AA]at this ⊢;exact this,rfl,rfl⟩};{obtain⟨e,rfl⟩:=hv;simp only[CQ,Option.some.injEq]at hc;subst hc;exact⟨e,rfl⟩}
    ·exact WkA.refl s
  ·exact WkA.refl s
 ·exact WkA.refl s
def Yy (t:Nat) (s:S):S:=
 match s.get t with
 | .sr (.l j) [] lo n _ eb e=>(match s.obj (.l j)with|some (.box (.d (.arr M e') cc))=>if e'=e then({s with loc:=(.l j,.dead (.arr M e))::s.loc}:S).set (some t) (.d (.slice eb e) (.slice ((cc.elems.drop lo).take n)))else s|_=>s)|_=>s
theorem q2D (t:Nat) (s:S):WkA s (Yy t s):=by
 unfold Yy;split;{rename_i j lo n cp eb e hs;split;{rename_i M e' cc ho;split;{rename_i he;subst he;refine⟨rfl,fun X n' A' hA Γ0 a w hat=>?_⟩;obtain⟨Γ,g1,g3,c,hsl,hn,hf,xq⟩:=hat;obtain⟨Γ',gle,p,c',h⟩:=c.oA (show(s.wA A').obj (.l j)=some (.box (.d (.arr M _) cc)) from ho);have xf:=hsl t;rw[show(s.wA A').get t=_ from hs]at xf;have hv:=h xf;refine⟨Γ',g1.trans gle,gle.gl.trans g3,PU (s:=(({s with loc:=(.l j,.dead (.arr M _))::s.loc}:S).wA A')) c' (some t) _,fun i=>?_,hn,hf,xq⟩;rw[show((({s with loc:=(.l j,.dead (.arr M _))::s.loc}:S).set (some t) (.d (.slice eb _) (.slice ((cc.elems.drop lo).take n)))).wA A').get i=(({s with loc:=(.l j,.dead (.arr M _))::s.loc}:S).set (some t) (.d (.slice eb _) (.slice ((cc.elems.drop lo).take n)))).get i from rfl,Jk];split;{rename_i hi;cases hi;exact hv};{exact(hsl i).Bd p}};{exact WkA.refl s}};{exact WkA.refl s}};{exact WkA.refl s}
def Nh:List (Nat × Nat)->S->S
 | [],s=>s|(t,m)::l,s=>Nh l (if m=6 then YE t s else if m=16 then XC t s else if m=17 then Yy (t-1000000) s else s)
theorem q0Z (t:Nat) (s:S):WkA s (YE t s):=by
 unfold YE;split
 ·rename_i j τ hs;split
  ·rename_i x hx;split
   ·rename_i cc hcc;split
    ·rename_i h;obtain⟨hτ,h⟩:=h;simp only[fxB,bz,Bool.not_eq_true']at h;obtain⟨⟨⟨⟨h1,h2⟩,h3⟩,h4⟩,h5⟩:=h;refine⟨rfl,fun X n A' hA=>?_⟩;have xy:∀l,Eo (s.wA A') l=Eo s l:=by
      intro l
      induction l with
      |nil=>rfl|cons i l ih=>simp only[Eo,ih];rfl
     have htk:∀l,Dc (s.wA A') l=Dc s l:=by
      intro l
      induction l with
      |nil=>rfl|cons i l ih=>simp only[Dc,ih];rfl
     exact q7j (s:=s.wA A') (s':=(fxS t j s).wA A') hs (DT hA hx) hcc hτ h5 rfl (Kk (s:=s.wA A') _ h1) h2 (Mp h3)
      (by show tkW (s.wA A') (Dc s (Fj s.tk));rw[<-htk];exact Vw)
      (by
       have h4':Im (CB (fxS t j s).loc) (Ct (fxS t j s).tk) (Eo (s.wA A') (RS t (slotsOf s.env)))=true:=by rw[xy];exact h4
       have:=Xr h4';rw[xy]at this;exact this)
    ·exact WkA.refl s
   ·exact WkA.refl s
  ·exact WkA.refl s
 ·exact WkA.refl s
theorem QL:∀(l:List (Nat × Nat)) (s:S),WkA s (Nh l s)
 | [],s=>WkA.refl s|(t,m)::l,s=>by simp only[Nh];split;{exact(q0Z t s).trans (QL l _)};{split;{exact(w9 t s).trans (QL l _)};{split;{exact(q2D _ s).trans (QL l _)};{exact QL l s}}}
end Go.E
