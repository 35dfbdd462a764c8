/-
 A framework for runs of Go code over abstract data: what it needs, and that it is sound, part 6.
 Conditions: none.
-/
import Derived.Test.YteealakhniofoaaGreatDoorEe
import Derived.ProofKit
import Derived.LaidMore
import Derived.OpenShut
import Derived.Stop.Joined
import Derived.ChangeStays
import Derived.Deep.DeepHandedRow
import Derived.Lib.LaidTab
import Derived.LoopN
set_option linter.all false
set_option maxRecDepth 100000
set_option maxHeartbeats 4000000
open Bool renaming and_eq_true->bg,false_eq_true->fi,not_eq_true'->jg
open Go.Addr renaming add->ou
open Go.DataW renaming TrodAll->ku,trod->kz,weights->qa,weightsAll->qp,weightsEach->mu
open Go.DataW.TrodAll renaming lt->sk
open Go.E.G renaming part->wj
open Go.E.S renaming obj->jv
open Go.E.V renaming sites->tf
open Go.Op renaming bytesLess->mc
open Go.Value renaming okWide->ue
open Go.World renaming cell?->na,sameAt->xo
open List renaming all_cons->xn,all_eq_true->dw,cons_append->mq,getElem?_eq_getElem->bp,getElem?_eq_some_iff->ca,getElem?_map->de,getElem?_range->il,getElem?_take->fe,mapM_cons->ug,map_cons->dt,map_map->px,mem_of_getElem?->fa,mem_range->gr,nil_append->ju,range->gh,zipWith->jz
open Nat renaming beq->dc,eq_of_beq_eq_true->eh
open Option renaming bind_eq_some_iff->nk,bind_some->gp,ite_none_right_eq_some->ba,map_eq_some_iff->ei,map_map->sc,map_some->gm
open Option.some renaming inj->pc,injEq->ee
open Prod.mk renaming injEq->fx
namespace Go.E
open Go
theorem q8U {X:Cx} {n:Nat} {s s':S} {Γ0 Γ:G} {a:Act} {w:World} (g1:GLe Γ0 Γ) (g3:Γ.gl=X.gl) (c:AX Γ w s) (hs:Gl Γ s a.tmps) (hn:a.tmps.size=n) (hf:a.defers=[]) (ze:AOk s.A) (hA:s'.A=s.A) (z6P:GY s s'.loc) (z60:Fu (Cd s'.loc) (DQ s'.tk) s'.loc=true) (hg:Ij s'.loc s.A s.loc)
  (htk:tkW s s'.tk) (zm:IC (Cd s'.loc) (DQ s'.tk) s s'.env):GLe Γ0 (Γ.part (Cd s'.loc) (DQ s'.tk))/\(Γ.part (Cd s'.loc) (DQ s'.tk)).gl=X.gl/\AX (Γ.part (Cd s'.loc) (DQ s'.tk)) w s'/\Gl (Γ.part (Cd s'.loc) (DQ s'.tk)) s' a.tmps/\a.tmps.size=n/\a.defers=[]/\AOk s'.A:=by
 have sub:Sub Γ (Γ.part (Cd s'.loc) (DQ s'.tk)) (Cd s'.loc) (DQ s'.tk):=
  ⟨rfl,rfl,rfl,rfl,rfl,fun _=>rfl,fun n h=>by simp[wj,h],fun t h=>by simp[wj,h],fun _ _ _ _ _=>rfl⟩
 refine⟨⟨g1.H,g1.Z,g1.ZH,g1.g,g1.gl,g1.oo,g1.σ,g1.gn⟩,g3,c.sub sub rfl (fun n h=>by simp[wj,h]) hA ze z6P z60 hg (fun b o sz h=>⟨o,h,fun _ h=>h⟩) (fun t L h=>?_) (fun t h=>?_),fun i=>?_,hn,hf,by rw[hA];exact ze⟩
 ·unfold S.live EZ at h;cases hl:look s'.tk t with
  |none=>simp[hl]at h|some x=>
   cases x with
   |none=>simp[hl]at h|some M=>
    simp[hl]at h;subst h;have z6M:s.live t=some M:=eI htk hl;obtain⟨x,a1,a2⟩:=c.tok t M z6M;exact⟨x,by simp[wj,DQ,hl,a1],fun b pos sz hx=>a2 b pos sz hx⟩
 ·cases hh:DQ s'.tk t with|true=>exact hh|false=>simp[wj,hh]at h
 ·cases hl:look s'.env i with
  |none=>simp[S.get,hl,AI]|some x=>
   obtain⟨e1,e2,e3⟩:=YN zm hl;have z6X:s'.get i=x:=by simp[S.get,hl]
   rw[z6X];by_cases hx:x= .any;{subst hx;trivial}
   ·have hr:=hs i;have e3:=e3.resolve_left hx;refine AI.sub sub e2 ?_;cases hsi:s.get i with
    |any=>
     rw[hsi]at e1;cases x <;> simp[V.BW,Cm]at e1 hx
    |tup us=>
     rw[hsi]at e1 hr;cases x <;> simp[V.BW,Cm]at e1 hx;subst e1;exact hr
    |_=>
     rw[hsi]at e1 hr e3;have hpl:AA Γ none [] _ (a.tmps.getD i undef).cells.toList/\_:=hr;obtain⟨r1,r2⟩:=AA.BW x _ e1 hpl.1;have hxp:=V.SJ r1 hx;exact(Ca hxp).2 ⟨r1,by rw[e3];exact hpl.2⟩
theorem q9c {X:Cx} {n:Nat} {s s':S} {t j:Nat} {τ:Ty} {x:V} {cc:C} (z8J:s.get t= .ptr (.l j) [] τ) (yj:s.obj (.l j)=some (.box x)) (hcl:Cm x=some cc) (hτ:x.ty=τ) (hj:Cd s'.loc j=false)
  (hA:s'.A=s.A) (z6P:GY s s'.loc) (z60:Fu (Cd s'.loc) (DQ s'.tk) s'.loc=true) (hg:Ij s'.loc s.A s.loc)
  (htk:tkW s s'.tk) (zm:IC (Cd s'.loc) (DQ s'.tk) s s'.env):EE X n s (s'.set (some t) (.yg τ cc)):=by
 rintro Γ0 a w ⟨Γ,g1,g3,c,hs,hn,hf,ze⟩;obtain⟨p1,p2,p3,p4,p5,p6,p7⟩:=q8U (X:=X) (n:=n) (s':=s') g1 g3 c hs hn hf ze hA z6P z60 hg htk zm;have hst:=hs t;rw[z8J]at hst;obtain⟨b,τ0,off,e1,i2,hv⟩:=HD hst;obtain⟨b2,cells,T,i1,e2,e3,e4,e5,e6,e7,e8⟩:=c.own e1 yj;obtain⟨fr0,e4,zb⟩:=e4;rw[e1]at i1;cases i1;simp only[Ty.walk,ee,fx]at i2;obtain⟨rfl,_⟩:=i2;have hdl:∀k o,s'.obj k=some o->s.CY k=true->o.FG=true:=by
  intro k o ho hd;unfold jv Cs at ho;cases hl:AY s'.loc k with
  |some o1=>
   rw[hl]at ho;cases ho;obtain⟨o0,h1,h2⟩:=VA z6P hl;rw[FO h1]at hd;exact O.nJ h2 hd
  |none=>
   cases k with
   |l n=>rw[hl]at ho;cases ho
   |g k=>
    have:=Va hA hg hl;unfold S.CY at hd;rw[<-this]at hd;have h2:jv s' (.g k)=some o:=by unfold jv Cs;exact ho
    rw[h2]at hd;exact hd
 have hno:∀k τ o,(Γ.part (Cd s'.loc) (DQ s'.tk)).ι k=some (b,τ)->s'.obj k=some o->o.FG=true:=by
  intro k τ' o hk hko;have hk':Γ.ι k=some (b,τ')/\k≠.l j:=by
   cases k with
   |g k=>exact⟨hk,by simp⟩|l m=>
    simp only[wj]at hk;split at hk;{rename_i hm;refine⟨hk,fun e=>?_⟩;cases e;rw[hj]at hm;cases hm};{cases hk}
  rcases c.inj k (.l j) b _ _ hk'.1 e1 with e|⟨e|e,_⟩;{exact absurd e hk'.2};{exact hdl k o hko e};{rw[FO yj]at e;cases e}
 obtain⟨q1,q2,q3⟩:=p3.freeze e4 e2 hno;have hrc:AO Γ.H x.ty (chunk cells.toList 0 x.ty.size) cc:=Kz _ e6 hcl;refine⟨_,⟨Hp.le_trans p1.H q3,p1.Z,fun b' hb'=>?_,p1.g,p1.gl,p1.oo,p1.σ,p1.gn⟩,p2,Qm q1 _ _,fun i=>?_,p5,p6,p7⟩;{refine(Fc _ _ fun e=>?_).trans (p1.ZH b' hb');subst e;exact hb' (by rw[<-g1.Z];exact e3)};{rw[KC];split;{rename_i e;cases e;rw[hv];refine NZ (l:=cells.toList) (DY _ _ _) (by rw[<-hτ];simpa using e5) ?_;rw[<-hτ];exact hrc.mono q3};{exact(p4 i).Bn q2}}
theorem C.q2U:∀(cs:List C) (n:Nat),cs.length=n->cs=(gh n).map fun i=>cs.getD i .nil:=by intro cs n h;subst h;refine List.ext_getElem (by simp) fun i h1 h2=>?_;simp[bp h1]
theorem C.yW {sz:Nat} {os:List Nat} {fs:List Ty} {c:C} (h:C.wf (.struct sz os fs) c): .agg ((gh fs.length).map c.get)=c:=by simp only[C.wf]at h;obtain⟨h1,h2⟩:=h;have hl:=C.yY h2;rw[h1];congr 1;rw[<-hl];exact(C.q2U c.elems _ rfl).symm
section
open Go Go.ChangeShapes Go.WideShapes
def Hj (w:World):Hp:=fun b=>match w.heap[b]? with|some (.cells c _ _)=>some c.toList|_=>none
theorem Yx {w:World} {a:Addr} {v:Value} (h:w.cell? a=some v):∃l,Hj w a.block=some l/\l[a.off]? =some v/\a.spot=none:=by unfold na at h;unfold Hj;split at h;{rename_i c _ _ hc;split at h;{cases h};{rename_i hs;refine⟨c.toList,by simp[hc],by simpa using h,?_⟩;cases hh:a.spot <;> simp_all}};{cases h}
mutual
def Ty.dat:Ty->Bool
 | .int _| .bool| .str=>true| .slice _ e=>e.dat&&decide (0<e.size)| .arr _ e=>e.dat&&decide (0<e.size)| .struct sz os fs=>Ty.Qu fs&&decide (os.length=fs.length)&&(gh sz).all fun i=>(gh fs.length).any fun j=>match os[j]?,fs[j]? with|some o,some f=>decide (o<=i)&&decide (i<o+f.size)|_,_=>false
 |_=>false
def Ty.Qu:List Ty->Bool
 | []=>true|f::fs=>f.dat&&Ty.Qu fs
end
theorem jE:∀{fs:List Ty} {i:Nat} {f:Ty},Ty.Qu fs=true->fs[i]? =some f->f.dat=true
 | [],_,_,_,h=>by simp at h
 |g::fs,0,f,hd,h=>by simp[Ty.Qu]at hd h;rw[<-h];exact hd.1
 |g::fs,i+1,f,hd,h=>by simp[Ty.Qu]at hd;exact jE hd.2 (by simpa using h)
theorem PR {α β:Type} {f:α->Option β}:∀{l:List α} {r:List β},l.mapM f=some r->∀i:Nat,l[i]?.bind f=r[i]?
 | [],r,h,i=>by simp at h;subst h;simp
 |x::l,r,h,i=>by
  rw[ug]at h;cases hx:f x with
  |none=>simp[hx]at h|some y=>
   cases hl:l.mapM f with
   |none=>simp[hx,hl]at h|some ys=>
    simp[hx,hl]at h;subst h;cases i with
    |zero=>simp[hx]|succ i=>simpa using PR hl i
theorem Ro {α β:Type} {f:α->Option β}:∀{l:List α} {r:List β},l.mapM f=some r->r.length=l.length
 | [],r,h=>by simp at h;subst h;rfl
 |x::l,r,h=>by
  rw[ug]at h;cases hx:f x with
  |none=>simp[hx]at h|some y=>
   cases hl:l.mapM f with
   |none=>simp[hx,hl]at h|some ys=>
    simp[hx,hl]at h;subst h;simp[Ro hl]
theorem iI {w:World} {base:Nat} {a:Addr} {n:Nat} {cs:List Value} (h:w.cells? base a n=some cs) (hn:0<n):
  ∃l,Hj w a.block=some l/\a.spot=none/\a.off+n<=l.length/\cs=chunk l a.off n:=by
 unfold World.cells? at h;split at h
 ·have hl:=Ro h;simp at hl;have hg:=PR h;have h0:=hg 0;cases hc:cs[0]? with
  |none=>simp at hc;subst hc;simp at hl;omega|some v0=>
   rw[hc]at h0;simp[il hn]at h0;have e0:a.add 0=a:=by simp[ou]
   rw[e0]at h0;obtain⟨l,h1,h2,h3⟩:=Yx h0;refine⟨l,h1,h3,?_,?_⟩
   ·have z7t:=hg (n-1);cases hc':cs[n-1]? with
    |none=>simp at hc';omega|some v1=>
     rw[hc']at z7t;simp[il (show n-1<n by omega)]at z7t;obtain⟨l',g1,g2,_⟩:=Yx z7t;have eb:(a.add (n-1)).block=a.block:=by unfold ou;split <;> rfl
     have eo:(a.add (n-1)).off=a.off+(n-1):=by unfold ou;split <;> simp_all
     rw[eb,h1]at g1;cases g1;rw[eo]at g2;have:=(ca.1 g2).1;omega
   ·apply List.ext_getElem?;intro i;by_cases hi:i<n
    ·have:=hg i;simp[il hi]at this;cases hc':cs[i]? with
     |none=>simp at hc';omega|some v1=>
      rw[hc']at this;obtain⟨l',g1,g2,_⟩:=Yx this;have eb:(a.add i).block=a.block:=by unfold ou;split <;> rfl
      have eo:(a.add i).off=a.off+i:=by unfold ou;split <;> simp_all
      rw[eb,h1]at g1;cases g1;rw[eo]at g2;simp[chunk,fe,hi,g2]
    ·rw[List.getElem?_eq_none (by omega)];simp[chunk,fe,hi]
 ·cases h
theorem Qd {a b:List Nat} (h:(a++b).all (·<=reachBytes)=true):a.all (·<=reachBytes)=true/\b.all (·<=reachBytes)=true:=by simpa[List.all_append]using h
theorem fD {H:Type} {P:Program} {e:TypeId}:∀{l:List (DataW H)} {i:Nat} {d:DataW H},l[i]? =some d->(qp P e l).all (·<=reachBytes)=true->(d.weights P e).all (·<=reachBytes)=true
 | [],i,d,h,_=>by simp at h
 |x::l,0,d,h,hw=>by simp at h;subst h;simp only[qp]at hw;exact(Qd hw).1
 |x::l,i+1,d,h,hw=>by simp only[qp]at hw;exact fD (by simpa using h) (Qd hw).2
theorem fE {H:Type} {P:Program}:∀{ts:List TypeId} {l:List (DataW H)} {i:Nat} {t:TypeId} {d:DataW H},ts[i]? =some t->l[i]? =some d->(mu P ts l).all (·<=reachBytes)=true->(d.weights P t).all (·<=reachBytes)=true
 | [],_,i,t,d,h,_,_=>by simp at h
 |_::_,[],i,t,d,_,h,_=>by simp at h
 |t::ts,x::l,0,t',d,ht,h,hw=>by simp at ht h;subst ht;subst h;simp only[mu]at hw;exact(Qd hw).1
 |t::ts,x::l,i+1,t',d,ht,h,hw=>by simp only[mu]at hw;exact fE (by simpa using ht) (by simpa using h) (Qd hw).2
theorem rY {vs:List Value} (h:∀i:Nat,i<vs.length->∃o m,o<=i/\i<o+m/\Dt (chunk vs o m)):Dt vs:=by intro v hv;obtain⟨i,hi,rfl⟩:=List.getElem_of_mem hv;obtain⟨o,m,h1,h2,h3⟩:=h i hi;refine h3 _ ?_;refine fa (i:=i-o) ?_;simp only[chunk,fe,List.getElem?_drop];rw[if_pos (by omega),show o+(i-o)=i by omega,bp hi]
mutual
def cOf {H:Type}:DataW H->C
 | .lit (.bool b)=>.bool b| .lit (.int _ n)=>.int n| .lit (.string l)=>.str l| .nil=>.slice []| .slice es _=>.slice (JO es)| .agg ps=>.agg (JO ps)|_=>.nil
def JO {H:Type}:List (DataW H)->List C
 | []=>[]|d::ds=>cOf d::JO ds
end
theorem Tj {H:Type}:∀{ds:List (DataW H)} {i:Nat},(JO ds)[i]? =(ds[i]?).map cOf
 | [],i=>by simp[JO]
 |d::ds,0=>by simp[JO]
 |d::ds,i+1=>by simp[JO,Tj]
theorem Tk {H:Type}:∀{ds:List (DataW H)},(JO ds).length=ds.length
 | []=>rfl|d::ds=>by simp[JO,Tk]
section
variable {H:Type} {enc:TypeId × Value->H} {P:Program} {w:World}
theorem Ss (hP:BN P=true) {base:Nat} {held:Bool} {sp:Nat->Bool} (hsp:∀b,sp b=true):∀(fuel f:Nat) {t:TypeId} {cs:List Value} {d:DataW H} {ps:List MemPlace},t<P.types.size->(tyF P f t).dat=true->
  kz enc P w base sp held fuel t cs=some (d,ps)->(d.weights P t).all (·<=reachBytes)=true->AO (Hj w) (tyF P f t) cs (cOf d)
 |0,f,t,cs,d,ps,_,_,h,_=>by simp[kz]at h
 |fuel+1,0,t,cs,d,ps,_,hf,h,_=>by simp[tyF,Ty.dat]at hf
 |fuel+1,f+1,t,cs,d,ps,ht,hf,h,hw=>by
  have hok:=Ix hP ht;unfold okT at hok;unfold tyF at hf ⊢;rw[if_pos ht]at hf ⊢;cases hu:P.underlying t with
  |none=>simp[hu,Ty.dat]at hf|some desc=>
   simp only[hu]at hf hok ⊢;cases desc with
   |bool=>
    unfold kz at h;simp only[hu]at h;split at h <;> simp_all;rw[<-h.1];simp[AO,cOf]
   |int k=>
    unfold kz at h;simp only[hu]at h;split at h <;> simp_all;obtain⟨⟨rfl,hh⟩,hd,_⟩:=h;simp[Lit.wf]at hh;rw[<-hd];simp[AO,cOf];omega
   |string=>
    unfold kz at h;simp only[hu]at h;split at h <;> simp_all;obtain⟨hh,rfl,_⟩:=h;simp[qa,reachBytes]at hw;simp only[AO,cOf];exact⟨_,rfl,by simp,by simp;omega⟩
   |slice e=>
    simp only[Ty.dat,bg,decide_eq_true_eq]at hf;simp only[bg,beq_iff_eq,decide_eq_true_eq]at hok;have hsz:(tyF P f e).size=P.cellsOf e:=Dj hP f e;unfold kz at h;simp only[hu]at h;split at h <;> try (simp_all;done)
    ·simp only[ee,fx]at h;rw[<-h.1];simp only[AO,cOf];exact⟨none,0,0,[],rfl,rfl,rfl,Nat.le_refl _,by simp[maxLen],by simp,.inl rfl⟩
    ·rename_i e' a len cap he;simp at he;subst he;split at h
     ·rename_i hc;simp only[nk,ei]at h;obtain⟨elems,he1,rest,he2,he3⟩:=h;simp only[fx]at he3;obtain⟨rfl,_⟩:=he3;simp only[qa,hu,xn,bg,decide_eq_true_eq]at hw;obtain⟨hw1,hw2⟩:=hw;obtain⟨hw2,hw3⟩:=Qd hw2;have hl:=Ro he1;simp at hl;have hbound:len*P.bytesOf e<=140737488355328:=by have:len*P.bytesOf e<=(elems.length+rest.length)*P.bytesOf e:=Nat.mul_le_mul_right _ (by omega);simp[reachBytes]at hw1;omega
      by_cases hz:len=0
      ·subst hz;have:elems=[]:=by cases elems <;> simp_all
       subst this;simp only[AO,cOf,List.map_nil,JO];exact⟨some a,0,cap,[],rfl,rfl,rfl,Nat.zero_le _,hc.2.2,by simp,.inl rfl⟩
      ·have key:∀i,i<len->∃l,Hj w a.block=some l/\a.spot=none/\(a.off+i*P.cellsOf e)+P.cellsOf e<=l.length/\∀x,elems[i]? =some x->AO (Hj w) (tyF P f e) (chunk l (a.off+i*P.cellsOf e) (P.cellsOf e)) (cOf x.1):=by
        intro i hi;have hg:=PR he1 i;rw[il hi]at hg;have hi':i<elems.length:=by omega
        rw[bp hi']at hg;simp only[gp,nk]at hg;obtain⟨cs,hc1,hc2⟩:=hg;obtain⟨l,q1,q2,q3,q4⟩:=iI hc1 (by rw[<-hsz];exact hf.2);have eb:(a.add (i*P.cellsOf e)).block=a.block:=by unfold ou;split <;> rfl
        have eo:(a.add (i*P.cellsOf e)).off=a.off+i*P.cellsOf e:=by unfold ou;split <;> simp_all
        have h0:a.spot=none:=by have hg0:=PR he1 0;rw[il (by omega),bp (by omega)]at hg0;simp only[gp,nk]at hg0;obtain⟨cs0,z9c,_⟩:=hg0;obtain⟨_,_,q,_⟩:=iI z9c (by rw[<-hsz];exact hf.2);simpa[ou]using q
        rw[eb]at q1;rw[eo]at q3 q4;subst q4;have hcr:=Ss hP hsp fuel f hok.2 hf.1 hc2 (fD (i:=i) (by simp[de,bp hi']) hw2);exact⟨l,q1,h0,q3,fun x hx=>by rw[bp hi']at hx;cases hx;exact hcr⟩
       obtain⟨l,hl1,hl2,_,_⟩:=key 0 (by omega);simp only[AO,cOf];refine⟨some a,len,cap,_,rfl,rfl,by simp[Tk,hl],hc.2.1,hc.2.2,hbound,.inr ⟨a.block,a.off,l,?_,hl1,?_,fun i c hi=>?_⟩⟩;{cases a;simp_all}
       ·rw[hsz];obtain⟨l',q1,_,q3,_⟩:=key (len-1) (by omega);rw[hl1]at q1;cases q1;have:len*P.cellsOf e=(len-1)*P.cellsOf e+P.cellsOf e:=by rw[<-Nat.succ_mul];congr 1;omega
        omega
       ·simp only[Tj,de,sc,ei]at hi;obtain⟨x,hx,rfl⟩:=hi;have hi':i<len:=by have:=(ca.1 hx).1;omega
        rw[hsz];obtain⟨l',q1,_,_,q4⟩:=key i hi';rw[hl1]at q1;cases q1;exact q4 x hx
     ·cases h
   |array n e=>
    simp only[Ty.dat,bg,decide_eq_true_eq]at hf;simp only[bg,beq_iff_eq,decide_eq_true_eq]at hok;have hsz:(tyF P f e).size=P.cellsOf e:=Dj hP f e;unfold kz at h;simp only[hu]at h;split at h
    ·rename_i hlen;simp only[ei]at h;obtain⟨elems,he1,he3⟩:=h;simp only[fx]at he3;obtain⟨rfl,_⟩:=he3;simp only[qa,hu]at hw;have hl:=Ro he1;simp at hl;have key:∀i x,elems[i]? =some x->AO (Hj w) (tyF P f e) (chunk cs (i*P.cellsOf e) (P.cellsOf e)) (cOf x.1):=by
      intro i x hx;have hg:=PR he1 i;have hi:i<n:=by have:=(ca.1 hx).1;omega
      rw[il hi,hx]at hg;simp only[gp]at hg;exact Ss hP hsp fuel f hok.2 hf.1 hg (fD (i:=i) (by simp[de,hx]) hw)
     simp only[AO,cOf];refine⟨_,rfl,by simp[Tk,hl],by rw[hsz,hlen,hok.1],rY fun i hi=>?_,fun i c hi=>?_⟩
     ·have hi2:i / P.cellsOf e<n:=by rw[Nat.div_lt_iff_lt_mul (by omega)];omega
      have hc:=key (i / P.cellsOf e) _ (bp (by omega));refine⟨_,_,?_,?_,hc.one⟩;{exact Nat.div_mul_le_self _ _};{have:=Nat.lt_div_mul_add (a:=i) (b:=P.cellsOf e) (by omega);omega}
     ·simp only[Tj,de,sc,ei]at hi;obtain⟨x,hx,rfl⟩:=hi;rw[hsz];exact key i x hx
    ·cases h
   |struct fs=>
    simp only[Ty.dat,bg,decide_eq_true_eq,dw,List.any_eq_true,gr]at hf;simp only[dw,bg,decide_eq_true_eq]at hok;obtain⟨⟨hf1,hf2⟩,hf3⟩:=hf;unfold kz at h;simp only[hu]at h;split at h
    ·rename_i hlen;simp only[ei]at h;obtain⟨elems,he1,he3⟩:=h;simp only[fx]at he3;obtain⟨rfl,_⟩:=he3;simp only[qa,hu]at hw;have hl:=Ro he1;have key:∀(i:Nat) g x,fs.toList[i]? =some g->elems[i]? =some x->AO (Hj w) (tyF P f g.type) (chunk cs g.offset (P.cellsOf g.type)) (cOf x.1):=by
      intro i g x hi he;have hg:=PR he1 i;rw[hi,he]at hg;simp only[gp]at hg
      exact Ss hP hsp fuel f (hok g (fa hi)).1 (jE (i:=i) hf1 (by simp only[de,hi,gm])) hg
        (fE (i:=i) (by simp only[de,hi,gm]) (by simp only[de,he,gm]) hw)
     simp only[AO,cOf];refine⟨_,rfl,hlen,rY fun i hi=>?_,Bz.Lj (by simp[Tk,hl]) fun i F c hF hc=>?_⟩;{obtain⟨j,hj,hj2⟩:=hf3 i (by omega);split at hj2;{rename_i o F ho hF;simp at hj2;simp only[de,ei]at ho hF;obtain⟨g,hg,rfl⟩:=ho;obtain⟨g',hg',rfl⟩:=hF;rw[hg]at hg';cases hg';have hjl:=(ca.1 hg).1;have hc:=key j g _ hg (bp (by omega));rw[Dj hP]at hj2;exact⟨_,_,hj2.1,hj2.2,hc.one⟩};{cases hj2}};{simp only[de,Tj,sc,ei]at hF hc;obtain⟨g,hg,rfl⟩:=hF;obtain⟨x,hx,rfl⟩:=hc;refine⟨g.offset,by simp only[de,hg,gm],?_,?_⟩;{rw[Dj hP,hlen];exact(hok g (fa hg)).2};{rw[Dj hP];exact key i g x hg hx}}
    ·cases h
   |_=>simp[Ty.dat]at hf
end
end
section
open Go Go.ChangeShapes Go.WideShapes Go.RowKit
def dN (P:Program):Bool:=(gh P.types.size).all fun t=>match P.underlying t with|some (.slice e)=>decide (0<P.cellsOf e)|_=>true
def Nw (w:World) (gl:Nat->Option (Ty × C)):Prop:=∀g τ c,gl g=some (τ,c)->∃l,Hj w g=some l/\τ.size<=l.length/\AO (Hj w) τ (chunk l 0 τ.size) c
def Ra (P:Program):List (String × DataW Unit)->Nat->Option (Ty × C)
 | [],_=>none|(n,d)::r,g=>if P.globalNamed n=some g then(match(P.globals[g]?).map (·.type)with|some t=>some (ty P t,cOf d)|none=>none)else Ra P r g
def Ur (P:Program) (l:List (String × DataW Unit)):Bool:=l.all fun x=>match P.globalNamed x.1 with
 |some g=>match(P.globals[g]?).map (·.type)with|some t=>decide (t<P.types.size)&&(ty P t).dat&&(x.2.weights P t).all (·<=reachBytes)|none=>false
 |none=>false
theorem mT {P:Program} (hP:BN P=true) {w:World}:∀{l:List (String × DataW Unit)} {ps:List MemPlace},Ur P l=true->DataW.LaidVars P w l ps->Nw w (Ra P l)
 | [],_,_,_=>fun g τ c h=>by simp[Ra]at h
 |(n,d)::r,ps,hk,h=>by
  obtain⟨g0,t,cs,fuel,p,q,hg,ht,hv,hd,hr,_⟩:=h;simp only[Ur,xn,bg,hg,ht,decide_eq_true_eq]at hk;obtain⟨⟨⟨k1,k2⟩,k3⟩,k4⟩:=hk;intro g τ c h;simp only[Ra]at h;split at h
  ·rename_i e;rw[hg]at e;cases e;rw[ht]at h;simp at h;obtain⟨rfl,rfl⟩:=h;have yt:=Ss hP (fun _=>rfl) fuel 12 k1 k2 hd k3;simp only[World.var?,hg,gp]at hv;split at hv
   ·rename_i c T fr hc;cases hv;have hl:=yt.length;refine⟨cs.toList,by simp[Hj,hc],by show(tyF P 12 t).size<=_;omega,?_⟩;have:chunk cs.toList 0 (ty P t).size=cs.toList:=by show chunk cs.toList 0 (tyF P 12 t).size=_;rw[<-hl];exact MW _
    rw[this];exact yt
   ·cases hv
  ·exact mT hP k4 hr g τ c h
theorem q1A {P:Program} (hP:BN P=true) {w:World} {l:List (String × DataW Unit)} (hk:Ur P l=true) (hn:(l.all fun x=>x.2.handleName?.isNone)=true) (h:laidMetH P l w):Nw w (Ra P l):=by rw[MakeChecks.laidMetH_plain _ _ _ hn]at h;obtain⟨ps,h1,_⟩:=h;exact mT hP hk h1
def G.start (w:World) (gl:Nat->Option (Ty × C)):G:=
 {H:=Hj w,Z:=fun b=>w.heap[b]?,ι:=fun _=>none,τ:=fun _=>none,κ:=fun _=>none,gl:=gl,oo:=oof w,σ:=fun _=>none}
theorem rH (n:Nat):∀(ts:List Ty) (cs:List C),Gj n (jz V.d ts cs)=[]
 | [],_=>by simp[Gj]
 |_::_,[]=>by simp[Gj]
 |t::ts,c::cs=>by simp[Gj,V.ED,rH (n+1) ts cs]
theorem wV (n:Nat):∀(ts:List Ty) (cs:List C),DW n (jz V.d ts cs)=jz V.d ts cs
 | [],_=>by simp[DW]
 |_::_,[]=>by simp[DW]
 |t::ts,c::cs=>by simp[DW,V.slot,wV (n+1) ts cs]
theorem Y5 {w:World} {gl:Nat->Option (Ty × C)} (h:Nw w gl) (ts:List Ty) (cs:List C):AX (G.start w gl) w (S.start (jz V.d ts cs) fun _=>none):=by refine⟨fun b l hb=>?_,fun b o hb=>hb,fun b o sz hb=>by simp[G.start]at hb,fun k o hk=>?_,fun k hk=>absurd rfl hk,fun k k' b τ τ' hk=>by simp[G.start]at hk,fun t L ht=>?_,fun t ht=>absurd rfl ht,h,rfl,fun b sz hb=>by simp[G.start]at hb⟩;{simp only[G.start,Hj]at hb;split at hb;{rename_i c T fr hc;cases hb;exact⟨c,T,fr,[],hc,by simp⟩};{cases hb}};{cases k <;> simp[S.start,jv,Cs,AY]at hk};{simp[S.start,S.live,rH,EZ,look]at ht}
theorem eK {H:Type} {enc:TypeId × Value->H} {P:Program} {w:World} {base:Nat} {sp:Nat->Bool} {held:Bool}:∀{ts:List TypeId} {vs:List Value} {ds:List (DataW H)} {ps:List MemPlace},
  ku enc P w base sp held ts vs ds ps->vs.length=ts.length/\ds.length=ts.length
 | [],vs,ds,ps,h=>by obtain⟨rfl,rfl,rfl⟩:=trodAll_nil h;simp
 |t::ts,vs,ds,ps,h=>by obtain⟨v,vs,d,ds,p,q,rfl,rfl,rfl,h1,h2⟩:=trodAll_cons h;have:=eK h2;simp[this]
theorem xX {H:Type} {enc:TypeId × Value->H} {P:Program} {w:World} {base:Nat} {sp:Nat->Bool} {held:Bool}:∀{ts:List TypeId} {vs:List Value} {ds:List (DataW H)} {ps:List MemPlace} {i:Nat} {t:TypeId} {v:Value} {d:DataW H},
  ku enc P w base sp held ts vs ds ps->ts[i]? =some t->vs[i]? =some v->ds[i]? =some d->∃p,DataW.Trod enc P w base sp held t v d p
 | [],vs,ds,ps,i,t,v,d,h,ht,_,_=>by simp at ht
 |t::ts,vs,ds,ps,i,t',v',d',h,ht,hv,hd=>by
  obtain⟨v,vs,d,ds,p,q,rfl,rfl,rfl,h1,h2⟩:=trodAll_cons h;cases i with
  |zero=>simp at ht hv hd;subst ht;subst hv;subst hd;exact⟨p,h1⟩|succ i=>exact xX h2 (by simpa using ht) (by simpa using hv) (by simpa using hd)
theorem xY {H:Type} {enc:TypeId × Value->H} {P:Program} (hl:laidOutB P=true) (hm:mapsRowed P=true) (hz:dN P=true) {w w':World} (hh:∀b,b<w.heap.size->w'.heap[b]? =w.heap[b]?) {sp:Nat->Bool}:
  ∀{ts:List TypeId} {vs:List Value} {ds:List (DataW H)} {ps:List MemPlace},(∀t∈ts,t<P.types.size)->ku enc P w 0 (fun _=>true) true ts vs ds ps->(∀p∈ps,sp p.block=true)->ku enc P w' 0 sp true ts vs ds ps
 | [],vs,ds,ps,_,h,_=>by obtain⟨rfl,rfl,rfl⟩:=trodAll_nil h;exact trodAll_mk0
 |t::ts,vs,ds,ps,hts,h,hs=>by
  have hlt:=sk h;obtain⟨v,vs,d,ds,p,q,rfl,rfl,rfl,⟨n,h1⟩,h2⟩:=trodAll_cons h
  refine⟨p,q,⟨n,DataW.trod_stays (kids_rows hl hm) (fun{t e} ht hu=>?_) (fun h=>by cases h) (hts t (by simp)) h1 (fun x hx=>?_) (fun x hx=>hs x (by simp[hx]))⟩,
   xY hl hm hz hh (fun t ht=>hts t (by simp[ht])) h2 (fun x hx=>hs x (by simp[hx])),rfl⟩
  ·have:=dw.1 hz t (gr.2 ht);simp only[hu]at this;simpa using this
  ·have:=hlt x (by simp;exact .inl hx);cases x with|cell b off=>simp only[xo,na];rw[hh b this]|map b=>simp only[xo];rw[hh b this]
theorem q4G {P:Program} {W:World} {base:Nat} {t:TypeId} {v:Value} (hd:(ty P t).dat=true) (h:ue P W .any base t v):Bi v=(ty P t).isAgg:=by
 unfold ty tyF at hd ⊢;split at hd
 ·rename_i ht;rw[if_pos ht];unfold ue at h;cases hu:P.underlying t with
  |none=>simp[hu,Ty.dat]at hd|some d=>
   rw[hu]at h;cases d <;> simp only[hu,Ty.dat,Ty.isAgg,fi]at hd h ⊢
   case struct=>obtain⟨cs,rfl,_⟩:=h;rfl
   case array=>obtain⟨cs,rfl,_⟩:=h;rfl
   all_goals
    unfold Cell.okWide at h;rw[hu]at h;cases v <;> simp[Cell.ok,hu]at h <;> rfl
 ·simp[Ty.dat]at hd
section
variable {H:Type} {enc:TypeId × Value->H} {P:Program}
theorem q2P (hP:BN P=true) (hl:laidOutB P=true) (hm:mapsRowed P=true) (hz:dN P=true) {f:FuncId} {fn:Func} {s:ChangeSpec} {W:World} {base:Nat} {args:Array Value} {ds gs:List (DataW H)} {before:List MemPlace} {apart fresh handsOn again:Bool}
  (hp:fn.params.toList.all (fun t=>decide (t<P.types.size)&&(ty P t).dat)=true) {tb:TypeId} (hr:fn.resultTypes=#[tb]) (hb:P.underlying tb=some .bool) (z7u:s.vars=[])
  (z7f:∀(j:Nat) t v,fn.params[j]? =some t->args[j]? =some v->ue P W .any base t v)
  (hW:DataW.Whole enc P fn.params.toList s.vars apart W args.toList ds gs before)
  (hwt:(mu P fn.params.toList ds).all (·<=reachBytes)=true) {gl:Nat->Option (Ty × C)} (hgl:Nw W gl)
  (hfr:(s.fn H (ds++gs)).results=[.lit (.bool true)]) (hfa:(s.fn H (ds++gs)).args=ds) (hfv:(s.fn H (ds++gs)).vars=[])
  (law:Cc ⟨P,gl⟩ f (jz V.d (fn.params.toList.map (ty P)) (ds.map cOf)) (fun _=>none) (.d .bool (.bool true)) []):
  Calls P f args W fun e W'=>∃v,e= .returned v/\s.post enc P fn apart fresh handsOn again W args v W':=by
 have hW':=hW;obtain⟨p,q,hA,hV,rfl,hfz,hnd⟩:=hW;rw[z7u]at hV;obtain⟨rfl,rfl⟩:=trodVars_none hV;have z77:=eK hA;have z8r:∀t∈fn.params.toList,t<P.types.size/\(ty P t).dat=true:=by intro t ht;have:=dw.1 hp t ht;simpa using this
 refine(law (fun _=>none) (G.start W gl) W args (fun _ _ h=>h) rfl ⟨Y5 hgl _ _,fun _ _ h=>nomatch h⟩ ?_ ?_).mono ?_;{simp only[List.length_zipWith,List.length_map,z77.2];have:=z77.1;simp at this ⊢;omega}
 ·intro i x u hx hu;rw[wV,List.getElem?_zipWith]at hx;split at hx
  ·rename_i τ c hτ hc;cases hx;simp only[de,ei]at hτ hc;obtain⟨t,ht,rfl⟩:=hτ;obtain⟨d,hd,rfl⟩:=hc;have hu':args.toList[i]? =some u:=by simpa using hu
   obtain⟨ps,fuel,htr⟩:=xX hA ht hu' hd;have hm:=z8r t (fa ht);have hv:=z7f i t u (by simpa using ht) hu;refine(Ca rfl).2 ⟨?_,?_⟩;{simp only[AA];exact Ss hP (fun _=>rfl) fuel 12 hm.1 hm.2 htr (fE ht hd hwt)};{simp only[V.ty];exact q4G hm.2 hv}
  ·cases hx
 ·rintro e W' ⟨u,Γ',rfl,gle,c',hu⟩;have hu':u= .bool true:=(GK hu).1;subst hu';refine⟨_,rfl,?_⟩;have hold:∀b,b<W.heap.size->W'.heap[b]? =W.heap[b]?:=by
   intro b hb;have:Γ'.Z b=some W.heap[b]:=by rw[gle.Z];simp[G.start,hb]
   rw[c'.hZ b _ this];simp[hb]
  have hoo:oof W'=oof W:=by rw[c'.hoo,gle.oo];rfl
  have hpl:∀t∈fn.params.toList,t<P.types.size:=fun t ht=>(z8r t ht).1;have z8s:∀x∈p,x.block<W.heap.size:=sk hA;have z67:∀(b:Nat) (sp:Nat->Bool) (hd:Bool),ku enc P W' b sp hd fn.resultTypes.toList ((Value.bool true).resultList fn.resultTypes.size) [.lit (.bool true)] []:=by intro b sp hd;rw[hr];exact trodAll_mk1 (shut_bool hb _)
  have z78:∀sp:Nat->Bool,(∀x∈p,sp x.block=true)->ku enc P W' 0 sp true fn.params.toList args.toList ds p:=fun sp hs=>xY hl hm hz hold hpl hA hs;refine⟨ds,[],p++[],[],p,[],hW',?_,?_,?_,?_,fun _=>⟨?_,[.lit (.bool true)]++ds,[],([]++p)++[],⟨[]++p,[],trodAll_append (z78 _ (fun _ _=>rfl)) (z67 _ _ _),by rw[z7u];rfl,rfl,?_,?_⟩,?_⟩⟩;{rw[hfr];exact z67 _ _ _};{rw[hfa];exact z78 _ (fun x hx=>by simpa using z8s x hx)};{rw[hfv,z7u];rfl};{refine⟨congrArg Prod.fst hoo,congrArg Prod.snd hoo,fun i hi=>?_⟩;rw[hold i hi];cases hc:W.heap[i]? with|none=>rfl|some o=>cases o <;> simp}
  ·intro j t r hj hrr;rw[hr]at hj hrr;cases j with
   |zero=>
    simp at hj;subst hj;have:r= .bool true:=by simpa[Value.resultList]using hrr.symm
    subst this;exact okWide_bool_mk hb _
   |succ j=>simp at hj
  ·intro b off hx;have hx':MemPlace.cell b off∈p:=by simpa using hx
   have:=hfz b off (by simpa using hx');unfold World.frozen? at this ⊢;rw[hold b (z8s _ hx')];exact this
  ·intro ha;simpa using hnd ha
  ·intro x hx _;simpa using hx
end
end
def UD {α:Type}:List (Nat × α)->Nat->List (Nat × α)
 | [],_=>[]|(j,x)::l,i=>if j=i then UD l i else(j,x)::UD l i
def UC {α:Type}:List (Key × α)->Key->List (Key × α)
 | [],_=>[]|(j,x)::l,i=>if j=i then UC l i else(j,x)::UC l i
def S.less (s:S) (t j:Nat):S:=⟨UD s.env t,UC s.loc (.l j),s.A,s.tk⟩
attribute [go_sem] UD UC S.less
section
section
variable {X:Cx} {md:List (Nat × Nat)} {ops:Array Oper} {Φ:S->Prop} {rest:List Oper} {ts:List Nat} {o:Oper} {base s:S}
end
end
def Zi:Nat->List Nat->Bool
 |_,[]=>false|i,j::l=>if i=j then true else Zi i l
def ZC {α:Type}:List (Nat × α)->List Nat->List (Nat × α)
 | [],_=>[]|(j,x)::l,ks=>if Zi j ks then(j,x)::ZC l ks else ZC l ks
attribute [go_sem] Zi ZC
mutual
def C.beq:C->C->Bool
 | .int a,.int b=>decide (a=b)| .bool a,.bool b=>a==b| .str a,.str b=>decide (a=b)| .agg a,.agg b=>C.HL a b| .slice a,.slice b=>C.HL a b| .nil,.nil=>true|_,_=>false
def C.HL:List C->List C->Bool
 | [],[]=>true|x::xs,y::ys=>C.beq x y&&C.HL xs ys|_,_=>false
end
mutual
theorem C.beq_iff:∀(a b:C),C.beq a b=true↔a=b
 | .int a,b=>by cases b <;> simp[C.beq]
 | .bool a,b=>by cases b <;> simp[C.beq]
 | .str a,b=>by cases b <;> simp[C.beq]
 | .agg a,b=>by cases b <;> simp[C.beq,C.OH a]
 | .slice a,b=>by cases b <;> simp[C.beq,C.OH a]
 | .nil,b=>by cases b <;> simp[C.beq]
theorem C.OH:∀(a b:List C),C.HL a b=true↔a=b
 | [],b=>by cases b <;> simp[C.HL]
 |x::xs,[]=>by simp[C.HL]
 |x::xs,y::ys=>by simp[C.HL,C.beq_iff x,C.OH xs]
end
instance:DecidableEq C:=fun a b=>decidable_of_iff _ (C.beq_iff a b)
theorem C.UO (a b:C):C.eqb a b=C.beq a b:=by rw[Bool.eq_iff_iff,C.Gt,C.beq_iff]
def V.isAny:V->Bool
 | .any=>true|_=>false
theorem V.PH {x:V} (h:x.isAny=false):x≠.any:=by intro e;subst e;cases h
instance (k:IntKind) (x:V):Decidable (x.isInt k):=by unfold V.isInt;split <;> infer_instance
instance (x:V):Decidable x.isBool:=by unfold V.isBool;split <;> infer_instance
instance (x:V):Decidable x.isStr:=by unfold V.isStr;split <;> infer_instance
instance (x:V):Decidable x.Fq:=by unfold V.Fq;split <;> infer_instance
instance (τ:Ty) (x:V):Decidable (x.Dk τ):=by unfold V.Dk;split <;> infer_instance
def S.wA (s:S) (A:Key->Option O):S:={s with A:=A}
def leA (A A':Key->Option O):Prop:=∀k o,A k=some o->A' k=some o
theorem Dv {s:S} {A':Key->Option O} (hA:leA s.A A') {k:Key} {o:O} (h:s.obj k=some o):(s.wA A').obj k=some o:=by
 simp only[jv,Cs,S.wA]at h ⊢;cases hl:AY s.loc k with
 |some x=>rw[hl]at h;exact h|none=>
  rw[hl]at h;cases k with
  |l n=>cases h
  |g k=>exact hA _ _ h
theorem KR (s:S) (A':Key->Option O) (n:Nat):(s.wA A').obj (.l n)=s.obj (.l n):=rfl
theorem Fi (gl:Nat->Option (Ty × C)) (s:S) (A':Key->Option O):Aj gl (s.wA A')=Aj gl s:=by funext y;cases y <;> rfl
theorem eU {s:S} {A':Key->Option O} (hA:leA s.A A'):leA s.up (s.wA A').up:=by intro k o h;simp only[S.up,ei]at h ⊢;obtain⟨x,h1,h2⟩:=h;exact⟨x,Dv hA h1,h2⟩
theorem q2Z (s:S) (A':Key->Option O) (t:Nat):(s.wA A').live t=s.live t:=rfl
theorem kP {s:S} {A':Key->Option O} (hA:leA s.A A') {x:V} {r:Nat × Ty × List C} (h:Ey s x=some r):Ey (s.wA A') x=some r:=by
 cases x <;> simp only[Ey]at h ⊢ <;> try exact h
 split at h;{rename_i y hy;rw[Dv hA hy];exact h};{cases h}
def Ti (τ:Ty):V->List (Nat × V)->Bool
 |_,[]=>true|x,(i,v)::rest=>(τ.child i).isSome&&decide ((Cj (τ.get i) v).ty=τ.get i)&&(Cj (τ.get i) v).plain&& !(x.at [i]).isAny&&Ti τ (x.setAt [i] (Cj (τ.get i) v)) rest
theorem gZ {τ:Ty}:∀{l:List (Nat × V)} {x:V},Ti τ x l=true->MV τ x l
 | [],_,_=>trivial|(i,v)::rest,x,h=>by simp only[Ti,bg,decide_eq_true_eq,jg]at h;exact⟨h.1.1.1.1,h.1.1.1.2,h.1.1.2,V.PH h.1.2,gZ h.2⟩
abbrev RI:=V × List (Key × O) × List (Nat × Option Nat)
def Ge {α:Type}:List (C × α)->C->α->List (C × α)
 | [],c,v=>[(c,v)]|(k,u)::es,c,v=>if C.beq c k=true then(k,v)::es else(k,u)::Ge es c v
theorem tM {α:Type} (c:C) (v:α):∀(es:List (C × α)),Ge es c v=FB es c v
 | []=>rfl|(k,u)::es=>by simp only[Ge,FB,C.UO,tM c v es]
theorem q74 {P:Program} {s:S} {A':Key->Option O} (hA:leA s.A A') {src dst:TypeId} {x:V} {ys:List C} (h:strOf P s src dst x=some ys):strOf P (s.wA A') src dst x=some ys:=by
 cases hel:Ey s x with
 |some r=>
  rw[<-h];unfold strOf;rw[hel,kP hA hel]
 |none=>
  unfold strOf at h ⊢;rw[hel]at h;split at h;{split at h;{rename_i h0;rw[if_pos h0];split at h;{exact h};{cases h}};{cases h}};{cases h}
theorem q73 {P:Program} {s:S} {src dst:TypeId} {x:V} {ys:List C} {K:V->Prop} (h:strOf P s src dst x=some ys):¬NT P src dst x K:=by unfold strOf at h;split at h;{rename_i ht hd;unfold NT;rw[ht,hd];exact id};{cases h}
theorem Um (A':Key->Option O):∀(σ:List (Nat × List Nat)) (s:S),Eo σ (s.wA A')=(Eo σ s).wA A'
 | [],_=>rfl|(t,_)::σ,s=>by simp only[Eo];exact Um A' σ (s.tok t none)
theorem tI (A':Key->Option O) (d:Nat):∀(L:List (Key × O)) (s:S),Gd d L (s.wA A')=(Gd d L s).wA A'
 | [],_=>rfl|(k,o)::L,s=>by simp only[Gd,tI A' d L s];rfl
theorem tN (A':Key->Option O) (d:Nat):∀(L:List (Nat × Option Nat)) (s:S),HU d L (s.wA A')=(HU d L s).wA A'
 | [],_=>rfl|(k,o)::L,s=>by simp only[HU,tN A' d L s];rfl
theorem jR (A':Key->Option O):∀(L:List Nat) (s:S),Gq L (s.wA A')=(Gq L s).wA A'
 | [],_=>rfl|t::L,s=>by simp only[Gq,jR A' L s];rfl
theorem y8 (A':Key->Option O) (tip:Bool) (s:S) (x:V):Cy tip (s.wA A') x=Cy tip s x:=rfl
theorem bB (A':Key->Option O) (tip:Bool) (s:S):∀(ys:List V),DK tip (s.wA A') ys=DK tip s ys
 | []=>rfl|y::ys=>by simp only[DK,bB A' tip s ys,y8]
theorem gI (A':Key->Option O) (P:Program) (tip:Bool) (s:S):∀(Ts:List TypeId) (ys:List V),DN P tip (s.wA A') Ts ys=DN P tip s Ts ys
 | [],_=>rfl|_::_,[]=>rfl|T::Ts,y::ys=>by simp only[DN,gI A' P tip s Ts ys];rfl
theorem cU (A':Key->Option O) (s:S) (tip:Bool) (ys:List V) (d:Nat) (v:V) (L:List (Key × O)):(s.wA A').ret tip ys d v L=(s.ret tip ys d v L).wA A':=by simp only[S.ret,bB,tI,jR,tN]
def Hg (s:S) (d:Nat):List (Key × O)->Bool
 | []=>true|(.g k,_)::L=>(s.obj k).isSome&&Hg s d L|(.l j,_)::L=>(s.obj (.l (rk d j))).isNone&&Hg s d L
theorem Ud {s:S} {A':Key->Option O} (hA:leA s.A A') {d:Nat}:∀{L:List (Key × O)},Hg s d L=true->gOk (s.wA A') d L
 | [],_=>trivial|(.g k,_)::L,h=>by simp only[Hg,bg]at h;obtain⟨o,ho⟩:=Option.isSome_iff_exists.1 h.1;exact⟨by rw[Dv hA ho];rfl,Ud hA h.2⟩
 |(.l j,_)::L,h=>by simp only[Hg,bg]at h;exact⟨by rw[KR];simpa using h.1,Ud hA h.2⟩
def JE (s:S) (d:Nat):List (Nat × Option Nat)->Bool
 | []=>true|(m,_)::l=> !s.known (rk d m)&&JE s d l
theorem dX {s:S} {A':Key->Option O} {d:Nat}:∀{L:List (Nat × Option Nat)},JE s d L=true->tOk (s.wA A') d L
 | [],_=>trivial|(m,_)::L,h=>by simp only[JE,bg,jg]at h;exact⟨h.1,dX h.2⟩
def Fl (s:S):List (Key × O)->Bool
 | []=>true|(.l n,_)::l=>(s.obj (.l n)).isNone&&Fl s l|(.g _,_)::_=>false
theorem RX {s:S} {A':Key->Option O}:∀{L:List (Key × O)},Fl s L=true->GC (s.wA A') L
 | [],_=>trivial|(.l n,_)::L,h=>by simp only[Fl,bg]at h;exact⟨by rw[KR];simpa using h.1,RX h.2⟩
 |(.g _,_)::_,h=>by simp[Fl]at h
def LJ (s:S):List (Nat × Option Nat)->Bool
 | []=>true|(t,_)::l=> !s.known t&&LJ s l
theorem RY {s:S} {A':Key->Option O}:∀{L:List (Nat × Option Nat)},LJ s L=true->GD (s.wA A') L
 | [],_=>trivial|(t,_)::L,h=>by simp only[LJ,bg,jg]at h;exact⟨h.1,RY h.2⟩
abbrev Ko:=FuncId->List V->(Key->Option O)->Option (V × List (Key × O))
abbrev Kp:=FuncId->List V->Option V
def Ns (X:Cx) (call:Ko):Prop:=∀f xs A v L,call f xs A=some (v,L)->Cc X f xs A v L
def Nv (X:Cx) (ext:Kp):Prop:=∀f xs v,ext f xs=some v->Nu X f xs v
section
def q9y (ext:Kp) (o:Oper) (ρ:Operand->V):Option V:=
 match o.op with
 | .call c=>(match c.callee with| .value fo=>(match ρ fo with| .fn f []=>ext f (c.args.toList.map ρ)|_=>none)|_=>none)|_=>none
def q9x (X:Cx) (call:Ko) (o:Oper) (ρ:Operand->V) (s:S):Option (V × List (Key × O)):=
 match o.op with
 | .call c=>(match c.callee with
  | .value fo=>(match ρ fo with
   | .fn f yh=>if JP X.P f=true/\c.argTypes.toList.length=c.args.toList.length then
      call f (DN X.P false s (Jt c.argTypes.toList yh) (Ev (c.args.toList.map ρ) yh)) s.up else none
   |_=>none)
  |_=>none)
 |_=>none
def Ff (o:Oper) (ρ:Operand->V):List V:=
 match o.op with
 | .call c=>(match c.callee with| .value fo=>(match ρ fo with| .fn _ yh=>Ev (c.args.toList.map ρ) yh|_=>[])|_=>[])|_=>[]
def Tb:List Oper->List Nat
 | []=>[]|o::l=>(match o.op with| .call c=>(match c.callee,c.args.toList with| .builtin .append,(.tmp t)::_=>[t]|_,_=>[])|_=>[])++Tb l
def Rq:Nat->List Nat->Bool
 |_,[]=>false|i,j::l=>dc i j||Rq i l
def DJ (yi:List Nat) (tbl:List (Nat × Nat)) (o:Oper) (ρ:Operand->V) (s:S):Nat:=
 match look tbl (Ae o)with
 |some m=>m
 |none=>(match o.op with| .load _ x=>if Rq (Ae o) yi=true then(match ρ x with| .ptr k q _=>(match s.obj k with|some (.box y)=>(match y.at q with| .ts _ _ _=>1|_=>0)|_=>0)|_=>0)else 0|_=>0)
def Yz (o:Oper):Bool:=
 match o.op with
 | .call c=>(match c.callee with| .value _=>true|_=>false)|_=>false
section
variable {X:Cx} {call:Ko} {ext:Kp} (hc:Ns X call) (he:Nv X ext)
include hc he
end
theorem Yt (ops:Array Oper) (s:S) (A':Key->Option O) (j:Nat):gv ops (s.wA A') j=gv ops s j:=by unfold gv;split <;> rfl
theorem JC (s:S) (A':Key->Option O) (d:Option Nat) (v:V):(s.wA A').set d v=(s.set d v).wA A':=by cases d <;> rfl
theorem Dc (s:S) (d:Option Nat) (v:V):(s.set d v).A=s.A:=by cases d <;> rfl
section
variable {X:Cx} {call:Ko} {ext:Kp} (hc:Ns X call) (he:Nv X ext)
include hc he
end
end
section
def Lh {α β:Type} (l:List α) (l':List β):Bool:=l.isEmpty&&l'.isEmpty
inductive RD where
 |k0 (v:V)|k1 (v:V) (lo:List (Key × O)) (tn:List (Nat × Option Nat))|k2 (v:V) (s:S)
def RD.kind:RD->Nat
 | .k0 _=>0| .k1 _ _ _=>1| .k2 _ _=>2
def RD.post (s:S) (A':Key->Option O) (K0:V->Prop) (K1:V->List (Key × O)->List (Nat × Option Nat)->Prop) (K2:V->S->Prop):RD->Prop
 | .k0 v=>K0 v| .k1 v lo tn=>GC (s.wA A') lo->GD (s.wA A') tn->Fl s lo=true->K1 v lo tn| .k2 v s1=>K2 v (s1.wA A')
theorem IP (s:S) (d:Option Nat) (v:V) (k:Key):(s.set d v).obj k=s.obj k:=by cases d <;> rfl
theorem aI {s:S} {lo:List (Key × O)} {tn:List (Nat × Option Nat)} (h:Fl s lo=true) {k:Key} {o:O} (hk:s.obj k=some o):(s.add lo tn).obj k=some o:=by
 have key:∀{lo:List (Key × O)},Fl s lo=true->AY lo k=none:=by
  intro lo
  induction lo with
  |nil=>intro _;rfl|cons x lo ih=>
   obtain⟨j,y⟩:=x;cases j with
   |g j=>intro h;simp[Fl]at h|l n=>
    intro h;simp only[Fl,bg]at h;simp only[AY];rw[if_neg,ih h.2];intro e;rw[e,hk]at h;simp at h
 have e:=key h;simp only[jv,Cs,S.add]at hk ⊢;rw[LV,e];exact hk
section
variable {X:Cx} {call:Ko} {ext:Kp} (hc:Ns X call) (he:Nv X ext)
include hc he
end
end
section
mutual
theorem V.Mt:∀(x:V),V.BW x x
 | .d _ _=>by simp[V.BW,Cm,V.ty]
 | .emp _ _=>.inl rfl| .agg _ vs=>⟨rfl,V.nL vs⟩| .any=>trivial| .sl _ _ _ _| .ts _ _ _| .yf| .ptr _ _ _| .yg _ _| .sr _ _ _ _ _ _ _| .mp _| .fn _ _| .tup _| .top _=>by simp[V.BW]
theorem V.nL:∀(xs:List V),V.GV xs xs
 | []=>trivial|x::xs=>⟨V.Mt x,rfl,V.nL xs⟩
end
def O.ZB:O->Bool
 | .box y=>y.plain&&y.BT| .map _ _ _=>true| .it _ _| .dead _=>true
theorem O.Mt {o:O} (h:o.ZB=true):O.BW o o:=by
 cases o with
 |box y=>
  simp only[O.ZB,bg]at h;exact⟨V.Mt y,rfl,h.1,h.2⟩
 |map=>exact⟨rfl,rfl,rfl⟩|it=>exact⟨rfl,rfl⟩|dead=>exact(rfl:_=_)
mutual
def V.keys:V->List Nat
 | .ptr (.l k) _ _| .mp (.l k)| .sr (.l k) _ _ _ _ _ _=>[k]| .agg _ vs| .fn _ vs| .tup vs=>V.KK vs|_=>[]
def V.KK:List V->List Nat
 | []=>[]|x::xs=>x.keys++V.KK xs
end
mutual
def V.xV:V->List Nat
 | .sl _ _ _ t=>[t]| .agg _ vs| .fn _ vs| .tup vs=>V.xW vs|_=>[]
def V.xW:List V->List Nat
 | []=>[]|x::xs=>x.xV++V.xW xs
end
def O.keys:O->List Nat
 | .box x=>x.keys| .map _ _ _=>[]| .it _ _| .dead _=>[]
def reach (loc:List (Key × O)):Nat->List Nat->List Nat->List Nat
 |0,_,acc=>acc|_,[],acc=>acc|f+1,k::ks,acc=>if Rq k acc=true then reach loc f ks acc else match AY loc (.l k)with|some o=>reach loc f (o.keys++ks) (k::acc)|none=>reach loc f ks acc
def JY:List (Key × O)->List Nat
 | []=>[]|(.g _,o)::l=>o.keys++JY l|(.l _,_)::l=>JY l
def Gx (loc:List (Key × O)) (ks:List Nat):List (Key × O)
 ->List (Key × O)
 | []=>[]|(.g k,_)::l=>(match AY loc (.g k)with|some o=>[(.g k,o)] |none=>[])++Gx loc ks l|(.l k,_)::l=>(if Rq k ks=true then(match AY loc (.l k)with|some o=>[(.l k,o)] |none=>[])else[])++Gx loc ks l
def Kv:List (Key × O)->Bool
 | []=>true|(_,o)::l=>o.ZB&&Kv l
def Ik (L:List (Key × O)):List (Key × O)->Bool
 | []=>true|(.g k,_)::l=>(AY L (.g k)).isSome&&Ik L l|(.l _,_)::l=>Ik L l
theorem Nz {L:List (Key × O)} {A:Key->Option O}:∀{l:List (Key × O)},Ik L l=true->Ij L A l
 | [],_=>trivial|(.g k,_)::l,h=>by simp only[Ik,bg]at h;exact⟨.inl h.1,Nz h.2⟩
 |(.l _,_)::l,h=>Nz (l:=l) h
theorem VZ {s:S} {k:Key} {o:O} (h:AY s.loc k=some o):s.obj k=some o:=by simp only[jv,Cs,h]
theorem LU {s:S} (ks:List Nat):∀{l:List (Key × O)},Kv (Gx s.loc ks l)=true->GY s (Gx s.loc ks l)
 | [],_=>trivial|(.g k,_)::l,h=>by
  simp only[Gx]at h ⊢;cases hl:AY s.loc (.g k)with
  |none=>rw[hl]at h;exact LU ks h|some o=>
   rw[hl]at h;simp only[mq,ju,Kv,bg]at h ⊢;refine⟨?_,LU ks h.2⟩;rw[VZ hl];exact O.Mt h.1
 |(.l k,_)::l,h=>by
  simp only[Gx]at h ⊢;by_cases hk:Rq k ks=true
  ·rw[if_pos hk]at h ⊢;cases hl:AY s.loc (.l k)with
   |none=>rw[hl]at h;exact LU ks h|some o=>
    rw[hl]at h;simp only[mq,ju,Kv,bg]at h ⊢;refine⟨?_,LU ks h.2⟩;rw[VZ hl];exact O.Mt h.1
  ·rw[if_neg hk]at h ⊢;exact LU ks h
def Fh (s:S):List Nat->List (Nat × V)
 | []=>[]|i::l=>(i,s.get i)::Fh s l
def JM (f g:Nat->Bool):List (Nat × V)->Bool
 | []=>true|(_,x)::l=>x.ok f g&&JM f g l
theorem YO {s:S} {f g:Nat->Bool}:∀{l:List Nat},JM f g (Fh s l)=true->IC f g s (Fh s l)
 | [],_=>trivial|i::l,h=>by simp only[Fh,JM,bg]at h;exact⟨V.Mt _,h.1,.inr rfl,YO h.2⟩
def ED (s:S):List Nat->List (Nat × Option Nat)
 | []=>[]|t::l=>(match look s.tk t with|some x=>[(t,x)] |none=>[])++ED s l
theorem Wn {s:S}:∀{l:List Nat},tkW s (ED s l)
 | []=>trivial|t::l=>by
  simp only[ED];cases hl:look s.tk t with
  |none=>exact Wn|some x=>
   refine⟨?_,Wn⟩;cases x with
   |none=>simp[S.known,hl]|some L=>simp[S.live,EZ,hl]
def kW:List (Nat × V)->List Nat
 | []=>[]|(_,x)::l=>x.keys++kW l
def YM:List (Nat × V)->List Nat
 | []=>[]|(_,x)::l=>x.xV++YM l
def gcS (Cn:List Nat) (s:S):S:=
 ⟨Fh s Cn,Gx s.loc (reach s.loc 100000 (kW (Fh s Cn)++JY s.loc) []) s.loc,s.A,ED s (YM (Fh s Cn))⟩
def gcB (Cn:List Nat) (s:S):Bool:=
 Kv (gcS Cn s).loc&&Fu (Cd (gcS Cn s).loc) (DQ (gcS Cn s).tk) (gcS Cn s).loc&&Ik (gcS Cn s).loc s.loc&&JM (Cd (gcS Cn s).loc) (DQ (gcS Cn s).tk) (Fh s Cn)
theorem q1n {X:Cx} {n:Nat} {Cn:List Nat} {s:S} (A':Key->Option O) (h:gcB Cn s=true):EE X n (s.wA A') ((gcS Cn s).wA A'):=by
 simp only[gcB,bg]at h;obtain⟨⟨⟨h1,h2⟩,h3⟩,h4⟩:=h;refine yV rfl ?_ h2 (Nz h3) ?_ ?_;{exact LU (s:=s.wA A') _ h1}
 ·have:∀l,ED (s.wA A') l=ED s l:=by
   intro l
   induction l with
   |nil=>rfl|cons i l ih=>simp only[ED,ih];rfl
  show tkW (s.wA A') (ED s (YM (Fh s Cn)));rw[<-this];exact Wn
 ·have:Fh (s.wA A') Cn=Fh s Cn:=by
   generalize Cn=l
   induction l with
   |nil=>rfl|cons i l ih=>simp only[Fh,ih];rfl
  show IC _ _ (s.wA A') (Fh s Cn);rw[<-this]at h4 ⊢;exact YO h4
def PY (ml:List (Nat × Nat)):List (Nat × Nat)->Bool
 | []=>true|(d,m)::l=>dc (Ck ml d) m&&PY ml l
theorem VR {ml:List (Nat × Nat)}:∀{l:List (Nat × Nat)},PY ml l=true->∀p∈l,Ck ml p.1=p.2
 |(d,m)::l,h,p,hp=>by simp only[PY,bg]at h;rcases List.mem_cons.1 hp with rfl|hp;{exact eh h.1};{exact VR h.2 p hp}
def slotsOf:List (Nat × V)->List Nat
 | []=>[]|(i,_)::l=>i::slotsOf l
section
variable {X:Cx} {call:Ko} {ext:Kp} (hP:BN X.P=true) (hmo:X.P.follows .mixedOrders=true) (hc:Ns X call) (he:Nv X ext)
include hP hmo hc he
end
end
section
section
variable {X:Cx} {call:Ko} {ext:Kp} (hP:BN X.P=true) (hmo:X.P.follows .mixedOrders=true) (hc:Ns X call) (he:Nv X ext)
include hP hmo hc he
end
mutual
def V.GH:V->V
 | .sl eb e cs _=>.d (.slice eb e) (.slice cs)| .agg τ vs=>.agg τ (V.aV vs)|x=>x
def V.aV:List V->List V
 | []=>[]|x::xs=>x.GH::V.aV xs
end
theorem V.sQ (x:V):x.GH.ty=x.ty:=by cases x <;> rfl
mutual
theorem V.sP:∀(x:V),V.BW x x.GH
 | .sl _ _ cs _=>by simp[V.GH,V.BW,Cm,V.ty]
 | .agg τ vs=>⟨rfl,V.sR vs⟩| .d _ _=>by simp[V.GH,V.BW,Cm,V.ty]
 | .emp _ _=>.inl rfl| .any=>trivial| .ts _ _ _| .yf| .ptr _ _ _| .yg _ _| .sr _ _ _ _ _ _ _| .mp _| .fn _ _| .tup _| .top _=>by simp[V.GH,V.BW]
theorem V.sR:∀(xs:List V),V.GV xs (V.aV xs)
 | []=>trivial|x::xs=>⟨V.sP x,V.sQ x,V.sR xs⟩
end
def NR (s:S) (x:V):V:=
 match x with
 | .sl eb e cs t=>if s.live t=some cs.length then .ts eb e cs else .d (.slice eb e) (.slice cs)|x=>x.GH
def Iy (s:S):List V->List V
 | []=>[]|x::xs=>NR s x::Iy s xs
def Ga (f:Nat->Bool):List V->Bool
 | []=>true|v::vs=>(match v with| .ts _ _ _=>true|v=>v.ok f CP&&v.plain)&&Ga f vs
def Rw:List V->Bool
 | []=>true|v::vs=>v.Li&&Rw vs
theorem q4S {s:S} {f:Nat->Bool} {x:V} (hx:x.Li=true) (h:(match NR s x with| .ts _ _ _=>true|v=>v.ok f CP&&v.plain)=true):HV s f x (NR s x):=by
 have gen:∀{x:V},x.GH.Li=true->(x.GH.ok f CP&&x.GH.plain)=true->HV s f x x.GH:=by
  intro x hn h;have:V.BW x x.GH/\x.GH.ok f CP=true/\x.GH.plain=true/\x.GH.ty.isAgg=x.ty.isAgg:=by simp only[bg]at h;exact⟨V.sP x,h.1,h.2,by rw[V.sQ]⟩
  unfold HV;split;{rename_i e1;rw[e1]at hn;cases hn};{exact this}
 cases x with
 |sl eb e cs t=>
  simp only[NR]at h ⊢;by_cases hl:s.live t=some cs.length;{rw[if_pos hl];exact⟨rfl,rfl,rfl,hl⟩};{rw[if_neg hl]at h ⊢;exact gen (x:=.sl eb e cs t) rfl h}
 |ts=>cases hx
 |agg τ vs=>exact gen (x:=.agg τ vs) rfl h|d|emp|any|yf|ptr|yg|sr|mp|fn|tup|top=>exact gen rfl h
theorem sN {s:S} {f:Nat->Bool}:∀{xs:List V},Rw xs=true->Ga f (Iy s xs)=true->IW s f xs (Iy s xs)
 | [],_,_=>trivial|x::xs,h1,h2=>by simp only[Rw,bg]at h1;simp only[Iy,Ga,bg]at h2;exact⟨q4S h1.1 h2.1,sN h1.2 h2.2⟩
def cT (X:Cx) (s:S) (r:ResultVar):Bool:=
 match r with
 | .tmp _=>true| .cell a t=>(match s.get a with| .ptr k q τ=>(match s.obj k with|some (.box y)=>decide (τ=ty X.P t)&&τ.known&& !(y.at q).isAny|_=>false)|_=>false)
def Su (X:Cx) (s:S):List ResultVar->Bool
 | []=>true|r::rs=>cT X s r&&Su X s rs
theorem q6L {X:Cx} {s:S} {A':Key->Option O} (hA:leA s.A A') {r:ResultVar} (h:cT X s r=true):QG X (s.wA A') r/\Na X (s.wA A') r=Na X s r:=by
 cases r with
 |tmp t=>exact⟨trivial,rfl⟩|cell a t=>
  have hg:(s.wA A').get a=s.get a:=rfl;simp only[cT]at h;simp only[QG,Na,hg];split at h;{rename_i e0;split at h;{rename_i e1;simp only[bg,decide_eq_true_eq,jg]at h;simp only[e0,Dv hA e1,e1];exact⟨⟨h.1.1,h.1.2,V.PH h.2⟩,by first|rfl|trivial⟩};{cases h}};{cases h}
theorem vH {X:Cx} {s:S} {A':Key->Option O} (hA:leA s.A A'):∀{rs:List ResultVar},Su X s rs=true->QI X (s.wA A') rs/\Fa X (s.wA A') rs=Fa X s rs
 | [],_=>⟨trivial,rfl⟩|r::rs,h=>by simp only[Su,bg]at h;obtain⟨h1,h2⟩:=q6L hA h.1;obtain⟨h3,h4⟩:=vH hA h.2;exact⟨⟨h1,h3⟩,by simp only[Fa,h2,h4]⟩
def aX:List V->V
 | [x]=>x|xs=>.tup xs
theorem q6P {xs:List V} {vs:List V} (h:xs.length=vs.length):Kd xs (aX vs)=some vs:=by
 match xs,vs,h with
 | [],[],_=>rfl| [_],[_],_=>rfl|_::_::_,_::_::_,_=>rfl
theorem sM (s:S):∀(xs:List V),(Iy s xs).length=xs.length
 | []=>rfl|x::xs=>by simp[Iy,sM s xs]
def YR (X:Cx) (fn:Func) (s:S):Option (V × List (Key × O)):=
 let rs:=Fa X s fn.results.toList
 let vs:=Iy s rs
 let L:=Gx s.loc (reach s.loc 100000 (V.KK vs++JY s.loc) []) s.loc
 if Su X s fn.results.toList=true/\Rw rs=true/\Ga (Cd L) vs=true/\Gz (JD (GM 2000 rs vs))=true/\Kv L=true/\Fu (Cd L) CP L=true/\Ik L s.loc=true then some (aX vs,L)else none
theorem q00 {X:Cx} {fn:Func} {s:S} {v:V} {L:List (Key × O)} {A':Key->Option O} (hA:leA s.A A') (h:YR X fn s=some (v,L)):Eu X fn A' v L (s.wA A'):=by
 simp only[YR,ba,ee,fx]at h;obtain⟨⟨h1,h2,h3,h4,h5,h6,h7⟩,rfl,rfl⟩:=h;obtain⟨c1,c2⟩:=vH hA h1;have hL:∀(x:S) (xs vs:List V) f,IW x f xs vs->IW (x.wA A') f xs vs:=by
  intro x xs
  induction xs with
  |nil=>intro vs f h;cases vs <;> exact h
  |cons y ys ih=>
   intro vs f h;cases vs with
   |nil=>exact h|cons v vs=>exact⟨h.1,ih vs f h.2⟩
 refine⟨rfl,LU (s:=s.wA A') _ h5,h6,Nz h7,c1,?_⟩;rw[c2,q6P (sM s _).symm];exact⟨hL _ _ _ _ (sN h2 h3),h4⟩
section
variable {X:Cx} {ov:Ko} {ext:Kp} (hP:BN X.P=true) (hmo:X.P.follows .mixedOrders=true) (hov:Ns X ov) (he:Nv X ext)
include hP hmo hov he
end
def A0:Key->Option O:=fun _=>none
theorem Cc.any {X:Cx} {f:FuncId} {xs:List V} {v:V} {L:List (Key × O)} (h:Cc X f xs A0 v L) (A:Key->Option O):Cc X f xs A v L:=h.mono fun _ _ h=>by cases h
end
def Og {R:Type} (op:BinOp) (k:IntKind) (a b:Int) (K:V->Option R):Option R:=
 match op with
 | .add=>K (.d (.int k) (.int (k.wrap (a+b))))| .sub=>K (.d (.int k) (.int (k.wrap (a-b))))| .mul=>K (.d (.int k) (.int (k.wrap (a*b))))| .quo=>if b≠0 then K (.d (.int k) (.int (k.wrap (a.tdiv b))))else none| .rem=>if b≠0 then K (.d (.int k) (.int (a.tmod b)))else none| .and| .or| .xor| .andNot=>K (.d (.int k) (.int (BR op k a b)))| .eql=>K (.d .bool (.bool (decide (a=b))))| .neq=>K (.d .bool (.bool (!decide (a=b))))| .lss=>K (.d .bool (.bool (decide (a<b))))| .leq=>K (.d .bool (.bool (decide (a<=b))))| .gtr=>K (.d .bool (.bool (decide (b<a))))| .geq=>K (.d .bool (.bool (decide (b<=a))))|_=>none
theorem q0y {R:Type} {r:R} {Kr:V->Option R} {op:BinOp} {k:IntKind} {a b:Int} {K:V->Prop} (h:Og op k a b Kr=some r) (hK:∀v,Kr v=some r->K v):KJ op k a b K:=by
 cases op <;> simp only[Og,KJ,ee,ba,reduceCtorEq]at h ⊢ <;>
  first|exact hK _ h|(obtain⟨h1,h⟩:=h;exact⟨h1,hK _ h⟩)
def Oj {R:Type} (op:BinOp) (k:IntKind) (a b:Int) (K:V->Option R):Option R:=
 match op with
 | .shl=>if 0<=b then K (.d (.int k) (.int (k.wrap (a*2^(min b.toNat k.bits)))))else none| .shr=>if 0<=b then K (.d (.int k) (.int (a.fdiv (2^(min b.toNat k.bits)))))else none|_=>none
theorem q0H {R:Type} {r:R} {Kr:V->Option R} {op:BinOp} {k:IntKind} {a b:Int} {K:V->Prop} (h:Oj op k a b Kr=some r) (hK:∀v,Kr v=some r->K v):Nd op k a b K:=by
 cases op <;> simp only[Oj,Nd,ee,ba,reduceCtorEq]at h ⊢ <;>
  (obtain⟨h1,h⟩:=h;exact⟨h1,hK _ h⟩)
def Oo {R:Type} (op:BinOp) (a b:List UInt8) (K:V->Option R):Option R:=
 match op with
 | .add=>if a.length+b.length<=140737488355328 then K (.d .str (.str (a++b)))else none| .eql=>K (.d .bool (.bool (a==b)))| .neq=>K (.d .bool (.bool (!(a==b))))| .lss=>K (.d .bool (.bool (mc a b)))| .leq=>K (.d .bool (.bool (mc a b||a==b)))| .gtr=>K (.d .bool (.bool (!(mc a b||a==b))))| .geq=>K (.d .bool (.bool (!mc a b)))|_=>none
theorem q0O {R:Type} {r:R} {Kr:V->Option R} {op:BinOp} {a b:List UInt8} {K:V->Prop} (h:Oo op a b Kr=some r) (hK:∀v,Kr v=some r->K v):Lz op a b K:=by
 cases op <;> simp only[Oo,Lz,ee,ba,reduceCtorEq]at h ⊢ <;>
  first|exact hK _ h|(obtain⟨h1,h⟩:=h;exact⟨h1,hK _ h⟩)
def Mg {R:Type} (op:BinOp) (b:Bool) (K:V->Option R):Option R:=
 match op with
 | .eql=>K (.d .bool (.bool b))| .neq=>K (.d .bool (.bool (!b)))|_=>none
theorem kD {R:Type} {r:R} {Kr:V->Option R} {op:BinOp} {b:Bool} {K:V->Prop} (h:Mg op b Kr=some r) (hK:∀v,Kr v=some r->K v):JL op b K:=by cases op <;> simp only[Mg,JL,reduceCtorEq]at h ⊢ <;> exact hK _ h
def Qz {R:Type} (op:BinOp) (x y:Bool) (K:V->Option R):Option R:=
 match op with
 | .eql=>K (.d .bool (.bool (x==y)))| .neq=>K (.d .bool (.bool (!(x==y))))|_=>none
def RG {R:Type} (op:BinOp) (x y:Option Bool) (K:V->Option R):Option R:=
 match op,x,y with
 | .eql,some a,some true=>K (.d .bool (.bool a))| .neq,some a,some true=>K (.d .bool (.bool (!a)))| .eql,some true,some b=>K (.d .bool (.bool b))| .neq,some true,some b=>K (.d .bool (.bool (!b)))|_,_,_=>none
def RJ {R:Type} (op:BinOp) (x:Option (Option Bool)) (y:V) (K:V->Option R):Option R:=
 match op,x,y with
 | .eql,some r,.yf=>K (Iw r)| .neq,some r,.yf=>K (Iw (r.map (!·)))|_,_,_=>none
def OZ {R:Type} (P:Program) (op:BinOp) (T:TypeId) (x y:V) (K:V->Option R):Option R:=
 match ty P T with
 | .int k=>if x.isInt k then(if BinOp.LP op then(if y.Fq then Oj op k x.toInt y.toInt K else none)else(if y.isInt k then Og op k x.toInt y.toInt K else none))else none| .bool=>if x.isBool/\y.isBool then Qz op x.toBool y.toBool K else none| .str=>if x.isStr/\y.isStr then Oo op x.toStr y.toStr K else none| .ptr=>RG op x.Ht y.Ht K| .arr n e=>if Cq P T=true/\x.Dk (.arr n e)/\y.Dk (.arr n e)then Mg op (C.beq x.toC y.toC) K else none| .struct sz os fs=>if Cq P T=true/\x.Dk (.struct sz os fs)/\y.Dk (.struct sz os fs)then Mg op (C.beq x.toC y.toC) K else none| .slice _ _=>RJ op x.Rv y K|_=>none
theorem q0l {R:Type} {r:R} {Kr:V->Option R} {P:Program} {op:BinOp} {T:TypeId} {x y:V} {K:V->Prop} (h:OZ P op T x y Kr=some r) (hK:∀v,Kr v=some r->K v):Pm P op T x y K:=by unfold OZ at h;unfold Pm;generalize ty P T=τ at h ⊢;split at h;{simp only[ba]at h;obtain⟨h1,h2⟩:=h;refine⟨h1,?_⟩;split at h2;{rename_i hs;rw[if_pos hs];simp only[ba]at h2;exact⟨h2.1,q0H h2.2 hK⟩};{rename_i hs;rw[if_neg hs];simp only[ba]at h2;exact⟨h2.1,q0y h2.2 hK⟩}};{simp only[ba]at h;obtain⟨⟨h1,h2⟩,h3⟩:=h;refine⟨h1,h2,?_⟩;cases op <;> simp only[Qz,reduceCtorEq]at h3 ⊢ <;> exact hK _ h3};{simp only[ba]at h;exact⟨h.1.1,h.1.2,q0O h.2 hK⟩};{simp only[RG]at h;split at h <;> (try (cases h)) <;> simp_all};{simp only[ba]at h;exact⟨h.1.1,h.1.2.1,h.1.2.2,by rw[C.UO];exact kD h.2 hK⟩};{simp only[ba]at h;exact⟨h.1.1,h.1.2.1,h.1.2.2,by rw[C.UO];exact kD h.2 hK⟩};{simp only[RJ]at h;split at h <;> (try (cases h)) <;> simp_all};{cases h}
def Ol {R:Type} (P:Program) (T:TypeId) (x:V) (lo hi mx:Option V) (K:V->Option R):Option R:=
 match ty P T with
 | .str=>(match Cv lo 0,Cv hi x.toStr.length with|some l,some h=>if x.isStr/\mx.isNone then(if 0<=l/\l<=h/\h<=x.toStr.length then K (.d .str (.str ((x.toStr.take h.toNat).drop l.toNat)))else none)else none|_,_=>none)
 | .slice eb e=>(match x with
   | .sr k q lo0 n cp eb' e'=>if eb'=eb/\e'=e then(match Cv lo 0,Cv hi n,mx with|some l,some h,none=>if 0<=l/\l<=h/\h<=n then K (.sr k q (lo0+l.toNat) (h-l).toNat (cp.map (· -l.toNat)) eb e)else none|some l,some h,some m=>if hi.isSome=true then(match Cv (some m) 0 with|some m=>if 0<=l/\l=h/\h=m/\m<=n then K (.emp eb e)else none|none=>none)else none|_,_,_=>none)else none
   |x=>(match x.Fe with|some (eb',e',cs)=>if eb'=eb/\e'=e then(match Cv lo 0,Cv hi cs.length,mx with|some l,some h,none=>if 0<=l/\l<=h/\h<=cs.length then K (.d (.slice eb e) (.slice (cut cs l h)))else none|some l,some h,some m=>if hi.isSome=true then(match Cv (some m) 0 with|some m=>if 0<=l/\l=h/\h=m/\m<=cs.length then K (.emp eb e)else none|none=>none)else none|_,_,_=>none)else none|none=>none))
 |_=>(match Vm P T with|some (n,eb,e)=>if n*eb<=140737488355328/\n<=maxLen/\mx.isNone then(match Cv lo 0,Cv hi n with|some l,some h=>if 0<=l/\l<=h/\h<=n then(match x with| .ptr k q τ=>if τ= .arr n e then K (.sr k q l.toNat (h-l).toNat (some (n-l.toNat)) eb e)else none| .yg τ c=>if τ= .arr n e then K (.d (.slice eb e) (.slice (cut c.elems l h)))else none|_=>none)else none|_,_=>none)else none|none=>none)
theorem q0L {R:Type} {r:R} {Kr:V->Option R} {P:Program} {T:TypeId} {x:V} {lo hi mx:Option V} {K:V->Prop} (h:Ol P T x lo hi mx Kr=some r) (hK:∀v,Kr v=some r->K v):Pq P T x lo hi mx K:=by
 unfold Ol at h;unfold Pq;generalize ty P T=τ at h ⊢;split at h;{split at h;{rename_i l hh e1 e2;simp only[ba]at h;obtain⟨⟨h1,h2⟩,h3,h⟩:=h;refine⟨h1,by simpa using h2,?_⟩;rw[e1,e2];exact⟨h3.1,h3.2.1,h3.2.2,hK _ h⟩};{cases h}}
 ·split at h;{simp only[ba]at h;obtain⟨⟨h1,h2⟩,h⟩:=h;refine⟨h1,h2,?_⟩;split at h;{rename_i e1 e2;simp only[ba]at h;obtain⟨h3,h⟩:=h;rw[e1,e2];exact⟨h3.1,h3.2.1,h3.2.2,hK _ h⟩};{rename_i e1 e2;simp only[ba]at h;obtain⟨h3,h⟩:=h;rw[e1,e2];refine⟨h3,?_⟩;split at h;{rename_i e3;simp only[ba]at h;obtain⟨h4,h⟩:=h;rw[e3];exact⟨h4.1,h4.2.1,h4.2.2.1,h4.2.2.2,hK _ h⟩};{cases h}};{cases h}}
  ·rename_i x' hx'
   cases x <;> (try exact(hx' _ _ _ _ _ _ _ rfl).elim) <;> (
    split at h;{rename_i e0;simp only[e0];simp only[ba]at h;obtain⟨⟨h1,h2⟩,h⟩:=h;refine⟨h1,h2,?_⟩;split at h;{rename_i e1 e2;simp only[ba]at h;obtain⟨h3,h⟩:=h;rw[e1,e2];exact⟨h3.1,h3.2.1,h3.2.2,hK _ h⟩};{rename_i e1 e2;simp only[ba]at h;obtain⟨h3,h⟩:=h;rw[e1,e2];refine⟨h3,?_⟩;split at h;{rename_i e3;simp only[ba]at h;obtain⟨h4,h⟩:=h;rw[e3];exact⟨h4.1,h4.2.1,h4.2.2.1,h4.2.2.2,hK _ h⟩};{cases h}};{cases h}}
    ·cases h)
 ·rename_i hn1 hn2;split at h
  ·rename_i e0;split <;> first|exact(hn1 rfl).elim|exact(hn2 _ _ rfl).elim|skip
   rw[e0];simp only[ba]at h;obtain⟨⟨h1,h2,h3⟩,h⟩:=h;refine⟨h1,h2,by simpa using h3,?_⟩;split at h;{rename_i e1 e2;rw[e1,e2];simp only[ba]at h;obtain⟨h4,h⟩:=h;refine⟨h4.1,h4.2.1,h4.2.2,?_⟩;split at h;{simp only[ba]at h;obtain⟨h5,h⟩:=h;exact⟨h5,hK _ h⟩};{simp only[ba]at h;obtain⟨h5,h⟩:=h;exact⟨h5,hK _ h⟩};{cases h}};{cases h}
  ·cases h
def Oh {R:Type} (P:Program) (T:TypeId) (x:V) (K:V->Option R):Option R:=
 match ty P T,x with
 | .str,.d τ c=>if τ= .str then K (.d (.int .i64) (.int c.toStr.length))else none| .slice _ _,.yf=>K (.d (.int .i64) (.int 0))| .slice _ _,.sr _ _ _ n _ _ _=>K (.d (.int .i64) (.int n))| .slice eb e,x=>(match x.Fe with|some (eb',e',cs)=>if eb'=eb/\e'=e then K (.d (.int .i64) (.int cs.length))else none|none=>none)| .arr n _,_=>if(n:Int)<=9223372036854775807 then K (.d (.int .i64) (.int n))else none|_,_=>none
theorem q0B {R:Type} {r:R} {Kr:V->Option R} {P:Program} {T:TypeId} {x:V} {K:V->Prop} (h:Oh P T x Kr=some r) (hK:∀v,Kr v=some r->K v):Pp P T x K:=by
 unfold Oh at h;unfold Pp;generalize ty P T=τ at h ⊢
 cases τ <;> (try (cases h;done)) <;> cases x <;> (try (cases h;done)) <;> simp only[ba]at h ⊢ <;>
  first
  |exact hK _ h|(obtain⟨h1,h⟩:=h;exact⟨h1,hK _ h⟩)
  |(split at h
    ·rename_i e0;simp only[ba]at h;obtain⟨h1,h⟩:=h;rw[e0];exact⟨h1.1,h1.2,hK _ h⟩
    ·cases h)
def Oe {R:Type} (P:Program) (T:TypeId) (x i:V) (K:V->Option R):Option R:=
 if i.Fq then
 match ty P T,x with
 | .slice eb e,.sr k q lo n _ eb' e'=>if eb'=eb/\e'=e then(if 0<=i.toInt/\i.toInt<n then K (.ptr k (q++[lo+i.toInt.toNat]) e)else none)else none| .slice eb e,x=>(match x.Fe with|some (eb',e',cs)=>if eb'=eb/\e'=e then(if 0<=i.toInt/\i.toInt<cs.length then K (.yg e (cs.getD i.toInt.toNat .nil))else none)else none|none=>none)| .arr n e,.ptr k q τ=>if τ= .arr n e then(if 0<=i.toInt/\i.toInt<n then K (.ptr k (q++[i.toInt.toNat]) e)else none)else none| .arr n e,.yg τ c=>if τ= .arr n e then(if 0<=i.toInt/\i.toInt<n then K (.yg e (c.get i.toInt.toNat))else none)else none|_,_=>none
 else none
theorem q0w {R:Type} {r:R} {Kr:V->Option R} {P:Program} {T:TypeId} {x i:V} {K:V->Prop} (h:Oe P T x i Kr=some r) (hK:∀v,Kr v=some r->K v):Po P T x i K:=by
 unfold Oe at h;unfold Po;simp only[ba]at h;obtain⟨h0,h⟩:=h;refine⟨h0,?_⟩;generalize ty P T=τ at h ⊢
 cases τ <;> (try (cases h;done)) <;> cases x <;> (try (cases h;done)) <;> simp only[ba]at h ⊢ <;>
  first
  |(obtain⟨h1,h2,h⟩:=h;exact⟨h1.1,h1.2,h2.1,h2.2,hK _ h⟩)|(obtain⟨h1,h2,h⟩:=h;exact⟨h1,h2.1,h2.2,hK _ h⟩)
  |(split at h
    ·rename_i e0;simp only[ba]at h;obtain⟨h1,h2,h⟩:=h;rw[e0];exact⟨h1.1,h1.2,h2.1,h2.2,hK _ h⟩
    ·cases h)
def Oc {R:Type} (P:Program) (T:TypeId) (x:V) (i:Nat) (K:V->Option R):Option R:=
 match x with
 | .ptr k q τ=>if τ=ty P T/\τ.DE=true/\(τ.child i).isSome=true/\(τ.get i).size≠0 then K (.ptr k (q++[i]) (τ.get i))else none| .yg τ c=>if τ=ty P T/\τ.DE=true/\(τ.child i).isSome=true/\(τ.get i).size≠0 then K (.yg (τ.get i) (c.get i))else none|_=>none
theorem q0s {R:Type} {r:R} {Kr:V->Option R} {P:Program} {T:TypeId} {x:V} {i:Nat} {K:V->Prop} (h:Oc P T x i Kr=some r) (hK:∀v,Kr v=some r->K v):Pn P T x i K:=by unfold Oc at h;unfold Pn;split at h;{simp only[ba]at h;obtain⟨h1,h⟩:=h;exact⟨h1.1,h1.2.1,h1.2.2.1,h1.2.2.2,hK _ h⟩};{simp only[ba]at h;obtain⟨h1,h⟩:=h;exact⟨h1.1,h1.2.1,h1.2.2.1,h1.2.2.2,hK _ h⟩};{cases h}
def Oq {R:Type} (P:Program) (op:UnOp) (T:TypeId) (x:V) (K:V->Option R):Option R:=
 match ty P T,op with
 | .bool,.not=>if x.isBool then K (.d .bool (.bool (!x.toBool)))else none| .int k,.neg=>if x.isInt k then K (.d (.int k) (.int (k.wrap (0-x.toInt))))else none|_,_=>none
theorem q0T {R:Type} {r:R} {Kr:V->Option R} {P:Program} {op:UnOp} {T:TypeId} {x:V} {K:V->Prop} (h:Oq P op T x Kr=some r) (hK:∀v,Kr v=some r->K v):SQ P op T x K:=by unfold Oq at h;unfold SQ;generalize ty P T=τ at h ⊢;split at h;{simp only[ba]at h;obtain⟨h1,h⟩:=h;exact⟨h1,hK _ h⟩};{simp only[ba]at h;obtain⟨h1,h⟩:=h;exact⟨h1,hK _ h⟩};{cases h}
def Ob {R:Type} (P:Program) (src dst:TypeId) (x:V) (K:V->Option R):Option R:=
 match ty P src,ty P dst with
 | .int k,.int k2=>if x.isInt k then K (.d (.int k2) (.int (k2.wrap x.toInt)))else none| .str,.str=>if x.isStr then K x else none|_,_=>none
theorem q0q {R:Type} {r:R} {Kr:V->Option R} {P:Program} {src dst:TypeId} {x:V} {K:V->Prop} (h:Ob P src dst x Kr=some r) (hK:∀v,Kr v=some r->K v):NT P src dst x K:=by unfold Ob at h;unfold NT;generalize ty P src=τ at h ⊢;generalize ty P dst=τ2 at h ⊢;split at h;{simp only[ba]at h;obtain⟨h1,h⟩:=h;exact⟨h1,hK _ h⟩};{simp only[ba]at h;obtain⟨h1,h⟩:=h;exact⟨h1,hK _ h⟩};{cases h}
def Oa {R:Type} (P:Program) (b:Builtin) (ts:Array TypeId) (xs:List V) (K:V->Option R):Option R:=
 match b,xs with
 | .len,[x]=>if 0<ts.size then Oh P (ts.getD 0 0) x K else none| .min,[x,y]=>(match x with| .d (.int k) _=>if y.isInt k then K (.d (.int k) (.int (if y.toInt<x.toInt then y.toInt else x.toInt)))else none|_=>none)| .max,[x,y]=>(match x with| .d (.int k) _=>if y.isInt k then K (.d (.int k) (.int (if x.toInt<y.toInt then y.toInt else x.toInt)))else none|_=>none)|_,_=>none
theorem q0o {R:Type} {r:R} {Kr:V->Option R} {P:Program} {b:Builtin} {ts:Array TypeId} {xs:List V} {K:V->Prop} (h:Oa P b ts xs Kr=some r) (hK:∀v,Kr v=some r->K v):SP P b ts xs K:=by unfold Oa at h;unfold SP;split at h;{simp only[ba]at h;exact⟨h.1,q0B h.2 hK⟩};{split at h;{simp only[ba]at h;obtain⟨h1,h⟩:=h;exact⟨h1,hK _ h⟩};{cases h}};{split at h;{simp only[ba]at h;obtain⟨h1,h⟩:=h;exact⟨h1,hK _ h⟩};{cases h}};{cases h}
def Hb {R:Type} (P:Program) (op:Op) (ρ:Operand->V) (K:V->Option R):Option R:=
 match op with
 | .move x=>K (ρ x)| .assign x=>K (ρ x)| .pick c a b=>if(ρ c).isBool then(bif (ρ c).toBool then K (ρ a)else K (ρ b))else none| .nilCheck x=>if(ρ x).Ht=some false then K (ρ x)else none| .binOp op T x y _=>OZ P op T (ρ x) (ρ y) K| .unOp op T x=>Oq P op T (ρ x) K| .convert src dst x=>Ob P src dst (ρ x) K| .fieldAddr T x i=>Oc P T (ρ x) i K| .field T x i=>if(ρ x).ty=ty P T/\(ρ x).ty.DE=true/\((ρ x).ty.child i).isSome=true/\((ρ x).ty.get i).known=true/\(ρ x).plain=true/\((ρ x).get i).isAny=false then K ((ρ x).get i)else none| .indexAddr T x i=>Oe P T (ρ x) (ρ i) K| .index T x i=>if(ρ i).Fq then(match ty P T with| .arr n e=>if(ρ x).ty= .arr n e/\(ρ x).plain=true/\e.known=true then(if 0<=(ρ i).toInt/\(ρ i).toInt<n then(if((ρ x).get (ρ i).toInt.toNat).isAny=false then K ((ρ x).get (ρ i).toInt.toNat)else none)else none)else none| .str=>if(ρ x).isStr then(if 0<=(ρ i).toInt/\(ρ i).toInt<(ρ x).toStr.length then K (.d (.int .u8) (.int ((ρ x).toStr.getD (ρ i).toInt.toNat 0).toNat))else none)else none|_=>none)else none| .slice T x lo hi mx=>Ol P T (ρ x) (lo.map ρ) (hi.map ρ) (mx.map ρ) K| .extract x i=>(match ρ x with| .tup xs=>(match xs[i]? with|some y=>K y|none=>none)|_=>none)| .sliceToArrayPointer T x=>(match ρ x with| .sr k q lo n (some _) _ e=>(match ty P T with| .arr m e'=>if e'=e/\0<m then(if m<=n then K (.ptr k (q++[lo]) e)else none)else none|_=>none)|_=>(match ty P T,(ρ x).Fe with| .arr n e,some (_,e',cs)=>if e'=e/\0<n then(if n<=cs.length then K (.yg (.arr n e) (.agg (cs.take n)))else none)else none|_,_=>none))| .makeFunc fn first yh=>(match fn,first.toList with| .func f,[]=>if(yh.toList.map ρ).all V.plain=true then K (.fn f (yh.toList.map ρ))else none|_,_=>none)
 | .call c=>(match c.callee with| .builtin b=>Oa P b c.argTypes (c.args.toList.map ρ) K|_=>none)|_=>none
theorem RH {R:Type} {r:R} {Kr:V->Option R} {P:Program} {op:Op} {ρ:Operand->V} {K:V->Prop} (h:Hb P op ρ Kr=some r) (hK:∀v,Kr v=some r->K v):pv P op ρ K:=by
 unfold Hb at h;unfold pv;split at h;{exact hK _ h};{exact hK _ h};{simp only[ba]at h;obtain⟨h1,h⟩:=h;refine⟨h1,fun e=>?_,fun e=>?_⟩ <;> rw[e]at h <;> exact hK _ h};{simp only[ba]at h;obtain⟨h1,h⟩:=h;exact⟨h1,hK _ h⟩};{exact q0l h hK};{exact q0T h hK};{exact q0q h hK};{exact q0s h hK};{simp only[ba]at h;obtain⟨h1,h⟩:=h;exact⟨h1.1,h1.2.1,h1.2.2.1,h1.2.2.2.1,h1.2.2.2.2.1,V.PH h1.2.2.2.2.2,hK _ h⟩};{exact q0w h hK};{simp only[ba]at h;obtain⟨h0,h⟩:=h;refine⟨h0,?_⟩;rename_i T _ _;generalize ty P T=τ at h ⊢;split at h;{simp only[ba]at h;obtain⟨h1,h2,h3,h⟩:=h;exact⟨h1.1,h1.2.1,h1.2.2,h2.1,h2.2,V.PH h3,hK _ h⟩};{simp only[ba]at h;obtain⟨h1,h2,h⟩:=h;exact⟨h1,h2.1,h2.2,hK _ h⟩};{cases h}};{exact q0L h hK};{split at h;{rename_i e0;simp only[e0];split at h;{rename_i e1;simp only[e1];exact hK _ h};{cases h}};{cases h}};{split at h;{rename_i e0;dsimp only;split at h;{rename_i e1;simp only[e0,e1];simp only[ba]at h;obtain⟨h1,h2,h⟩:=h;exact⟨h1.1,h1.2,h2,hK _ h⟩};{cases h}};{rename_i hno;split at h;{rename_i e0 e1;simp only[ba]at h;obtain⟨h1,h2,h⟩:=h;dsimp only;split;{rename_i e2;exact absurd e2 (hno _ _ _ _ _ _ _)};{simp only[e0,e1];exact⟨h1.1,h1.2,h2,hK _ h⟩}};{cases h}}};{split at h;{rename_i e0;simp only[e0];simp only[ba]at h;obtain⟨h1,h⟩:=h;exact⟨h1,hK _ h⟩};{cases h}};{split at h;{rename_i e0;simp only[e0];exact q0o h hK};{cases h}};{cases h}
def Io {R:Type} (P:Program) (s:S) (t':TypeId) (eb:Nat) (e:Ty) (Y:V) (K:List C->Option R):Option R:=
 match ty P t' with
 | .slice _ _=>(match Y with| .yf=>K []|Y=>match Ey s Y with|some (eb',e',ys)=>if eb'=eb/\e'=e then K ys else none|none=>none)| .str=>if e= .int .u8/\eb=1/\Y.isStr then K (Y.toStr.map fun b=>C.int b.toNat)else none|_=>none
theorem UH {R:Type} {r:R} {Kr:List C->Option R} {P:Program} {s:S} {A':Key->Option O} (hA:leA s.A A') {t':TypeId} {eb:Nat} {e:Ty} {Y:V} {K:List C->Prop} (h:Io P s t' eb e Y Kr=some r) (hK:∀ys,Kr ys=some r->K ys):Ib P (s.wA A') t' eb e Y K:=by
 unfold Io at h;unfold Ib;generalize ty P t'=τ at h ⊢;cases τ <;> (try (cases h;done));{simp only[ba]at h;obtain⟨h1,h⟩:=h;exact⟨h1.1,h1.2.1,h1.2.2,hK _ h⟩}
 ·cases Y <;> simp only at h ⊢ <;> first
   |exact hK _ h
   |(split at h
     ·rename_i e0;simp only[ba]at h;obtain⟨h1,h⟩:=h;rw[kP hA e0];exact⟨h1.1,h1.2,hK _ h⟩
     ·cases h)
abbrev K3 (R:Type):=V->List (Key × O)->List (Nat × Option Nat)->Option R
def OY {R:Type} (P:Program) (m:Nat) (dst:Nat) (s:S) (t t':TypeId) (x y:V) (K:K3 R):Option R:=
 if Cb P (Ai P t)=true then
 match ty P t with
 | .slice eb e=>(match x with
  | .emp _ _| .yf=>Io P s t' eb e y fun ys=>
    if m=3 then(if ys.isEmpty=false then K (.sr (.l dst) [] 0 ys.length none eb e) [(.l dst,.box (.d (.arr ys.length e) (.agg ys)))] []else none)else K (.sl eb e ys dst) [] [(dst,some ys.length)]
  |_=>none)
 |_=>none
 else none
def RB {R:Type} (P:Program) (s:S) (T:TypeId) (k:Key) (K:V->Option R):Option R:=
 match Hr P T,s.obj k with
 |some _,some (.map _ _ es)=>if es.length<=9223372036854775807 then K (.d (.int .i64) (.int es.length))else none|_,_=>none
def Ir:List (C × V)->C->Bool
 | [],_=>false|(k,_)::l,c=>bif C.beq c k then true else Ir l c
def LK:List (C × V)->C->C
 | [],_=>.nil|(k,v)::l,c=>bif C.beq c k then(match v with| .d _ x=>x|_=>.nil)else LK l c
theorem mQ {τ:Ty} {c:C}:∀{es:List (C × V)},EF τ es=true->Fv es c=bif Ir es c then some (.d τ (LK es c))else none
 | [],_=>rfl|(k,v)::l,h=>by
  simp only[EF,bg]at h;simp only[Fv,C.UO,Ir,LK];cases hb:C.beq c k with
  |true=>
   simp only[cond_true,if_true];obtain⟨h1,_⟩:=h;split at h1;{rw[Ty.beq_iff]at h1;subst h1;rfl};{cases h1}
  |false=>
   simp only[cond_false,fi,if_false];exact mQ h.2
def Oi {R:Type} (τ:Ty) (es:List (C × V)) (c:C) (K:Option V->Option R):Option R:=
 bif EF τ es then(bif Ir es c then K (some (.d τ (LK es c)))else K none)else none
theorem q0C {R:Type} {r:R} {τ:Ty} {c:C} {Kr:Option V->Option R} {es:List (C × V)} (h:Oi τ es c Kr=some r):Kr (Fv es c)=some r:=by
 unfold Oi at h;cases ha:EF τ es with
 |false=>rw[ha]at h;cases h
 |true=>
  rw[ha]at h;rw[mQ ha];cases hb:Ir es c <;> rw[hb]at h <;> exact h
def YI {R:Type} (y:V) (q:List Nat) (t τ:Ty) (K:V->Option R):Option R:=
 match y,t with
 | .d (.arr M e) c,.arr m e'=>if q≠[]/\e'=e/\τ=e/\(Ty.arr m e).known=true/\q.getLastD 0+m<=M then K (.d (.arr m e) (.agg ((c.elems.drop (q.getLastD 0)).take m)))else none|_,_=>none
def ekI {R:Type} (X:Cx) (m:Nat) (dst:Nat) (o:Oper) (ρ:Operand->V) (s:S) (K:K3 R):Option R:=
 match o.op with
 | .load T x=>if dc m 18=true then(match ρ x with| .ptr k q τ=>(match s.obj k with|some (.box y)=>YI (y.at q.dropLast) q (ty X.P T) τ fun v=>K v [] []|_=>none)|_=>none)
  else(match ρ x with| .ptr k q τ=>(match s.obj k with|some (.box y)=>if(y.at q).isAny=false/\τ=ty X.P T/\τ.known=true then K (view (y.at q)) [] []else none|_=>none)| .yg τ c=>if τ=ty X.P T/\τ.known=true then K (.d τ c) [] []else none|_=>none)
 | .alloc T=>if Cb X.P T=true then K (.ptr (.l dst) [] (ty X.P T)) [(.l dst,SC (ty X.P T) T)] []else none
 | .box _ x=>if m=5 then(if(ρ x).plain=true then(match Cm (ρ x)with|some cc=>K (.yg (ρ x).ty cc) [] []|none=>none)else none)
   else if(ρ x).plain=true/\(ρ x).BT=true then K (.ptr (.l dst) [] (ρ x).ty) [(.l dst,.box (ρ x))] []else none
 | .buildSlice t len parts=>(match ty X.P t with
   | .slice eb e=>(match len with
    |0=>if parts.toList.length=0 then K (.emp eb e) [] []else none
    |len+1=>if Cb X.P (Ai X.P t)=true/\e.size≠0/\(len+1)*e.size<=16777216/\(len+1)*eb<=140737488355328/\parts.toList.map (·.1)=gh (len+1)then
      (if dc m 20=true then(if(parts.toList.map (fun x=>ρ x.2)).all (fun x=>decide (x.ty=e)&&x.plain)=true/\V.Cw (parts.toList.map fun x=>ρ x.2)=true then K (.sr (.l dst) [] 0 (len+1) (some (len+1)) eb e) [(.l dst,.box (.agg (.arr (len+1) e) (parts.toList.map fun x=>ρ x.2)))] []else none)else match Eh (parts.toList.map fun x=>ρ x.2)with|some cs=>if(parts.toList.map (fun x=>ρ x.2)).all (fun x=>decide (x.ty=e)&&x.plain)=true then(if m=4 then K (.sl eb e cs dst) [] [(dst,some cs.length)]else K (.d (.slice eb e) (.slice cs)) [] [])else none|none=>none)else none)
   |_=>none)
 | .build T parts=>if Cb X.P T=true/\(ty X.P T).CT=true/\(ty X.P T).isAgg=true/\Ti (ty X.P T) (Al (ty X.P T)) (parts.toList.map fun p=>(p.1,ρ p.2))=true then
   K (Jr (ty X.P T) (Al (ty X.P T)) (parts.toList.map fun p=>(p.1,ρ p.2))) [] []else none
 | .makeSlice t l c=>(match ty X.P t with
   | .slice eb e=>if Cb X.P (Ai X.P t)=true/\(ρ l).Fq/\(ρ c).Fq/\e.size≠0 then(if 0<=(ρ l).toInt/\(ρ l).toInt<=(ρ c).toInt/\(ρ c).toInt<=9223372036854775807/\(ρ c).toInt.toNat*eb<=140737488355328 then
     K (.sr (.l dst) [] 0 (ρ l).toInt.toNat (if m=9 then none else some (ρ c).toInt.toNat) eb e) [(.l dst,.box (.d (.arr (ρ l).toInt.toNat e) (.agg (List.replicate (ρ l).toInt.toNat (AH e)))))] []else none)else none
   |_=>none)
 | .makeMap T r=>(match r,Hr X.P T with|none,some (kt,et)=>K (.mp (.l dst)) [(.l dst,.map (ty X.P kt) (ty X.P et) [])] []|_,_=>none)
 | .lookup T x i ok=>(match Hr X.P T,ρ x with
   |some (kt,et),.mp k=>(match s.obj k with
     |some (.map kτ _ es)=>if kτ=ty X.P kt/\Cq X.P kt=true/\Cb X.P et=true/\(ρ i).Dk kτ then
       Oi (ty X.P et) es (ρ i).toC (fun r=>K (if ok then .tup [r.getD (Al (ty X.P et)),.d .bool (.bool r.isSome)]else r.getD (Al (ty X.P et))) [] [])else none
     |_=>none)
   |_,_=>none)
 | .call c=>(match c.callee with| .value _=>none| .builtin .append=>(match c.args.toList,c.argTypes.toList with| [x,y],[t,t']=>OY X.P m dst s t t' (ρ x) (ρ y) K|_,_=>none)| .builtin .len=>(match c.args.toList,c.argTypes.toList with| [x],[T]=>(match ρ x with| .mp k=>RB X.P s T k fun v=>K v [] []|_=>Hb X.P o.op ρ fun v=>K v [] [])|_,_=>Hb X.P o.op ρ fun v=>K v [] [])|_=>Hb X.P o.op ρ fun v=>K v [] [])| .convert src z6O x=>(match strOf X.P s src z6O (ρ x)with|some ys=>K (.d .str (.str (ys.map Kx))) [] []|none=>Hb X.P o.op ρ fun v=>K v [] [])|_=>Hb X.P o.op ρ fun v=>K v [] []
theorem q0j {P:Program} {md:List (Nat × Nat)} {m dst:Nat} (hm:Ck md dst=m) {s:S} {A':Key->Option O} (hA:leA s.A A') {t t':TypeId} {x y:V} {R:Type} {r:R} {Kr:K3 R} {K:V->List (Key × O)->List (Nat × Option Nat)->Prop}:
  OY P m dst s t t' x y Kr=some r->(∀v lo tn,Kr v lo tn=some r->K v lo tn)->Cb P (Ai P t)=true/\(match ty P t,x with| .slice eb e,.emp _ _=>Ib P (s.wA A') t' eb e y fun ys=>if Ck md dst=3 then ys≠[]/\K (.sr (.l dst) [] 0 ys.length none eb e) [(.l dst,.box (.d (.arr ys.length e) (.agg ys)))] []else K (.sl eb e ys dst) [] [(dst,some ys.length)]| .slice eb e,.yf=>Ib P (s.wA A') t' eb e y fun ys=>if Ck md dst=3 then ys≠[]/\K (.sr (.l dst) [] 0 ys.length none eb e) [(.l dst,.box (.d (.arr ys.length e) (.agg ys)))] []else K (.sl eb e ys dst) [] [(dst,some ys.length)]|_,_=>False):=by
 intro h hK;unfold OY at h;simp only[ba]at h;obtain⟨h0,h⟩:=h;refine⟨h0,?_⟩;generalize ty P t=τ at h ⊢;cases τ <;> (try (cases h;done))
 cases x <;> (try (cases h;done)) <;> simp only at h ⊢ <;>
  (refine UH hA h fun ys h=>?_
   split at h;{rename_i hm3;rw[if_pos (hm.trans hm3)];simp only[ba]at h;obtain⟨h1,h⟩:=h;exact⟨by intro e1;subst e1;simp at h1,hK _ _ _ h⟩}
   ·rename_i hm3;rw[if_neg (by rw[hm];exact hm3)];exact hK _ _ _ h)
theorem q0u {X:Cx} {md:List (Nat × Nat)} {m dst:Nat} (hm:Ck md dst=m) {o:Oper} {ρ:Operand->V} {s base:S} {A':Key->Option O} (hA:leA s.A A') {R:Type} {r:R} {Kr:K3 R} {K:V->List (Key × O)->List (Nat × Option Nat)->Prop} (h:ekI X m dst o ρ s Kr=some r) (hK:∀v lo tn,Kr v lo tn=some r->K v lo tn):
  iop X md base dst o ρ (s.wA A') K:=by
 unfold ekI at h;unfold iop;generalize o.op=op at h ⊢;split at h
 ·dsimp only;split at h;{rename_i z7V;rw[if_pos (by rw[hm];exact eh z7V)];split at h;{rename_i e0;simp only[e0];split at h;{rename_i e1;simp only[Dv hA e1];unfold YI at h;unfold dV;split at h;{rename_i e2 e3;simp only[e2,e3];simp only[ba]at h;obtain⟨h1,h⟩:=h;exact⟨h1.1,h1.2.1,h1.2.2.1,h1.2.2.2.1,h1.2.2.2.2,hK _ _ _ h⟩};{cases h}};{cases h}};{cases h}};rename_i z7V;rw[if_neg fun e=>z7V (by rw[<-hm,e];rfl)];split at h;{rename_i e0;simp only[e0];split at h;{rename_i e1;simp only[Dv hA e1];simp only[ba]at h;obtain⟨h1,h⟩:=h;exact⟨V.PH h1.1,h1.2.1,h1.2.2,hK _ _ _ h⟩};{cases h}};{rename_i e0;simp only[e0];simp only[ba]at h;obtain⟨h1,h⟩:=h;exact⟨h1.1,h1.2,hK _ _ _ h⟩};{cases h}
 ·simp only[ba]at h;obtain⟨h1,h⟩:=h;exact⟨h1,hK _ _ _ h⟩
 ·dsimp only;split at h;{rename_i hm5;rw[if_pos (hm.trans hm5)];simp only[ba]at h;obtain⟨h1,h⟩:=h;split at h;{rename_i cc hcc;rw[hcc];exact⟨h1,hK _ _ _ h⟩};{cases h}};{rename_i hm5;rw[if_neg (by rw[hm];exact hm5)];simp only[ba]at h;obtain⟨h1,h⟩:=h;exact⟨h1.1,h1.2,hK _ _ _ h⟩}
 ·rename_i t len parts;dsimp only;generalize ty X.P t=τ at h ⊢;cases τ <;> (try (cases h;done));cases len with
  |zero=>
   simp only[ba]at h;obtain⟨h1,h⟩:=h;exact⟨h1,hK _ _ _ h⟩
  |succ len=>
   simp only[ba]at h;obtain⟨h1,h⟩:=h;refine⟨h1.1,h1.2.1,h1.2.2.1,h1.2.2.2.1,h1.2.2.2.2,?_⟩;split at h;{rename_i h20;rw[if_pos (by rw[hm];exact eh h20)];simp only[ba]at h;obtain⟨h2,h⟩:=h;exact⟨fun x hx=>by have:=dw.1 h2.1 x hx;simpa using this,h2.2,hK _ _ _ h⟩};rename_i h20;rw[if_neg fun e=>h20 (by rw[<-hm,e];rfl)];split at h;{rename_i e0;rw[e0];simp only[ba]at h;obtain⟨h2,h⟩:=h;refine⟨fun x hx=>?_,?_⟩;{have:=dw.1 h2 x hx;simpa using this};{rw[hm];split at h;{rename_i e4;rw[if_pos e4];exact hK _ _ _ h};{rename_i e4;rw[if_neg e4];exact hK _ _ _ h}}};{cases h}
 ·simp only[ba]at h;obtain⟨h1,h⟩:=h;exact⟨h1.1,h1.2.1,h1.2.2.1,gZ h1.2.2.2,hK _ _ _ h⟩
 ·rename_i t _ _;dsimp only;generalize ty X.P t=τ at h ⊢;cases τ <;> (try (cases h;done));simp only[ba]at h;obtain⟨h1,h⟩:=h;obtain⟨h2,h⟩:=h;exact⟨h1.1,h1.2.1,h1.2.2.1,h2.1,h2.2.1,h2.2.2.1,h2.2.2.2,h1.2.2.2,by rw[hm];exact hK _ _ _ h⟩
 ·split at h;{rename_i e0;simp only[e0];exact hK _ _ _ h};{cases h}
 ·split at h;{rename_i e0 e1;simp only[e0,e1];split at h;{rename_i e2;simp only[Dv hA e2];simp only[ba]at h;obtain⟨h1,h⟩:=h;refine⟨h1.1,h1.2.1,h1.2.2.1,h1.2.2.2,?_⟩;exact hK _ _ _ (q0C h)};{cases h}};{cases h}
 ·split at h;{cases h};{rename_i e0;simp only[e0];split at h;{rename_i e1 e2;simp only[e1,e2];exact q0j hm hA h hK};{cases h}};{rename_i e0;simp only[e0];split at h;{rename_i e1 e2;simp only[e1,e2];split at h;{rename_i e3;simp only[e3];unfold RB at h;split at h;{rename_i e4 e5;simp only[ba]at h;obtain⟨h2,h⟩:=h;simp only[e4,Dv hA e5];exact⟨h2,hK _ _ _ h⟩};{cases h}};{rename_i hx;split;{rename_i k hk;exact(hx k hk).elim};{exact RH h (fun v h=>hK _ _ _ h)}}};{rename_i hx;split;{rename_i a b hk hk2;exact(hx _ _ hk hk2).elim};{exact RH h (fun v h=>hK _ _ _ h)}}};{rename_i h1 h2 h3;dsimp only;split;{rename_i e;exact(h1 _ e).elim};{rename_i e;exact(h2 e).elim};{rename_i e;exact(h3 e).elim};{exact RH h (fun v h=>hK _ _ _ h)}}
 ·split at h;{rename_i e0;simp only[q74 hA e0];exact hK _ _ _ h};{have hp:=RH (K:=fun y=>K y [] []) h (fun v h=>hK _ _ _ h);dsimp only;split;{rename_i e1;exact(q73 (K:=fun y=>K y [] []) e1 hp).elim};{exact hp}}
 ·split <;> first
   |exact RH h (fun v h=>hK _ _ _ h)|(rename_i hx;exact(hx _ rfl).elim)|(rename_i hx _;exact(hx _ _ rfl).elim)|(rename_i hx _ _ _ _;exact(hx _ _ _ _ rfl).elim)|(rename_i hx _ _ _ _ _;exact(hx _ _ _ _ rfl).elim)|(exfalso;simp[Hb]at h;done)|simp_all
abbrev KS (R:Type):=V->S->Option R
def LS (s:S) (t n:Nat):Option Bool:=
 match s.live t with
 |some m=>some (dc m n)|none=>none
mutual
def V.Kh (lv:Nat->Option Nat):List Nat->V->List (Nat × List Nat)
 |p,.sl _ _ _ t=>(match lv t with|some _=>[(t,p)]|none=>[])|p,.agg _ vs=>V.Wc lv p 0 vs|_,_=>[]
def V.Wc (lv:Nat->Option Nat):List Nat->Nat->List V->List (Nat × List Nat)
 |_,_,[]=>[]|p,i,x::xs=>V.Kh lv (p++[i]) x++V.Wc lv p (i+1) xs
end
mutual
def V.Mr (σ:List (Nat × List Nat)) (lv:Nat->Option Nat):List Nat->V->V
 |p,.sl eb e cs t=>(match lv t with|some _=>if look σ t=some p then .ts eb e cs else .d (.slice eb e) (.slice cs)|none=>.d (.slice eb e) (.slice cs))|p,.agg τ vs=>.agg τ (V.Uh σ lv p 0 vs)|_,x=>x
def V.Uh (σ:List (Nat × List Nat)) (lv:Nat->Option Nat):List Nat->Nat->List V->List V
 |_,_,[]=>[]|p,i,x::xs=>V.Mr σ lv (p++[i]) x::V.Uh σ lv p (i+1) xs
end
mutual
def V.HS (lv:Nat->Option Nat):V->Bool
 | .sl _ _ cs t=>(match lv t with|some m=>dc m cs.length|none=>true)| .agg _ vs=>V.KQ lv vs|_=>true
def V.KQ (lv:Nat->Option Nat):List V->Bool
 | []=>true|x::xs=>(match x with| .sl _ _ _ _| .agg _ _=>x.HS lv&&V.KQ lv xs|_=>V.KQ lv xs)
end
mutual
theorem V.dK {lv:Nat->Option Nat}:∀(x:V) (p:List Nat),x.HS lv=true->x.sites lv p=x.Kh lv p
 | .sl _ _ cs t,p,h=>by simp only[V.HS]at h;simp only[tf,V.Kh];split at h;{rename_i m e;rw[e,eh h];simp};{rename_i e;rw[e];simp}
 | .agg _ vs,p,h=>by simp only[V.HS]at h;simp only[tf,V.Kh,V.wQ vs p 0 h]
 | .d _ _,_,_| .ts _ _ _,_,_| .emp _ _,_,_| .yf,_,_| .ptr _ _ _,_,_| .yg _ _,_,_| .sr _ _ _ _ _ _ _,_,_| .mp _,_,_| .fn _ _,_,_| .tup _,_,_| .top _,_,_| .any,_,_=>by simp[tf,V.Kh]
theorem V.wQ {lv:Nat->Option Nat}:∀(xs:List V) (p:List Nat) (i:Nat),V.KQ lv xs=true->V.Sz lv p i xs=V.Wc lv p i xs
 | [],_,_,_=>rfl|x::xs,p,i,h=>by
  have hx:x.HS lv=true/\V.KQ lv xs=true:=by simp only[V.KQ]at h;split at h;{simpa using h};{simpa using h};{rename_i h1 h2;refine⟨?_,h⟩;cases x <;> first|rfl|exact absurd rfl (h1 _ _ _ _)|exact absurd rfl (h2 _ _)}
  simp only[V.Sz,V.Wc,V.dK x _ hx.1,V.wQ xs p (i+1) hx.2]
end
mutual
theorem V.Yv {lv:Nat->Option Nat} {σ:List (Nat × List Nat)}:∀(x:V) (p:List Nat),x.HS lv=true->x.Cf σ lv p=x.Mr σ lv p
 | .sl _ _ cs t,p,h=>by simp only[V.HS]at h;simp only[V.Cf,V.Mr];split at h;{rename_i m e;rw[e,eh h];simp};{rename_i e;rw[e];simp}
 | .agg _ vs,p,h=>by simp only[V.HS]at h;simp only[V.Cf,V.Mr,V.nC vs p 0 h]
 | .d _ _,_,_| .ts _ _ _,_,_| .emp _ _,_,_| .yf,_,_| .ptr _ _ _,_,_| .yg _ _,_,_| .sr _ _ _ _ _ _ _,_,_| .mp _,_,_| .fn _ _,_,_| .tup _,_,_| .top _,_,_| .any,_,_=>by simp[V.Cf,V.Mr]
theorem V.nC {lv:Nat->Option Nat} {σ:List (Nat × List Nat)}:∀(xs:List V) (p:List Nat) (i:Nat),V.KQ lv xs=true->V.II σ lv p i xs=V.Uh σ lv p i xs
 | [],_,_,_=>rfl|x::xs,p,i,h=>by
  have hx:x.HS lv=true/\V.KQ lv xs=true:=by simp only[V.KQ]at h;split at h;{simpa using h};{simpa using h};{rename_i h1 h2;refine⟨?_,h⟩;cases x <;> first|rfl|exact absurd rfl (h1 _ _ _ _)|exact absurd rfl (h2 _ _)}
  simp only[V.II,V.Uh,V.Yv x _ hx.1,V.nC xs p (i+1) hx.2]
end
def Wu (s:S):Nat->Nat->Nat
 |0,d=>d|f+1,d=>if(s.obj (.l d)).isNone=true then d else Wu s f (d+100000000)
def ekT {R:Type} (X:Cx) (m:Nat) (dst:Nat) (o:Oper) (ρ:Operand->V) (s:S) (K:KS R):Option R:=
 match o.op with
 | .store T p y=>(match ρ p with
   | .ptr k q τ=>(match s.obj k with
     |some (.box x)=>if τ=ty X.P T/\τ.known=true/\(Cj τ (ρ y)).ty=τ/\(Cj τ (ρ y)).plain=true/\(x.at q).isAny=false/\x.ty.CT=true/\(Cj τ (ρ y)).okH=true then
       (match Cj τ (ρ y)with
       | .sl eb e cs t=>(match LS s t cs.length with|some b=>(bif b then K .any ((s.put k (.box (x.setAt q (.ts eb e cs)))).tok t none)else none)|none=>K .any (s.put k (.box (x.setAt q (.d (.slice eb e) (.slice cs))))))|z=>(bif z.HS s.live then K .any (Eo (z.Kh s.live q) (s.put k (.box (x.setAt q (z.Mr (z.Kh s.live q) s.live q)))))else none))else none
     |_=>none)
   |_=>none)
 | .box _ x=>if(ρ x).plain=true/\(ρ x).okH=true/\(s.obj (.l dst)).isNone then
   (bif (ρ x).HS s.live then K (.ptr (.l dst) [] (ρ x).ty) (Eo ((ρ x).Kh s.live []) (s.put (.l dst) (.box ((ρ x).Mr ((ρ x).Kh s.live []) s.live []))))else none)else none
 | .load T x=>(match ρ x with| .ptr k q τ=>(match s.obj k with|some (.box y)=>(match y.at q with| .ts eb e cs=>if m=1/\τ=ty X.P T/\τ= .slice eb e/\y.ty.CT=true/\s.known dst=false then K (.sl eb e cs dst) ((s.put k (.box (y.setAt q (.d (.slice eb e) (.slice cs))))).tok dst (some cs.length))else none|_=>none)|_=>none)|_=>none)
 | .mapUpdate T x i y=>(match Hr X.P T,ρ x with
   |some (kt,et),.mp k=>(match s.obj k with
     |some (.map kτ vτ es)=>if kτ=ty X.P kt/\vτ=ty X.P et/\Cq X.P kt=true/\kτ.flat=true/\(ρ i).Dk kτ/\(Cj vτ (ρ y).Ch).ty=vτ/\(Cj vτ (ρ y).Ch).plain=true/\(Cj vτ (ρ y).Ch).BT=true then
       K .any (s.put k (.map kτ vτ (Ge es (ρ i).toC (Cj vτ (ρ y).Ch))))else none
     |_=>none)
   |_,_=>none)
 | .call c=>(match c.callee with
   | .builtin .append=>(match c.args.toList,c.argTypes.toList with
     | [x,y],[t,t']=>if Cb X.P (Ai X.P t)=true then(match ty X.P t,ρ x with
       | .slice eb e,.sl eb' e' cs tk=>if eb'=eb/\e'=e then(match LS s tk cs.length with|some b=>(bif b then(Io X.P s t' eb e (ρ y) fun ys=>if(cs.length+ys.length)*eb<=140737488355328/\cs.length+ys.length<=maxLen then K (.sl eb e (cs++ys) tk) (s.tok tk (some (cs.length+ys.length)))else none)else none)|none=>none)else none
       | .slice eb e,.sr k q lo n cp eb' e'=>if q=[]/\lo=0/\cp.isNone=true/\eb'=eb/\e'=e then(match s.obj k with
         |some (.box (.d τ cc))=>(match τ with
          | .arr M e2=>if e2=e/\(s.obj (.l (Wu s 8 dst))).isNone then
            Io X.P s t' eb e (ρ y) (fun ys=>if(n+ys.length)*eb<=140737488355328/\n+ys.length<=maxLen then
             K (.sr (.l (Wu s 8 dst)) [] 0 (n+ys.length) none eb e) ((s.put k (.dead (.arr M e))).put (.l (Wu s 8 dst)) (.box (.d (.arr (n+ys.length) e) (.agg (cc.elems.take n++ys)))))else none)else none
          |_=>none)
         |_=>none)else none
       |_,_=>none)else none
     |_,_=>none)
   | .builtin .copy=>(match c.args.toList,c.argTypes.toList with
     | [x,y],[t,t']=>if Cb X.P (Ai X.P t)=true then(match ty X.P t,ρ x with
       | .slice eb e,.sr k q lo n cp eb' e'=>if cp.isSome=true/\eb'=eb/\e'=e then(match s.obj k with
         |some (.box Z)=>(match Z.at q with
          | .d τ cc=>(match τ with
           | .arr m e2=>if e2=e/\Z.ty.CT=true then(if 0<n then
             Io X.P s t' eb e (ρ y) (fun ys=>K (.d (.int .i64) (.int (min ys.length n:Nat))) (s.put k (.box (Z.setAt q (.d (.arr m e) (.agg (Dg cc.elems lo n ys)))))))else none)else none
           |_=>none)
          |_=>none)
         |_=>none)else none
       |_,_=>none)else none
     |_,_=>none)
   |_=>none)
 |_=>none
theorem q1P {lv:Nat->Option Nat} {σ:List (Nat × List Nat)} {p:List Nat} {eb:Nat} {e:Ty} {cs:List C} {t:Nat} (h:look σ t=some p) (hl:lv t=some cs.length):V.Cf σ lv p (.sl eb e cs t)= .ts eb e cs:=by simp only[V.Cf];exact if_pos ⟨h,hl⟩
theorem q1O {lv:Nat->Option Nat} {σ:List (Nat × List Nat)} {p:List Nat} {eb:Nat} {e:Ty} {cs:List C} {t:Nat} (hl:lv t=none):V.Cf σ lv p (.sl eb e cs t)= .d (.slice eb e) (.slice cs):=by simp only[V.Cf];exact if_neg (by rw[hl];simp)
theorem ZU {s:S} {t n:Nat} (h:LS s t n=some true):s.live t=some n:=by unfold LS at h;split at h;{rename_i m e;rw[e,eh (pc h)]};{cases h}
theorem q0Q {X:Cx} {md:List (Nat × Nat)} {m dst:Nat} (hm:Ck md dst=m) {o:Oper} {ρ:Operand->V} {s:S} {A':Key->Option O} (hA:leA s.A A') {R:Type} {r:R} {Kr:KS R} {K:V->S->Prop} (h:ekT X m dst o ρ s Kr=some r) (hK:∀v s1,Kr v s1=some r->K v (s1.wA A')):
  top X md dst o ρ (s.wA A') K:=by
 unfold ekT at h;unfold top;generalize o.op=op at h ⊢;split at h
 ·split at h
  ·rename_i e0;simp only[e0];split at h
   ·rename_i e1;simp only[Dv hA e1];simp only[ba]at h;obtain⟨h1,h⟩:=h;refine⟨h1.1,h1.2.1,h1.2.2.1,h1.2.2.2.1,V.PH h1.2.2.2.2.1,h1.2.2.2.2.2.1,h1.2.2.2.2.2.2,?_⟩;split at h
    ·rename_i eb e cs t e2;rw[e2];split at h
     ·rename_i b e3;cases b with
      |false=>cases h
      |true=>
       have hl:=ZU (s:=s) e3;have hK:=hK _ _ h;have e4:∀p,tf (s.wA A').live p (V.sl eb e cs t)=[(t,p)]:=by intro p;simp only[tf];exact if_pos hl
       rw[e4,q1P (lv:=(s.wA A').live) (σ:=[(t,_)]) (by simp[look]) hl];exact hK
     ·rename_i e3;have hl:s.live t=none:=by unfold LS at e3;split at e3;{cases e3};{rename_i e5;exact e5}
      have hK:=hK _ _ h;have e4:∀p,tf (s.wA A').live p (V.sl eb e cs t)=[]:=by intro p;simp only[tf];exact if_neg (by rw[q2Z,hl];simp)
      rw[e4,q1O (lv:=(s.wA A').live) hl];exact hK
    ·rename_i z hz;generalize Cj _ (ρ _)=z at h ⊢;cases hn:z.HS s.live with
     |false=>rw[hn]at h;cases h
     |true=>
     rw[hn,cond_true,<-V.dK z _ hn,<-V.Yv z _ hn]at h;have hK:=hK _ _ h;rw[<-Um]at hK;exact hK
   ·cases h
  ·cases h
 ·simp only[ba]at h;obtain⟨h1,h⟩:=h;rename_i _ x;cases hn:(ρ x).HS s.live with
  |false=>rw[hn]at h;cases h
  |true=>
  rw[hn,cond_true,<-V.dK (ρ x) _ hn,<-V.Yv (ρ x) _ hn]at h;have hK:=hK _ _ h;rw[<-Um]at hK;exact⟨h1.1,h1.2.1,by rw[KR];simpa using h1.2.2,hK⟩
 ·split at h;{rename_i e0;simp only[e0];split at h;{rename_i e1;simp only[Dv hA e1];split at h;{rename_i e2;simp only[e2];simp only[ba]at h;obtain⟨h1,h⟩:=h;exact⟨hm.trans h1.1,h1.2.1,h1.2.2.1,h1.2.2.2.1,h1.2.2.2.2,hK _ _ h⟩};{cases h}};{cases h}};{cases h}
 ·split at h;{rename_i e0 e1;simp only[e0,e1];split at h;{rename_i e2;simp only[Dv hA e2];simp only[ba]at h;obtain⟨h1,h⟩:=h;have hK:=hK _ _ h;rw[tM]at hK;exact⟨h1.1,h1.2.1,h1.2.2.1,h1.2.2.2.1,h1.2.2.2.2.1,h1.2.2.2.2.2.1,h1.2.2.2.2.2.2.1,h1.2.2.2.2.2.2.2,hK⟩};{cases h}};{cases h}
 ·split at h
  ·rename_i e0;simp only[e0];split at h
   ·rename_i e1 e2;simp only[e1,e2];simp only[ba]at h;obtain⟨h0,h⟩:=h;refine⟨h0,?_⟩;split at h
    ·rename_i e3 e4;simp only[e3,e4];simp only[ba]at h;obtain⟨h1,h⟩:=h;split at h
     ·rename_i b e5;cases b with
      |false=>cases h
      |true=>
       simp only[cond_true]at h;refine⟨h1.1,h1.2,ZU (s:=s) e5,?_⟩;refine UH hA h fun ys h=>?_;simp only[ba]at h;obtain⟨h2,h⟩:=h;exact⟨h2.1,h2.2,hK _ _ h⟩
     ·cases h
    ·rename_i e3 e4;simp only[e3,e4];simp only[ba]at h;obtain⟨⟨rfl,rfl,hcp,h1⟩,h⟩:=h;rename_i cp _ _;cases cp with
     |some c=>cases hcp
     |none=>
      split at h;{rename_i e5;simp only[Dv hA e5];split at h;{simp only[ba]at h;obtain⟨⟨h2,h3⟩,h⟩:=h;refine⟨h1.1,h1.2,h2,_,by rw[KR];simpa using h3,?_⟩;refine UH hA h fun ys h=>?_;simp only[ba]at h;obtain⟨h4,h⟩:=h;exact⟨h4.1,h4.2,hK _ _ h⟩};{cases h}};{cases h}
    ·cases h
   ·cases h
  ·rename_i e0;simp only[e0];split at h
   ·rename_i e1 e2;simp only[e1,e2];simp only[ba]at h;obtain⟨h0,h⟩:=h;refine⟨h0,?_⟩;split at h
    ·rename_i e3 e4;simp only[e3,e4];simp only[ba]at h;obtain⟨⟨hcp,rfl,rfl⟩,h⟩:=h;rename_i cp _ _;cases cp with
     |none=>cases hcp
     |some c0=>
      split at h;{rename_i e5;simp only[Dv hA e5];split at h;{rename_i e6;split at h;{rename_i m e2';simp only[e6];simp only[ba]at h;obtain⟨⟨rfl,h3⟩,h4,h⟩:=h;refine⟨by trivial,by trivial,by trivial,h3,h4,?_⟩;refine UH hA h fun ys h=>?_;exact hK _ _ h};{cases h}};{cases h}};{cases h}
    ·cases h
   ·cases h
  ·cases h
 ·cases h
theorem q0x {R:Type} (op:BinOp) (k:IntKind) (a b:Int) (K:V->Option R):Og op k a b K=(Og op k a b some).bind K:=by unfold Og;split <;> first|rfl|(split <;> rfl)
theorem q0G {R:Type} (op:BinOp) (k:IntKind) (a b:Int) (K:V->Option R):Oj op k a b K=(Oj op k a b some).bind K:=by unfold Oj;split <;> first|rfl|(split <;> rfl)
theorem q0N {R:Type} (op:BinOp) (a b:List UInt8) (K:V->Option R):Oo op a b K=(Oo op a b some).bind K:=by unfold Oo;split <;> first|rfl|(split <;> rfl)
theorem kC {R:Type} (op:BinOp) (b:Bool) (K:V->Option R):Mg op b K=(Mg op b some).bind K:=by unfold Mg;split <;> rfl
theorem q0m {R:Type} (op:BinOp) (a b:Bool) (K:V->Option R):Qz op a b K=(Qz op a b some).bind K:=by unfold Qz;split <;> rfl
theorem q0D {R:Type} (op:BinOp) (a b:Option Bool) (K:V->Option R):RG op a b K=(RG op a b some).bind K:=by unfold RG;split <;> rfl
theorem q0J {R:Type} (op:BinOp) (a:Option (Option Bool)) (b:V) (K:V->Option R):RJ op a b K=(RJ op a b some).bind K:=by unfold RJ;split <;> rfl
theorem q0k {R:Type} (P:Program) (op:BinOp) (T:TypeId) (x y:V) (K:V->Option R):OZ P op T x y K=(OZ P op T x y some).bind K:=by unfold OZ;split;{split;{split;{split;{exact q0G ..};{rfl}};{split;{exact q0x ..};{rfl}}};{rfl}};{split;{exact q0m ..};{rfl}};{split;{exact q0N ..};{rfl}};{exact q0D ..};{split;{exact kC ..};{rfl}};{split;{exact kC ..};{rfl}};{exact q0J ..};{rfl}
theorem q0K {R:Type} (P:Program) (T:TypeId) (x:V) (lo hi mx:Option V) (K:V->Option R):Ol P T x lo hi mx K=(Ol P T x lo hi mx some).bind K:=by
 unfold Ol
 repeat' (first|rfl|split)
theorem q0A {R:Type} (P:Program) (T:TypeId) (x:V) (K:V->Option R):Oh P T x K=(Oh P T x some).bind K:=by
 unfold Oh
 repeat' (first|rfl|split)
theorem q0v {R:Type} (P:Program) (T:TypeId) (x i:V) (K:V->Option R):Oe P T x i K=(Oe P T x i some).bind K:=by
 unfold Oe
 repeat' (first|rfl|split)
theorem q0r {R:Type} (P:Program) (T:TypeId) (x:V) (i:Nat) (K:V->Option R):Oc P T x i K=(Oc P T x i some).bind K:=by
 unfold Oc
 repeat' (first|rfl|split)
theorem q0S {R:Type} (P:Program) (op:UnOp) (T:TypeId) (x:V) (K:V->Option R):Oq P op T x K=(Oq P op T x some).bind K:=by
 unfold Oq
 repeat' (first|rfl|split)
theorem q0p {R:Type} (P:Program) (a b:TypeId) (x:V) (K:V->Option R):Ob P a b x K=(Ob P a b x some).bind K:=by
 unfold Ob
 repeat' (first|rfl|split)
theorem q0n {R:Type} (P:Program) (b:Builtin) (ts:Array TypeId) (xs:List V) (K:V->Option R):Oa P b ts xs K=(Oa P b ts xs some).bind K:=by
 unfold Oa
 repeat' (first|rfl|exact q0A .. |split)
theorem kK {R:Type} (P:Program) (op:Op) (ρ:Operand->V) (K:V->Option R):Hb P op ρ K=(Hb P op ρ some).bind K:=by unfold Hb;split;{rfl};{rfl};{split;{cases(ρ _).toBool <;> rfl};{rfl}};{split <;> rfl};{exact q0k ..};{exact q0S ..};{exact q0p ..};{exact q0r ..};{split <;> rfl};{exact q0v ..};{repeat' (first|rfl|split)};{exact q0K ..};{repeat' (first|rfl|split)};{repeat' (first|rfl|split)};{repeat' (first|rfl|split)};{repeat' (first|rfl|exact q0n .. |split)};{rfl}
theorem LF {R:Type} (P:Program) (s:S) (t':TypeId) (eb:Nat) (e:Ty) (Y:V) (K:List C->Option R):Io P s t' eb e Y K=(Io P s t' eb e Y some).bind K:=by
 unfold Io
 repeat' (first|rfl|split)
def K3.run {R:Type} (K:K3 R) (r:RI):Option R:=K r.1 r.2.1 r.2.2
def ri:K3 RI:=fun v lo tn=>some (v,lo,tn)
theorem MU {α β γ:Type} (x:Option α) (f:α->Option β) (g:β->Option γ):(x.bind f).bind g=x.bind fun a=>(f a).bind g:=by cases x <;> rfl
theorem q0i {R:Type} (P:Program) (m dst:Nat) (s:S) (t t':TypeId) (x y:V) (K:K3 R):OY P m dst s t t' x y K=(OY P m dst s t t' x y ri).bind K.run:=by
 have key:∀eb e,(Io P s t' eb e y fun ys=>if m=3 then(if ys.isEmpty=false then K (.sr (.l dst) [] 0 ys.length none eb e) [(.l dst,.box (.d (.arr ys.length e) (.agg ys)))] []else none)else K (.sl eb e ys dst) [] [(dst,some ys.length)])=
   (Io P s t' eb e y fun ys=>if m=3 then(if ys.isEmpty=false then ri (.sr (.l dst) [] 0 ys.length none eb e) [(.l dst,.box (.d (.arr ys.length e) (.agg ys)))] []else none)else ri (.sl eb e ys dst) [] [(dst,some ys.length)]).bind K.run:=by
  intro eb e;rw[LF,LF P s t' eb e y (fun ys=>if m=3 then(if ys.isEmpty=false then ri _ _ _ else none)else ri _ _ _),MU];congr 1;funext ys
  repeat' (first|rfl|split)
 unfold OY;split;{split;{split;{exact key _ _};{exact key _ _};{rfl}};{rfl}};{rfl}
theorem kH {R:Type} (P:Program) (s:S) (T:TypeId) (k:Key) (K:V->Option R):RB P s T k K=(RB P s T k some).bind K:=by
 unfold RB
 repeat' (first|rfl|split)
theorem kI {R:Type} (τ:Ty) (c:C) (K:Option V->Option R) (es:List (C × V)):Oi τ es c K=(Oi τ es c some).bind K:=by unfold Oi;cases EF τ es <;> cases Ir es c <;> rfl
theorem q0t {R:Type} (X:Cx) (m dst:Nat) (o:Oper) (ρ:Operand->V) (s:S) (K:K3 R):ekI X m dst o ρ s K=(ekI X m dst o ρ s ri).bind K.run:=by
 have pv:∀op,Hb X.P op ρ (fun v=>K v [] [])=(Hb X.P op ρ fun v=>ri v [] []).bind K.run:=by intro op;rw[kK,kK X.P op ρ (fun v=>ri v [] []),MU];rfl
 unfold ekI;generalize o.op=op;split;{unfold YI;repeat' (first|rfl|split)};{repeat' (first|rfl|split)};{repeat' (first|rfl|split)};{repeat' (first|rfl|split)};{repeat' (first|rfl|split)};{repeat' (first|rfl|split)};{repeat' (first|rfl|split)};{split;{split;{split;{rw[kI,kI _ _ (fun r=>ri _ [] []),MU];rfl};{rfl}};{rfl}};{rfl}};{split;{rfl};{split;{exact q0i ..};{rfl}};{split;{split;{rw[kH,kH X.P s _ _ (fun v=>ri v [] []),MU];rfl};{exact pv _}};{exact pv _}};{exact pv _}};{split;{rfl};{exact pv _}};{exact pv _}
def rs:KS (V × S):=fun v s=>some (v,s)
def KS.run {R:Type} (K:KS R) (r:V × S):Option R:=K r.1 r.2
theorem gU {α R:Type} (b:Bool) (x:Option α) (f:α->Option R):(bif b then x.bind f else none)=(bif b then x else none).bind f:=by cases b <;> rfl
theorem q0P {R:Type} (X:Cx) (m dst:Nat) (o:Oper) (ρ:Operand->V) (s:S) (K:KS R):ekT X m dst o ρ s K=(ekT X m dst o ρ s rs).bind K.run:=by
 unfold ekT;split;{repeat' (first|rfl|exact gU _ (rs _ _) K.run|split)};{repeat' (first|rfl|exact gU _ (rs _ _) K.run|split)};{repeat' (first|rfl|split)};{repeat' (first|rfl|split)}
 ·split
  ·split
   ·split
    ·split
     ·split
      ·split
       ·rename_i b _;cases b;{rfl}
        ·simp only[cond_true];rw[LF,LF X.P s _ _ _ _ (fun ys=>if(_+ys.length)*_<=140737488355328/\_ then rs _ _ else none),MU];congr 1;funext ys
         repeat' (first|rfl|split)
       ·rfl
      ·rfl
     ·split
      ·split
       ·split
        ·split
         ·rw[LF,LF X.P s _ _ _ _ (fun ys=>if _/\_ then rs _ _ else none),MU];congr 1;funext ys
          repeat' (first|rfl|split)
         ·rfl
        ·rfl
       ·rfl
      ·rfl
     ·rfl
    ·rfl
   ·rfl
  ·split
   ·split
    ·split
     ·split
      ·split
       ·split;{split;{split;{split;{rw[LF,LF X.P s _ _ _ _ (fun ys=>rs _ _),MU];rfl};{rfl}};{rfl}};{rfl}};{rfl}
       ·rfl
      ·rfl
     ·rfl
    ·rfl
   ·rfl
  ·rfl
 ·rfl
theorem UF {X:Cx} {m dst:Nat} {o:Oper} {ρ:Operand->V} {s:S} {R:Type} {r:R} {Kr:K3 R} (h:ekI X m dst o ρ s Kr=some r):
  ∃v lo tn,Kr v lo tn=some r/\∀A',leA s.A A'->∀(md:List (Nat × Nat)) (base:S),Ck md dst=m->∀K:V->List (Key × O)->List (Nat × Option Nat)->Prop,K v lo tn->iop X md base dst o ρ (s.wA A') K:=by
 rw[q0t]at h;cases h1:ekI X m dst o ρ s ri with
 |none=>rw[h1]at h;cases h
 |some x=>
  obtain⟨v,lo,tn⟩:=x;rw[h1]at h;refine⟨v,lo,tn,h,fun A' hA md base hm K hK=>q0u hm hA h1 fun v' lo' tn' e=>?_⟩;simp only[ri,ee,fx]at e;obtain⟨rfl,rfl,rfl⟩:=e;exact hK
theorem YJ {X:Cx} {m dst:Nat} {o:Oper} {ρ:Operand->V} {s:S} {R:Type} {r:R} {Kr:KS R} (h:ekT X m dst o ρ s Kr=some r):
  ∃v s1,Kr v s1=some r/\∀A',leA s.A A'->∀(md:List (Nat × Nat)),Ck md dst=m->∀K:V->S->Prop,K v (s1.wA A')->top X md dst o ρ (s.wA A') K:=by
 rw[q0P]at h;cases h1:ekT X m dst o ρ s rs with
 |none=>rw[h1]at h;cases h
 |some x=>
  obtain⟨v,s1⟩:=x;rw[h1]at h;refine⟨v,s1,h,fun A' hA md hm K hK=>q0Q hm hA h1 fun v' s' e=>?_⟩;simp only[rs,ee,fx]at e;obtain⟨rfl,rfl⟩:=e;exact hK
abbrev Ed (R:Type):=FuncId->List V->(Key->Option O)->(V->List (Key × O)->Option R)->Option R
def JK (X:Cx) {R:Type} (call:Ed R):Prop:=∀f xs A Kr r,call f xs A Kr=some r->∃v L,Cc X f xs A v L/\Kr v L=some r
def Lg {R:Type} (tip:Bool) (s:S):List V->Option R->Option R
 | [],r=>r|x::xs,r=>match x with| .sl _ _ cs t=>bif tip then(match s.live t with|some m=>bif dc m cs.length then Lg tip s xs r else none|none=>Lg tip s xs r)else Lg tip s xs r|_=>Lg tip s xs r
def OD (P:Program) (tip:Bool) (s:S) (T:TypeId) (x:V):V:=
 match x with
 | .sl eb e cs t=>bif tip then(match s.live t with|some _=>.ts eb e cs|none=>.d (.slice eb e) (.slice cs))else .d (.slice eb e) (.slice cs)|x=>EG P tip s T x
def Td (P:Program) (tip:Bool) (s:S):List TypeId->List V->List V
 |T::Ts,x::xs=>OD P tip s T x::Td P tip s Ts xs|_,_=>[]
def OE (tip:Bool) (s:S) (x:V):Option (Option Nat):=
 match x with
 | .sl _ _ _ t=>bif tip then(match s.live t with|some _=>some (some t)|none=>none)else none|x=>Cy tip s x
def SH (tip:Bool) (s:S):List V->List Nat
 | []=>[]|x::xs=>(match OE tip s x with|some (some t)=>[t] |_=>[])++SH tip s xs
def S.WR (s:S) (tip:Bool) (ys:List V) (d:Nat) (v:V) (L:List (Key × O)):S:=HU d (v.tkR 2000) (Gq (SH tip s ys) (Gd d L s))
theorem Zz {R:Type} {P:Program} {tip:Bool} {s:S} {r0:Option R} {r:R}:∀{ys:List V},Lg tip s ys r0=some r->
  r0=some r/\SH tip s ys=DK tip s ys/\∀Ts,Td P tip s Ts ys=DN P tip s Ts ys
 | [],h=>⟨h,rfl,fun Ts=>by cases Ts <;> rfl⟩|x::xs,h=>by
  suffices hs:Lg tip s xs r0=some r/\OE tip s x=Cy tip s x/\∀T,OD P tip s T x=EG P tip s T x by
   obtain⟨h1,h2,h3⟩:=hs;obtain⟨g1,g2,g3⟩:=Zz (P:=P) h1;refine⟨g1,by simp only[SH,DK,h2,g2];rfl,fun Ts=>?_⟩;cases Ts with
   |nil=>rfl|cons T Ts=>simp only[Td,DN,h3,g3]
  unfold Lg at h;split at h
  ·rename_i eb e cs t;cases tip with
   |false=>exact⟨h,by simp[OE,Cy],fun T=>by simp[OD,EG]⟩|true=>
    simp only[cond_true]at h;split at h
    ·rename_i m hm;cases hb:dc m cs.length with
     |false=>rw[hb]at h;cases h
     |true=>
      rw[hb]at h;have:=eh hb;subst this;exact⟨h,by simp[OE,Cy,hm],fun T=>by simp[OD,EG,hm]⟩
    ·rename_i hm;exact⟨h,by simp[OE,Cy,hm],fun T=>by simp[OD,EG,hm]⟩
  ·rename_i hx;refine⟨h,?_,fun T=>?_⟩;{unfold OE;split;{exact absurd rfl (hx _ _ _ _)};{rfl}};{unfold OD;split;{exact absurd rfl (hx _ _ _ _)};{rfl}}
def Jz {R:Type} (X:Cx) (call:Ed R) (tip:Bool) (o:Oper) (ρ:Operand->V) (s:S) (K:V->List (Key × O)->Option R):Option R:=
 match o.op with
 | .call c=>(match c.callee with
  | .value fo=>(match ρ fo with
   | .fn f yh=>Lg tip s (Ev (c.args.toList.map ρ) yh) (if JP X.P f=true/\c.argTypes.toList.length=c.args.toList.length/\Gz (SH tip s (Ev (c.args.toList.map ρ) yh))=true then
      call f (Td X.P tip s (Jt c.argTypes.toList yh) (Ev (c.args.toList.map ρ) yh)) s.up K else none)
   |_=>none)
  |_=>none)
 |_=>none
theorem YE {X:Cx} {R:Type} {call:Ed R} (hc:JK X call) {dst:Nat} {o:Oper} {ρ:Operand->V} {base s B:S} (hB:B=base\/B=base.see s (Ff o ρ)) {r:R} {Kr:V->List (Key × O)->Option R} (h:Jz X call false o ρ B Kr=some r):
  ∃v L,Kr v L=some r/\∀A',leA B.A A'->∀(md:List (Nat × Nat)) (K:V->List (Key × O)->List (Nat × Option Nat)->Prop),(Hu L=true->K ((v.DV 2000).ren (dn dst) (rk dst)) (dnL dst L) (dnT dst (v.tkR 2000))->iop X md (base.wA A') dst o ρ (s.wA A') K)/\
   (Ck md dst=0->(∀k o,B.obj k=some o->s.obj k=some o)->leA s.A A'->Hg s dst L=true->JE s dst (v.tkR 2000)=true->∀K2:V->S->Prop,K2 ((v.DV 2000).ren (dn dst) (rk dst)) ((s.ret false (Ff o ρ) dst v L).wA A')->top X md dst o ρ (s.wA A') K2):=by
 unfold Jz at h;unfold Ff at hB ⊢;unfold iop top;generalize o.op=op at h hB ⊢;split at h
 ·dsimp only;split at h
  ·rename_i e0;simp only[e0]at hB ⊢;split at h
   ·rename_i e1;simp only[e1]at hB ⊢;obtain⟨h,n1,n2⟩:=Zz (P:=X.P) h;rw[n1,n2]at h;simp only[ba]at h;obtain⟨h1,h⟩:=h;obtain⟨v,L,hD,hr⟩:=hc _ _ _ _ _ h;refine⟨v,L,hr,fun A' hA md K=>⟨fun hl hK=>.inl ⟨h1.1,h1.2.1,B.wA A',v,L,hB.imp (congrArg (S.wA · A')) (congrArg (S.wA · A')),?_,hl,hK⟩,fun hm hb hA2 hg ht K2 hK=>?_⟩⟩;{rw[Te (s.wA A') B];exact hD.mono (eU hA)}
    ·have hm1:(Ck md dst==1)=false:=by rw[hm];rfl
     rw[hm1];refine⟨h1.1,h1.2.1,by rw[Vj];rfl,v,L,?_,Ud hA2 hg,dX ht,by rw[cU];exact hK⟩;rw[Te (s.wA A') B];refine hD.mono fun k x hk=>eU hA2 k x ?_;simp only[S.up,ei]at hk ⊢;obtain⟨y,h2,h3⟩:=hk;exact⟨y,hb _ _ h2,h3⟩
   ·cases h
  ·cases h
 ·cases h
theorem kE {X:Cx} {R:Type} {call:Ed R} (hc:JK X call) {tip:Bool} {dst:Nat} {o:Oper} {ρ:Operand->V} {s:S} {r:R} {Kr:V->List (Key × O)->Option R} (h:Jz X call tip o ρ s Kr=some r):
  ∃v L,Kr v L=some r/\s.WR tip (Ff o ρ) dst v L=s.ret tip (Ff o ρ) dst v L/\(Hg s dst L=true->JE s dst (v.tkR 2000)=true->∀A',leA s.A A'->∀md:List (Nat × Nat),(Ck md dst==1)=tip->∀K2:V->S->Prop,K2 ((v.DV 2000).ren (dn dst) (rk dst)) ((s.ret tip (Ff o ρ) dst v L).wA A')->top X md dst o ρ (s.wA A') K2):=by
 unfold Jz at h;unfold Ff;unfold top;generalize o.op=op at h ⊢;split at h;{dsimp only;split at h;{rename_i e0;simp only[e0];split at h;{rename_i e1;simp only[e1];obtain⟨h,n1,n2⟩:=Zz (P:=X.P) h;rw[n1,n2]at h;simp only[ba]at h;obtain⟨h1,h⟩:=h;obtain⟨v,L,hD,hr⟩:=hc _ _ _ _ _ h;refine⟨v,L,hr,by simp only[e0,S.WR,S.ret,n1],fun hg ht A' hA md hm K2 hK=>?_⟩;rw[hm];refine⟨h1.1,h1.2.1,by rw[bB];exact h1.2.2,v,L,?_,Ud hA hg,dX ht,by rw[cU];exact hK⟩;rw[gI];exact hD.mono (eU hA)};{cases h}};{cases h}};{cases h}
section
abbrev EU:=FuncId->Option (List V->Option V)
def Ig (X:Cx) (ext:EU):Prop:=∀f g xs v,ext f=some g->g xs=some v->Nu X f xs v
def RN (ext:EU) (o:Oper) (ρ:Operand->V):Option (Option V):=
 match o.op with
 | .call c=>(match c.callee with| .value fo=>(match ρ fo with| .fn f []=>(match ext f with|some g=>some (g (c.args.toList.map ρ))|none=>none)|_=>none)|_=>none)|_=>none
theorem lQ {X:Cx} {ext:EU} (he:Ig X ext) {md:List (Nat × Nat)} {dst:Nat} {o:Oper} {ρ:Operand->V} {s base:S} {v:V} (h:RN ext o ρ=some (some v)) {K:V->List (Key × O)->List (Nat × Option Nat)->Prop} (hK:K v [] []):
  iop X md base dst o ρ s K:=by
 unfold RN at h;unfold iop;generalize o.op=op at h ⊢;split at h;{dsimp only;split at h;{rename_i e0;simp only[e0];split at h;{rename_i e1;simp only[e1];split at h;{rename_i e2;exact .inr (.inl ⟨by first|rfl|trivial,_,he _ _ _ _ e2 (pc h),hK⟩)};{cases h}};{cases h}};{cases h}};{cases h}
def nR (m:Nat) (o:Oper) (ρ:Operand->V):Bool:=
 match o.op with
 | .store _ _ _| .mapUpdate _ _ _ _=>true| .load _ _=>dc m 1| .box _ x=> !(dc m 5)&& !(ρ x).BT| .call c=>(match c.callee,c.args.toList with| .builtin .copy,_=>true| .builtin .append,x::_=>(match ρ x with| .sl _ _ _ _=>true| .sr _ _ _ _ _ _ _=>true|_=>false)|_,_=>false)|_=>false
def q17 (o:Oper) (ρ:Operand->V):Bool:=
 match o.op with
 | .load _ x=>(match ρ x with| .yg _ _=>true|_=>false)| .convert _ _ x=>(match ρ x with| .sr _ _ _ _ _ _ _=>false|_=>true)| .alloc _| .box _ _| .makeSlice _ _ _| .makeMap _ _| .lookup _ _ _ _=>false| .call c=>(match c.callee,c.args.toList with| .builtin .append,_=>false| .builtin .copy,_=>false| .builtin .len,x::_=>(match ρ x with| .mp _=>false|_=>true)| .builtin _,_=>true|_,_=>false)|_=>true
def HQ (c:C) (b:Bool):C:=match c with| .bool _=>.bool b|c=>c
theorem q2V {c:C} {b:Bool} (h:c.toBool=b):HQ c b=c:=by cases c <;> first|rfl|(simp only[C.toBool]at h;subst h;rfl)
def S.lit (s:S) (t:Nat) (c:C) (b:Bool):S:={s with env:=Lu s.env t (.d .bool (HQ c b))}
theorem vF {α:Type}:∀{l:List (Nat × α)} {t:Nat} {x:α},look l t=some x->Lu l t x=l
 | [],t,x,h=>by simp[look]at h
 |(j,y)::l,t,x,h=>by simp only[look]at h;simp only[Lu];split;{rename_i e;rw[if_pos e]at h;cases h;rfl};{rename_i e;rw[if_neg e]at h;rw[vF h]}
theorem ZT {s:S} {t:Nat} {c:C} {b:Bool} (h:s.get t= .d .bool c) (hb:c.toBool=b):s.lit t c b=s:=by
 have:look s.env t=some (.d .bool c):=by
  unfold S.get at h;cases hl:look s.env t with
  |none=>rw[hl]at h;cases h
  |some x=>rw[hl]at h;simp at h;rw[h]
 rw[<-q2V hb]at this;simp only[S.lit,vF this]
def PC (ops:Array Oper) (j:Nat):Nat:=(Gv ops j).getD 0
def RZ {R:Type} (ops:Array Oper) (s:S) (j:Nat) (want:Bool) (go skip:S->Option R):Option R:=
 match gv ops s j with
 | .d .bool c=>(match want with|true=>bif c.toBool then go (s.lit (PC ops j) c true)else skip (s.lit (PC ops j) c false)|false=>bif c.toBool then skip (s.lit (PC ops j) c true)else go (s.lit (PC ops j) c false))| .tup []=>skip s|_=>none
theorem q1G {ops:Array Oper} {s:S} {j:Nat} {c:C} {b:Bool} (h:gv ops s j= .d .bool c) (hb:c.toBool=b):s.lit (PC ops j) c b=s:=by unfold gv at h;unfold PC;split at h;{cases h};{rename_i t e;rw[e];exact ZT h hb}
theorem Yq {R:Type} {ops:Array Oper} {s:S} {j:Nat} {want:Bool} {go skip:S->Option R} {r:R} (h:RZ ops s j want go skip=some r):(go s=some r/\∀p q:Prop,p->gx (gv ops s j) want p q)\/(skip s=some r/\∀p q:Prop,q->gx (gv ops s j) want p q):=by unfold RZ at h;unfold gx;split at h;{rename_i c hb;simp only[hb];cases hc:c.toBool <;> rw[hc]at h <;> cases want <;> simp only[cond_true,cond_false]at h <;> rw[q1G hb hc]at h;{exact .inl ⟨h,fun p q hp=>⟨fun _=>hp,fun h=>absurd rfl h⟩⟩};{exact .inr ⟨h,fun p q hq=>⟨fun h=>(by cases h),fun _=>hq⟩⟩};{exact .inr ⟨h,fun p q hq=>⟨fun h=>(by cases h),fun _=>hq⟩⟩};{exact .inl ⟨h,fun p q hp=>⟨fun _=>hp,fun h=>absurd rfl h⟩⟩}};{rename_i hb;simp only[hb];exact .inr ⟨h,fun p q hq=>hq⟩};{cases h}
theorem pG (s:S) (A':Key->Option O) (x:V):Da (s.wA A') x=Da s x:=by unfold Da;split;{split;{rw[KR]};{rfl}};{rfl}
theorem ZS (A':Key->Option O):∀(js:List Nat) (s:S),EY js (s.wA A')=(EY js s).wA A'
 | [],_=>rfl|j::l,s=>by simp only[EY];rw[<-ZS A' l];congr 1;rw[KR];split;{split <;> rfl};{rfl}
def UG {R:Type} (X:Cx) (call:Ed R) (o:Oper) (ρ:Operand->V) (s:S) (K:V->Option R):Option R:=
 match o.op with
 | .call c=>(match c.callee with
  | .value fo=>(match ρ fo with
   | .fn f yh=>(match yh with
    | []=>if JP X.P f=true/\Gm (c.args.toList.map fun y=>Gg s (ρ y))=true then
      call f (c.args.toList.map fun y=>Gg s (ρ y)) (fun _=>none) (fun v L=>if L.isEmpty=true/\v.EK=true then K v else none)else none
    |_=>none)
   |_=>none)
  |_=>none)
 |_=>none
theorem dU {s:S} {A':Key->Option O} (hA:leA s.A A'):∀(f:Nat) {x:V} {τ:Ty} {c:C},GN f s x= .d τ c->GN f (s.wA A') x= .d τ c
 |0,_,_,_,h=>by cases h
 |f+1,x,τ,c,h=>by
  have ih:∀(xs:List V) (cs:List C),Eh (xs.map (GN f s))=some cs->Eh (xs.map (GN f (s.wA A')))=some cs:=by
   intro xs
   induction xs with
   |nil=>exact fun _ h=>h|cons x xs ih=>
    intro cs h;simp only[dt,Eh]at h ⊢;rcases wW s f x with e|⟨τ,c,e⟩;{rw[e]at h;simp[Cm]at h};{rw[dU hA f e];rw[e]at h;cases e2:Eh (xs.map (GN f s))with|none=>rw[e2]at h;simp[Cm]at h|some cs'=>rw[e2]at h;rw[ih _ e2];exact h}
  cases x <;> (try exact h)
  case agg τ0 xs=>
   simp only[GN]at h ⊢;split at h;{rename_i cs hcs;rw[ih _ _ hcs];exact h};{cases h}
  case sr k q lo n cp eb e=>
   simp only[GN]at h ⊢;split at h;{rename_i y ho;rw[Dv hA ho];dsimp only;split at h;{rename_i e2;rw[dU hA f e2];exact h};{cases h}};{cases h}
theorem q7M {s:S} {A':Key->Option O} (hA:leA s.A A') {x:V} {τ:Ty} {c:C} (h:Gg s x= .d τ c):Gg (s.wA A') x= .d τ c:=dU hA _ h
theorem wX {s:S} {A':Key->Option O} (hA:leA s.A A'):∀{l:List V},Gm (l.map (Gg s))=true->l.map (Gg (s.wA A'))=l.map (Gg s)
 | [],_=>rfl|x::l,h=>by simp only[dt,Gm,bg]at h;simp only[dt];rw[wX hA h.2];congr 1;cases hs:Gg s x <;> rw[hs]at h <;> simp at h;exact q7M hA hs
theorem kM {X:Cx} {R:Type} {call:Ed R} (hc:JK X call) {o:Oper} {ρ:Operand->V} {s:S} {r:R} {Kr:V->Option R} (h:UG X call o ρ s Kr=some r):
  ∃v,Kr v=some r/\∀A',leA s.A A'->∀(md:List (Nat × Nat)) (base:S) (dst:Nat) (K:V->List (Key × O)->List (Nat × Option Nat)->Prop),K v [] []->iop X md base dst o ρ (s.wA A') K:=by
 unfold UG at h;unfold iop;generalize o.op=op at h ⊢;split at h
 ·dsimp only;split at h
  ·rename_i c _ fo e0;simp only[e0];split at h
   ·rename_i f yh e1;simp only[e1];split at h
    ·simp only[ba]at h;obtain⟨⟨h1,h2⟩,h⟩:=h;obtain⟨v,L,hD,hr⟩:=hc _ _ _ _ _ h;simp only[ba]at hr;obtain⟨⟨h3,h4⟩,hr⟩:=hr;have hL:L=[]:=by simpa using h3
     subst hL;refine⟨v,hr,fun A' hA md base dst K hK=>.inr (.inr ⟨by first|rfl|trivial,h1,v,?_⟩)⟩;have e:(c.args.toList.map fun y=>Gg (s.wA A') (ρ y))=c.args.toList.map fun y=>Gg s (ρ y):=by
      have h2':Gm ((c.args.toList.map ρ).map (Gg s))=true:=by rw[px];exact h2
      have:=wX (A':=A') hA h2';rw[px,px]at this;exact this
     rw[e];exact⟨h2,hD,h4,hK⟩
    ·cases h
   ·cases h
  ·cases h
 ·cases h
def nM (o:Oper) (ρ:Operand->V):Bool:=
 match o.op with
 | .makeInterface _ _=>true| .binOp _ _ _ y _=>LN y| .convert _ dst x=>(match ρ x with| .d τ _=>(match τ with| .str=> !(dc dst 0)&&true|_=>false)|_=>false)|_=>false
def UE {R:Type} (X:Cx) (o:Oper) (ρ:Operand->V) (K:V->Option R) (other:Option R):Option R:=
 match o.op with
 | .convert src dst x=>(match Js X.P src dst (ρ x)with|some ys=>K (.d (.slice 1 (.int .u8)) (.slice ys))|none=>other)| .makeInterface T _=>if Ql X.P T=true then K (.d .iface (.bool true))else none| .binOp op T x y _=>if LN y=true/\ty X.P T= .iface then(match op,ρ x with| .eql,.d .iface c=>K (.d .bool (.bool c.isNil))| .neq,.d .iface c=>K (.d .bool (.bool (!c.isNil)))|_,_=>none)else none|_=>none
theorem kF {R:Type} {X:Cx} {o:Oper} {ρ:Operand->V} {r:R} {Kr:V->Option R} {other:Option R} (h:UE X o ρ Kr other=some r):
  (∃v,Kr v=some r/\∀K:V->Prop,K v->fop X o ρ K)\/other=some r:=by
 unfold UE at h;unfold fop;generalize o.op=op at h ⊢;split at h;{dsimp only;split at h;{rename_i e0;simp only[e0];exact .inl ⟨_,h,fun K hK=>hK⟩};{exact .inr h}};{simp only[ba]at h;exact .inl ⟨_,h.2,fun K hK=>⟨h.1,hK⟩⟩};{simp only[ba]at h;obtain⟨h1,h⟩:=h;split at h;{rename_i e0;simp only[e0];exact .inl ⟨_,h,fun K hK=>⟨h1.1,h1.2,hK⟩⟩};{rename_i e0;simp only[e0];exact .inl ⟨_,h,fun K hK=>⟨h1.1,h1.2,hK⟩⟩};{cases h}};{cases h}
def ZA (m:Nat) (o:Oper):Bool:=
 match o.op with
 | .slice _ _ _ _ _=>dc m 4| .convert _ _ _=>dc m 9|_=>false
def YH {R:Type} (X:Cx) (dst:Nat) (o:Oper) (ρ:Operand->V) (s:S) (K:KS R):Option R:=
 match o.op with
 | .slice T x lo hi mx=>if s.known dst=false/\hi.isSome=true/\mx.isSome=true then(match ty X.P T with| .slice eb e=>(match(ρ x).Fe with|some (eb',e',cs)=>(match Cv (lo.map ρ) 0,Cv (hi.map ρ) 0,Cv (mx.map ρ) 0 with|some l,some h,some m=>if eb'=eb/\e'=e/\l=0 then(if 0<=h/\h=m/\m<=cs.length then K (.sl eb e (cs.take h.toNat) dst) {s with tk:=(dst,some (cs.take h.toNat).length)::s.tk} else none)else none|_,_,_=>none)|none=>none)|_=>none)else none| .convert src z6O x=>if(s.obj (.l dst)).isNone=true then(match Js X.P src z6O (ρ x)with|some ys=>K (.sr (.l dst) [] 0 ys.length none 1 (.int .u8)) {s with loc:=(.l dst,.box (.d (.arr ys.length (.int .u8)) (.agg ys)))::s.loc}|none=>none)else none|_=>none
theorem q0I {R:Type} {X:Cx} {dst:Nat} {o:Oper} {ρ:Operand->V} {s:S} {r:R} {Kr:KS R} {m:Nat} (hm0:ZA m o=true) (h:YH X dst o ρ s Kr=some r):
  ∃v s1,Kr v s1=some r/\∀A',∀md:List (Nat × Nat),Ck md dst=m->∀K:V->S->Prop,K v (s1.wA A')->sl3 X md dst o ρ (s.wA A') K:=by
 unfold ZA at hm0;unfold YH at h;unfold sl3;generalize o.op=op at h hm0 ⊢;split at h;{simp only[ba]at h;obtain⟨h1,h⟩:=h;have hm4:=eh hm0;subst hm4;dsimp only;split at h;{rename_i e0;simp only[e0];split at h;{rename_i e1;simp only[e1];split at h;{rename_i e2 e3 e4;simp only[e2,e3,e4];simp only[ba]at h;obtain⟨h2,h3,h⟩:=h;exact⟨_,_,h,fun A' md hm K hK=>⟨hm,h1.1,h1.2.1,h1.2.2,h2.1,h2.2.1,h2.2.2,h3.1,h3.2.1,h3.2.2,hK⟩⟩};{cases h}};{cases h}};{cases h}};{simp only[ba]at h;obtain⟨h1,h⟩:=h;have hm4:=eh hm0;subst hm4;dsimp only;split at h;{rename_i ys e0;refine⟨_,_,h,fun A' md hm K hK=>⟨hm,by rw[KR];simpa using h1,?_⟩⟩;rw[e0];exact hK};{cases h}};{cases h}
def Om {R:Type} (X:Cx) (call:Ed R) (ext:EU) (m:Nat) (o:Oper) (ρ:Operand->V) (s:S) (K:KS R):Option R:=
 if Yz o=true then
  (match RN ext o ρ with
  |some r=>(match r with|some v=>if m=0 then K v s else none|none=>none)|none=>if dc m 8=true then UG X call o ρ s (fun v=>K v s)else Jz X call (m==1) o ρ s fun v L=>if Hg s (Ae o) L=true/\JE s (Ae o) (v.tkR 2000)=true then K ((v.DV 2000).ren (dn (Ae o)) (rk (Ae o))) (s.WR (m==1) (Ff o ρ) (Ae o) v L)else none)
 else if nR m o ρ=true then ekT X m (Ae o) o ρ s K
 else ekI X m (Ae o) o ρ s fun v lo tn=>if dc m 1=false/\Fl s lo=true/\LJ s tn=true then K v (s.add lo tn)else none
def RK {R:Type} (X:Cx) (call:Ed R) (ext:EU) (m:Nat) (o:Oper) (s:S) (K:KS R):Option R:=
 if dc m 100=true then Om X call ext 0 o (fun y=>Da s (Aj X.gl s y)) (EY (Gw (o.op.operands.toList.map (Aj X.gl s))) s) K
 else if ZA m o=true then YH X (Ae o) o (Aj X.gl s) s K
 else if nM o (Aj X.gl s)=true then UE X o (Aj X.gl s) (fun v=>K v s) (Om X call ext m o (Aj X.gl s) s K)
 else Om X call ext m o (Aj X.gl s) s K
section
variable {X:Cx} {R:Type} {call:Ed R} {ext:EU} (hc:JK X call) (he:Ig X ext)
include hc he
theorem kN {m:Nat} {o:Oper} {ρ:Operand->V} {s:S} {Kr:KS R} {r:R} (h:Om X call ext m o ρ s Kr=some r):
  ∃v s1,Kr v s1=some r/\∀A',leA s.A A'->∀md:List (Nat × Nat),Ck md (Ae o)=m->∀K:V->S->Prop,K v (s1.wA A')->
   (m≠1/\iop X md (s.wA A') (Ae o) o ρ (s.wA A') (fun v lo tn=>GC (s.wA A') lo/\GD (s.wA A') tn/\K v ((s.wA A').add lo tn)))\/top X md (Ae o) o ρ (s.wA A') K:=by
 unfold Om at h;split at h;{split at h;{rename_i x e0;split at h;{simp only[ba]at h;obtain⟨h1,h⟩:=h;exact⟨_,_,h,fun A' hA md hm K hK=>.inl ⟨by rw[h1];decide,lQ he e0 ⟨trivial,trivial,hK⟩⟩⟩};{cases h}};{split at h;{rename_i hm8;have hm8:m=8:=eh hm8;obtain⟨v,h1,h2⟩:=kM hc h;exact⟨_,_,h1,fun A' hA md hm K hK=>.inl ⟨by rw[hm8];decide,h2 A' hA md _ _ _ ⟨trivial,trivial,hK⟩⟩⟩};obtain⟨v,L,h1,hq,h2⟩:=kE (dst:=Ae o) hc h;rw[hq]at h1;simp only[ba]at h1;obtain⟨⟨h3,h4⟩,h1⟩:=h1;exact⟨_,_,h1,fun A' hA md hm K hK=>.inr (h2 h3 h4 A' hA md (by rw[hm]) K hK)⟩}};{split at h;{obtain⟨v,s1,h1,h2⟩:=YJ h;exact⟨v,s1,h1,fun A' hA md hm K hK=>.inr (h2 A' hA md hm K hK)⟩};{obtain⟨v,lo,tn,h1,h2⟩:=UF h;simp only[ba]at h1;obtain⟨⟨h3,h4,h5⟩,h1⟩:=h1;refine⟨v,_,h1,fun A' hA md hm K hK=>.inl ⟨?_,h2 A' hA md _ hm _ ⟨RX h4,RY h5,hK⟩⟩⟩;intro e;subst e;simp at h3}}
theorem q0M {m:Nat} {o:Oper} {s:S} {Kr:KS R} {r:R} (h:RK X call ext m o s Kr=some r):
  ∃v s1,Kr v s1=some r/\∀A',leA s.A A'->∀md:List (Nat × Nat),Ck md (Ae o)=m->∀K:V->S->Prop,K v (s1.wA A')->sop X md (Ae o) o (s.wA A') K:=by
 unfold RK at h;split at h
 ·rename_i z7v;have z7v:m=100:=eh z7v;obtain⟨v,s1,h1,h2⟩:=kN hc he h;refine⟨v,s1,h1,fun A' hA md hm K hK=>.inl ⟨by rw[hm,z7v],?_⟩⟩;have hA2:leA (EY (Gw (o.op.operands.toList.map (Aj X.gl s))) s).A A':=by rw[(Rj _ s).2];exact hA
  have:=h2 A' hA2 [] rfl K hK;unfold qI;simp only[Fi,pG,ZS];exact this.imp (fun h=>h.2) id
 ·have normal:Om X call ext m o (Aj X.gl s) s Kr=some r->∃v s1,Kr v s1=some r/\∀A',leA s.A A'->∀md:List (Nat × Nat),Ck md (Ae o)=m->∀K:V->S->Prop,K v (s1.wA A')->sop X md (Ae o) o (s.wA A') K:=by intro h;obtain⟨v,s1,h1,h2⟩:=kN hc he h;refine⟨v,s1,h1,fun A' hA md hm K hK=>.inr ?_⟩;have:=h2 A' hA md hm K hK;simp only[Fi];rw[hm];exact this.imp id .inl
  split at h;{rename_i hsl;obtain⟨v,s1,h1,h2⟩:=q0I hsl h;refine⟨v,s1,h1,fun A' hA md hm K hK=>.inr (.inr (.inr (.inr ?_)))⟩;rw[Fi];exact h2 A' md hm K hK};{split at h;{rcases kF h with⟨v,h1,h2⟩|h;{refine⟨v,s,h1,fun A' hA md hm K hK=>.inr (.inr (.inr ?_))⟩;rw[Fi];exact .inl (h2 _ hK)};{exact normal h}};{exact normal h}}
end
end
end Go.E
