/-
 A framework for runs of Go code over abstract data: what it needs, and that it is sound, part 6.
 Conditions: none.
-/
import Derived.Test.YtpemdagggddcfaaGreatDoorEe
import Derived.ProofKit
import Derived.LaidMore
import Derived.OpenShut
import Derived.Stop.Joined
import Derived.ChangeStays
import Derived.Deep.DeepHandedRow
import Derived.Lib.LaidTab
import Derived.LoopN
set_option linter.all false
set_option maxRecDepth 100000
set_option maxHeartbeats 4000000
open Bool renaming and_eq_true->bz,false_eq_true->fk,not_eq_true'->jg
open Go.Addr renaming add->na
open Go.DataW renaming TrodAll->ka,trod->kc,weights->oa,weightsAll->pd,weightsEach->lh
open Go.DataW.TrodAll renaming lt->qx
open Go.E.G renaming part->uo
open Go.E.S renaming obj->jo
open Go.E.V renaming sites->rq
open Go.Op renaming bytesLess->kv
open Go.Value renaming okWide->sj
open Go.World renaming cell?->lp,sameAt->vt
open List renaming all_cons->vq,all_eq_true->eh,cons_append->nf,getElem?_eq_getElem->cr,getElem?_eq_some_iff->cq,getElem?_map->dy,getElem?_range->iq,getElem?_take->fl,mapM_cons->sn,map_cons->ek,map_map->nu,mem_of_getElem?->fp,mem_range->gw,nil_append->jm,range->gq,zipWith->jr
open Nat renaming beq->di,eq_of_beq_eq_true->fa
open Option renaming bind_eq_some_iff->lu,bind_some->gu,ite_none_right_eq_some->bt,map_eq_some_iff->fb,map_map->qo,map_some->gr
open Option.some renaming inj->ng,injEq->eu
open Prod.mk renaming injEq->gb
namespace Go.E
open Go
theorem q6Y {X:Cx} {n:Nat} {s s':S} {Γ0 Γ:G} {a:Act} {w:World} (g1:GLe Γ0 Γ) (g3:Γ.gl=X.gl) (c:AJ Γ w s) (hs:Fm Γ s a.tmps) (hn:a.tmps.size=n) (hf:a.defers=[]) (xq:AOk s.A) (hA:s'.A=s.A) (yw:Fc s s'.loc) (zh:FC (CB s'.loc) (Ct s'.tk) s'.loc=true) (hg:IE s'.loc s.A s.loc)
  (htk:tkW s s'.tk) (xy:HX (CB s'.loc) (Ct s'.tk) s s'.env):GLe Γ0 (Γ.part (CB s'.loc) (Ct s'.tk))/\(Γ.part (CB s'.loc) (Ct s'.tk)).gl=X.gl/\AJ (Γ.part (CB s'.loc) (Ct s'.tk)) w s'/\Fm (Γ.part (CB s'.loc) (Ct s'.tk)) s' a.tmps/\a.tmps.size=n/\a.defers=[]/\AOk s'.A:=by
 have sub:Sub Γ (Γ.part (CB s'.loc) (Ct s'.tk)) (CB s'.loc) (Ct s'.tk):=
  ⟨rfl,rfl,rfl,rfl,rfl,fun _=>rfl,fun n h=>by simp[uo,h],fun t h=>by simp[uo,h],fun _ _ _ _ _=>rfl⟩
 refine⟨⟨g1.H,g1.Z,g1.ZH,g1.g,g1.gl,g1.oo,g1.σ,g1.gn⟩,g3,c.sub sub rfl (fun n h=>by simp[uo,h]) hA xq yw zh hg (fun b o sz h=>⟨o,h,fun _ h=>h⟩) (fun t L h=>?_) (fun t h=>?_),fun i=>?_,hn,hf,by rw[hA];exact xq⟩
 ·unfold S.live Ds at h;cases hl:look s'.tk t with
  |none=>simp[hl]at h|some x=>
   cases x with
   |none=>simp[hl]at h|some M=>
    simp[hl]at h;subst h;have yt:s.live t=some M:=dH htk hl;obtain⟨x,a1,a2⟩:=c.tok t M yt;exact⟨x,by simp[uo,Ct,hl,a1],fun b pos sz hx=>a2 b pos sz hx⟩
 ·cases hh:Ct s'.tk t with|true=>exact hh|false=>simp[uo,hh]at h
 ·cases hl:look s'.env i with
  |none=>simp[S.get,hl,AE]|some x=>
   obtain⟨e1,e2,e3⟩:=Xq xy hl;have yu:s'.get i=x:=by simp[S.get,hl]
   rw[yu];by_cases hx:x= .any;{subst hx;trivial}
   ·have hr:=hs i;have e3:=e3.resolve_left hx;refine AE.sub sub e2 ?_;cases hsi:s.get i with
    |any=>
     rw[hsi]at e1;cases x <;> simp[V.BR,CQ]at e1 hx
    |tup us=>
     rw[hsi]at e1 hr;cases x <;> simp[V.BR,CQ]at e1 hx;subst e1;exact hr
    |_=>
     rw[hsi]at e1 hr e3;have hpl:AA Γ none [] _ (a.tmps.getD i undef).cells.toList/\_:=hr;obtain⟨r1,r2⟩:=AA.BR x _ e1 hpl.1;have hxp:=V.Rn r1 hx;exact(Bz hxp).2 ⟨r1,by rw[e3];exact hpl.2⟩
theorem q7j {X:Cx} {n:Nat} {s s':S} {t j:Nat} {τ:Ty} {x:V} {cc:C} (z4e:s.get t= .ptr (.l j) [] τ) (xa:s.obj (.l j)=some (.box x)) (hcl:CQ x=some cc) (hτ:x.ty=τ) (hj:CB s'.loc j=false)
  (hA:s'.A=s.A) (yw:Fc s s'.loc) (zh:FC (CB s'.loc) (Ct s'.tk) s'.loc=true) (hg:IE s'.loc s.A s.loc)
  (htk:tkW s s'.tk) (xy:HX (CB s'.loc) (Ct s'.tk) s s'.env):Dd X n s (s'.set (some t) (.wq τ cc)):=by
 rintro Γ0 a w ⟨Γ,g1,g3,c,hs,hn,hf,xq⟩;obtain⟨p1,p2,p3,p4,p5,p6,p7⟩:=q6Y (X:=X) (n:=n) (s':=s') g1 g3 c hs hn hf xq hA yw zh hg htk xy;have hst:=hs t;rw[z4e]at hst;obtain⟨b,τ0,off,e1,i2,hv⟩:=GI hst;obtain⟨b2,cells,T,i1,e2,e3,e4,e5,e6,e7,e8⟩:=c.own e1 xa;obtain⟨fr0,e4,xn⟩:=e4;rw[e1]at i1;cases i1;simp only[Ty.walk,eu,gb]at i2;obtain⟨rfl,_⟩:=i2;have hdl:∀k o,s'.obj k=some o->s.Bq k=true->o.Ea=true:=by
  intro k o ho hd;unfold jo CY at ho;cases hl:AK s'.loc k with
  |some o1=>
   rw[hl]at ho;cases ho;obtain⟨o0,h1,h2⟩:=UX yw hl;rw[Ed h1]at hd;exact O.mS h2 hd
  |none=>
   cases k with
   |l n=>rw[hl]at ho;cases ho
   |g k=>
    have:=Ux hA hg hl;unfold S.Bq at hd;rw[<-this]at hd;have h2:jo s' (.g k)=some o:=by unfold jo CY;exact ho
    rw[h2]at hd;exact hd
 have hno:∀k τ o,(Γ.part (CB s'.loc) (Ct s'.tk)).ι k=some (b,τ)->s'.obj k=some o->o.Ea=true:=by
  intro k τ' o hk hko;have hk':Γ.ι k=some (b,τ')/\k≠.l j:=by
   cases k with
   |g k=>exact⟨hk,by simp⟩|l m=>
    simp only[uo]at hk;split at hk;{rename_i hm;refine⟨hk,fun e=>?_⟩;cases e;rw[hj]at hm;cases hm};{cases hk}
  rcases c.inj k (.l j) b _ _ hk'.1 e1 with e|⟨e|e,_⟩;{exact absurd e hk'.2};{exact hdl k o hko e};{rw[Ed xa]at e;cases e}
 obtain⟨q1,q2,q3⟩:=p3.freeze e4 e2 hno;have hrc:AH Γ.H x.ty (chunk cells.toList 0 x.ty.size) cc:=KR _ e6 hcl;refine⟨_,⟨Hp.le_trans p1.H q3,p1.Z,fun b' hb'=>?_,p1.g,p1.gl,p1.oo,p1.σ,p1.gn⟩,p2,PU q1 _ _,fun i=>?_,p5,p6,p7⟩;{refine(Eh _ _ fun e=>?_).trans (p1.ZH b' hb');subst e;exact hb' (by rw[<-g1.Z];exact e3)};{rw[Jk];split;{rename_i e;cases e;rw[hv];refine MN (l:=cells.toList) (Cz _ _ _) (by rw[<-hτ];simpa using e5) ?_;rw[<-hτ];exact hrc.mono q3};{exact(p4 i).Bd q2}}
theorem C.q2E:∀(cs:List C) (n:Nat),cs.length=n->cs=(gq n).map fun i=>cs.getD i .nil:=by intro cs n h;subst h;refine List.ext_getElem (by simp) fun i h1 h2=>?_;simp[cr h1]
theorem C.WI {sz:Nat} {os:List Nat} {fs:List Ty} {c:C} (h:C.wf (.struct sz os fs) c): .agg ((gq fs.length).map c.get)=c:=by simp only[C.wf]at h;obtain⟨h1,h2⟩:=h;have hl:=C.xX h2;rw[h1];congr 1;rw[<-hl];exact(C.q2E c.elems _ rfl).symm
section
open Go Go.ChangeShapes Go.WideShapes
def Gm (w:World):Hp:=fun b=>match w.heap[b]? with|some (.cells c _ _)=>some c.toList|_=>none
theorem Ya {w:World} {a:Addr} {v:Value} (h:w.cell? a=some v):∃l,Gm w a.block=some l/\l[a.off]? =some v/\a.spot=none:=by unfold lp at h;unfold Gm;split at h;{rename_i c _ _ hc;split at h;{cases h};{rename_i hs;refine⟨c.toList,by simp[hc],by simpa using h,?_⟩;cases hh:a.spot <;> simp_all}};{cases h}
mutual
def Ty.dat:Ty->Bool
 | .int _| .bool| .str=>true| .slice _ e=>e.dat&&decide (0<e.size)| .arr _ e=>e.dat&&decide (0<e.size)| .struct sz os fs=>Ty.Pl fs&&decide (os.length=fs.length)&&(gq sz).all fun i=>(gq fs.length).any fun j=>match os[j]?,fs[j]? with|some o,some f=>decide (o<=i)&&decide (i<o+f.size)|_,_=>false
 |_=>false
def Ty.Pl:List Ty->Bool
 | []=>true|f::fs=>f.dat&&Ty.Pl fs
end
theorem iB:∀{fs:List Ty} {i:Nat} {f:Ty},Ty.Pl fs=true->fs[i]? =some f->f.dat=true
 | [],_,_,_,h=>by simp at h
 |g::fs,0,f,hd,h=>by simp[Ty.Pl]at hd h;rw[<-h];exact hd.1
 |g::fs,i+1,f,hd,h=>by simp[Ty.Pl]at hd;exact iB hd.2 (by simpa using h)
theorem OA {α β:Type} {f:α->Option β}:∀{l:List α} {r:List β},l.mapM f=some r->∀i:Nat,l[i]?.bind f=r[i]?
 | [],r,h,i=>by simp at h;subst h;simp
 |x::l,r,h,i=>by
  rw[sn]at h;cases hx:f x with
  |none=>simp[hx]at h|some y=>
   cases hl:l.mapM f with
   |none=>simp[hx,hl]at h|some ys=>
    simp[hx,hl]at h;subst h;cases i with
    |zero=>simp[hx]|succ i=>simpa using OA hl i
theorem Qu {α β:Type} {f:α->Option β}:∀{l:List α} {r:List β},l.mapM f=some r->r.length=l.length
 | [],r,h=>by simp at h;subst h;rfl
 |x::l,r,h=>by
  rw[sn]at h;cases hx:f x with
  |none=>simp[hx]at h|some y=>
   cases hl:l.mapM f with
   |none=>simp[hx,hl]at h|some ys=>
    simp[hx,hl]at h;subst h;simp[Qu hl]
theorem gG {w:World} {base:Nat} {a:Addr} {n:Nat} {cs:List Value} (h:w.cells? base a n=some cs) (hn:0<n):
  ∃l,Gm w a.block=some l/\a.spot=none/\a.off+n<=l.length/\cs=chunk l a.off n:=by
 unfold World.cells? at h;split at h
 ·have hl:=Qu h;simp at hl;have hg:=OA h;have h0:=hg 0;cases hc:cs[0]? with
  |none=>simp at hc;subst hc;simp at hl;omega|some v0=>
   rw[hc]at h0;simp[iq hn]at h0;have e0:a.add 0=a:=by simp[na]
   rw[e0]at h0;obtain⟨l,h1,h2,h3⟩:=Ya h0;refine⟨l,h1,h3,?_,?_⟩
   ·have z23:=hg (n-1);cases hc':cs[n-1]? with
    |none=>simp at hc';omega|some v1=>
     rw[hc']at z23;simp[iq (show n-1<n by omega)]at z23;obtain⟨l',g1,g2,_⟩:=Ya z23;have eb:(a.add (n-1)).block=a.block:=by unfold na;split <;> rfl
     have eo:(a.add (n-1)).off=a.off+(n-1):=by unfold na;split <;> simp_all
     rw[eb,h1]at g1;cases g1;rw[eo]at g2;have:=(cq.1 g2).1;omega
   ·apply List.ext_getElem?;intro i;by_cases hi:i<n
    ·have:=hg i;simp[iq hi]at this;cases hc':cs[i]? with
     |none=>simp at hc';omega|some v1=>
      rw[hc']at this;obtain⟨l',g1,g2,_⟩:=Ya this;have eb:(a.add i).block=a.block:=by unfold na;split <;> rfl
      have eo:(a.add i).off=a.off+i:=by unfold na;split <;> simp_all
      rw[eb,h1]at g1;cases g1;rw[eo]at g2;simp[chunk,fl,hi,g2]
    ·rw[List.getElem?_eq_none (by omega)];simp[chunk,fl,hi]
 ·cases h
theorem PH {a b:List Nat} (h:(a++b).all (·<=reachBytes)=true):a.all (·<=reachBytes)=true/\b.all (·<=reachBytes)=true:=by simpa[List.all_append]using h
theorem dX {H:Type} {P:Program} {e:TypeId}:∀{l:List (DataW H)} {i:Nat} {d:DataW H},l[i]? =some d->(pd P e l).all (·<=reachBytes)=true->(d.weights P e).all (·<=reachBytes)=true
 | [],i,d,h,_=>by simp at h
 |x::l,0,d,h,hw=>by simp at h;subst h;simp only[pd]at hw;exact(PH hw).1
 |x::l,i+1,d,h,hw=>by simp only[pd]at hw;exact dX (by simpa using h) (PH hw).2
theorem dY {H:Type} {P:Program}:∀{ts:List TypeId} {l:List (DataW H)} {i:Nat} {t:TypeId} {d:DataW H},ts[i]? =some t->l[i]? =some d->(lh P ts l).all (·<=reachBytes)=true->(d.weights P t).all (·<=reachBytes)=true
 | [],_,i,t,d,h,_,_=>by simp at h
 |_::_,[],i,t,d,_,h,_=>by simp at h
 |t::ts,x::l,0,t',d,ht,h,hw=>by simp at ht h;subst ht;subst h;simp only[lh]at hw;exact(PH hw).1
 |t::ts,x::l,i+1,t',d,ht,h,hw=>by simp only[lh]at hw;exact dY (by simpa using ht) (by simpa using h) (PH hw).2
theorem rY {vs:List Value} (h:∀i:Nat,i<vs.length->∃o m,o<=i/\i<o+m/\DQ (chunk vs o m)):DQ vs:=by intro v hv;obtain⟨i,hi,rfl⟩:=List.getElem_of_mem hv;obtain⟨o,m,h1,h2,h3⟩:=h i hi;refine h3 _ ?_;refine fp (i:=i-o) ?_;simp only[chunk,fl,List.getElem?_drop];rw[if_pos (by omega),show o+(i-o)=i by omega,cr hi]
mutual
def cOf {H:Type}:DataW H->C
 | .lit (.bool b)=>.bool b| .lit (.int _ n)=>.int n| .lit (.string l)=>.str l| .nil=>.slice []| .slice es _=>.slice (Ip es)| .agg ps=>.agg (Ip ps)|_=>.nil
def Ip {H:Type}:List (DataW H)->List C
 | []=>[]|d::ds=>cOf d::Ip ds
end
theorem TA {H:Type}:∀{ds:List (DataW H)} {i:Nat},(Ip ds)[i]? =(ds[i]?).map cOf
 | [],i=>by simp[Ip]
 |d::ds,0=>by simp[Ip]
 |d::ds,i+1=>by simp[Ip,TA]
theorem TB {H:Type}:∀{ds:List (DataW H)},(Ip ds).length=ds.length
 | []=>rfl|d::ds=>by simp[Ip,TB]
section
variable {H:Type} {enc:TypeId × Value->H} {P:Program} {w:World}
theorem SC (hP:BH P=true) {base:Nat} {held:Bool} {sp:Nat->Bool} (hsp:∀b,sp b=true):∀(fuel f:Nat) {t:TypeId} {cs:List Value} {d:DataW H} {ps:List MemPlace},t<P.types.size->(tyF P f t).dat=true->
  kc enc P w base sp held fuel t cs=some (d,ps)->(d.weights P t).all (·<=reachBytes)=true->AH (Gm w) (tyF P f t) cs (cOf d)
 |0,f,t,cs,d,ps,_,_,h,_=>by simp[kc]at h
 |fuel+1,0,t,cs,d,ps,_,hf,h,_=>by simp[tyF,Ty.dat]at hf
 |fuel+1,f+1,t,cs,d,ps,ht,hf,h,hw=>by
  have hok:=IX hP ht;unfold okT at hok;unfold tyF at hf ⊢;rw[if_pos ht]at hf ⊢;cases hu:P.underlying t with
  |none=>simp[hu,Ty.dat]at hf|some desc=>
   simp only[hu]at hf hok ⊢;cases desc with
   |bool=>
    unfold kc at h;simp only[hu]at h;split at h <;> simp_all;rw[<-h.1];simp[AH,cOf]
   |int k=>
    unfold kc at h;simp only[hu]at h;split at h <;> simp_all;obtain⟨⟨rfl,hh⟩,hd,_⟩:=h;simp[Lit.wf]at hh;rw[<-hd];simp[AH,cOf];omega
   |string=>
    unfold kc at h;simp only[hu]at h;split at h <;> simp_all;obtain⟨hh,rfl,_⟩:=h;simp[oa,reachBytes]at hw;simp only[AH,cOf];exact⟨_,rfl,by simp,by simp;omega⟩
   |slice e=>
    simp only[Ty.dat,bz,decide_eq_true_eq]at hf;simp only[bz,beq_iff_eq,decide_eq_true_eq]at hok;have hsz:(tyF P f e).size=P.cellsOf e:=DH hP f e;unfold kc at h;simp only[hu]at h;split at h <;> try (simp_all;done)
    ·simp only[eu,gb]at h;rw[<-h.1];simp only[AH,cOf];exact⟨none,0,0,[],rfl,rfl,rfl,Nat.le_refl _,by simp[maxLen],by simp,.inl rfl⟩
    ·rename_i e' a len cap he;simp at he;subst he;split at h
     ·rename_i hc;simp only[lu,fb]at h;obtain⟨elems,he1,rest,he2,he3⟩:=h;simp only[gb]at he3;obtain⟨rfl,_⟩:=he3;simp only[oa,hu,vq,bz,decide_eq_true_eq]at hw;obtain⟨hw1,hw2⟩:=hw;obtain⟨hw2,hw3⟩:=PH hw2;have hl:=Qu he1;simp at hl;have hbound:len*P.bytesOf e<=140737488355328:=by have:len*P.bytesOf e<=(elems.length+rest.length)*P.bytesOf e:=Nat.mul_le_mul_right _ (by omega);simp[reachBytes]at hw1;omega
      by_cases hz:len=0
      ·subst hz;have:elems=[]:=by cases elems <;> simp_all
       subst this;simp only[AH,cOf,List.map_nil,Ip];exact⟨some a,0,cap,[],rfl,rfl,rfl,Nat.zero_le _,hc.2.2,by simp,.inl rfl⟩
      ·have key:∀i,i<len->∃l,Gm w a.block=some l/\a.spot=none/\(a.off+i*P.cellsOf e)+P.cellsOf e<=l.length/\∀x,elems[i]? =some x->AH (Gm w) (tyF P f e) (chunk l (a.off+i*P.cellsOf e) (P.cellsOf e)) (cOf x.1):=by
        intro i hi;have hg:=OA he1 i;rw[iq hi]at hg;have hi':i<elems.length:=by omega
        rw[cr hi']at hg;simp only[gu,lu]at hg;obtain⟨cs,hc1,hc2⟩:=hg;obtain⟨l,q1,q2,q3,q4⟩:=gG hc1 (by rw[<-hsz];exact hf.2);have eb:(a.add (i*P.cellsOf e)).block=a.block:=by unfold na;split <;> rfl
        have eo:(a.add (i*P.cellsOf e)).off=a.off+i*P.cellsOf e:=by unfold na;split <;> simp_all
        have h0:a.spot=none:=by have hg0:=OA he1 0;rw[iq (by omega),cr (by omega)]at hg0;simp only[gu,lu]at hg0;obtain⟨cs0,z4F,_⟩:=hg0;obtain⟨_,_,q,_⟩:=gG z4F (by rw[<-hsz];exact hf.2);simpa[na]using q
        rw[eb]at q1;rw[eo]at q3 q4;subst q4;have hcr:=SC hP hsp fuel f hok.2 hf.1 hc2 (dX (i:=i) (by simp[dy,cr hi']) hw2);exact⟨l,q1,h0,q3,fun x hx=>by rw[cr hi']at hx;cases hx;exact hcr⟩
       obtain⟨l,hl1,hl2,_,_⟩:=key 0 (by omega);simp only[AH,cOf];refine⟨some a,len,cap,_,rfl,rfl,by simp[TB,hl],hc.2.1,hc.2.2,hbound,.inr ⟨a.block,a.off,l,?_,hl1,?_,fun i c hi=>?_⟩⟩;{cases a;simp_all}
       ·rw[hsz];obtain⟨l',q1,_,q3,_⟩:=key (len-1) (by omega);rw[hl1]at q1;cases q1;have:len*P.cellsOf e=(len-1)*P.cellsOf e+P.cellsOf e:=by rw[<-Nat.succ_mul];congr 1;omega
        omega
       ·simp only[TA,dy,qo,fb]at hi;obtain⟨x,hx,rfl⟩:=hi;have hi':i<len:=by have:=(cq.1 hx).1;omega
        rw[hsz];obtain⟨l',q1,_,_,q4⟩:=key i hi';rw[hl1]at q1;cases q1;exact q4 x hx
     ·cases h
   |array n e=>
    simp only[Ty.dat,bz,decide_eq_true_eq]at hf;simp only[bz,beq_iff_eq,decide_eq_true_eq]at hok;have hsz:(tyF P f e).size=P.cellsOf e:=DH hP f e;unfold kc at h;simp only[hu]at h;split at h
    ·rename_i hlen;simp only[fb]at h;obtain⟨elems,he1,he3⟩:=h;simp only[gb]at he3;obtain⟨rfl,_⟩:=he3;simp only[oa,hu]at hw;have hl:=Qu he1;simp at hl;have key:∀i x,elems[i]? =some x->AH (Gm w) (tyF P f e) (chunk cs (i*P.cellsOf e) (P.cellsOf e)) (cOf x.1):=by
      intro i x hx;have hg:=OA he1 i;have hi:i<n:=by have:=(cq.1 hx).1;omega
      rw[iq hi,hx]at hg;simp only[gu]at hg;exact SC hP hsp fuel f hok.2 hf.1 hg (dX (i:=i) (by simp[dy,hx]) hw)
     simp only[AH,cOf];refine⟨_,rfl,by simp[TB,hl],by rw[hsz,hlen,hok.1],rY fun i hi=>?_,fun i c hi=>?_⟩
     ·have hi2:i / P.cellsOf e<n:=by rw[Nat.div_lt_iff_lt_mul (by omega)];omega
      have hc:=key (i / P.cellsOf e) _ (cr (by omega));refine⟨_,_,?_,?_,hc.one⟩;{exact Nat.div_mul_le_self _ _};{have:=Nat.lt_div_mul_add (a:=i) (b:=P.cellsOf e) (by omega);omega}
     ·simp only[TA,dy,qo,fb]at hi;obtain⟨x,hx,rfl⟩:=hi;rw[hsz];exact key i x hx
    ·cases h
   |struct fs=>
    simp only[Ty.dat,bz,decide_eq_true_eq,eh,List.any_eq_true,gw]at hf;simp only[eh,bz,decide_eq_true_eq]at hok;obtain⟨⟨hf1,hf2⟩,hf3⟩:=hf;unfold kc at h;simp only[hu]at h;split at h
    ·rename_i hlen;simp only[fb]at h;obtain⟨elems,he1,he3⟩:=h;simp only[gb]at he3;obtain⟨rfl,_⟩:=he3;simp only[oa,hu]at hw;have hl:=Qu he1;have key:∀(i:Nat) g x,fs.toList[i]? =some g->elems[i]? =some x->AH (Gm w) (tyF P f g.type) (chunk cs g.offset (P.cellsOf g.type)) (cOf x.1):=by
      intro i g x hi he;have hg:=OA he1 i;rw[hi,he]at hg;simp only[gu]at hg
      exact SC hP hsp fuel f (hok g (fp hi)).1 (iB (i:=i) hf1 (by simp only[dy,hi,gr])) hg
        (dY (i:=i) (by simp only[dy,hi,gr]) (by simp only[dy,he,gr]) hw)
     simp only[AH,cOf];refine⟨_,rfl,hlen,rY fun i hi=>?_,Bk.Ku (by simp[TB,hl]) fun i F c hF hc=>?_⟩;{obtain⟨j,hj,hj2⟩:=hf3 i (by omega);split at hj2;{rename_i o F ho hF;simp at hj2;simp only[dy,fb]at ho hF;obtain⟨g,hg,rfl⟩:=ho;obtain⟨g',hg',rfl⟩:=hF;rw[hg]at hg';cases hg';have hjl:=(cq.1 hg).1;have hc:=key j g _ hg (cr (by omega));rw[DH hP]at hj2;exact⟨_,_,hj2.1,hj2.2,hc.one⟩};{cases hj2}};{simp only[dy,TA,qo,fb]at hF hc;obtain⟨g,hg,rfl⟩:=hF;obtain⟨x,hx,rfl⟩:=hc;refine⟨g.offset,by simp only[dy,hg,gr],?_,?_⟩;{rw[DH hP,hlen];exact(hok g (fp hg)).2};{rw[DH hP];exact key i g x hg hx}}
    ·cases h
   |_=>simp[Ty.dat]at hf
end
end
section
open Go Go.ChangeShapes Go.WideShapes Go.RowKit
def cH (P:Program):Bool:=(gq P.types.size).all fun t=>match P.underlying t with|some (.slice e)=>decide (0<P.cellsOf e)|_=>true
def Ml (w:World) (gl:Nat->Option (Ty × C)):Prop:=∀g τ c,gl g=some (τ,c)->∃l,Gm w g=some l/\τ.size<=l.length/\AH (Gm w) τ (chunk l 0 τ.size) c
def QW (P:Program):List (String × DataW Unit)->Nat->Option (Ty × C)
 | [],_=>none|(n,d)::r,g=>if P.globalNamed n=some g then(match(P.globals[g]?).map (·.type)with|some t=>some (ty P t,cOf d)|none=>none)else QW P r g
def UH (P:Program) (l:List (String × DataW Unit)):Bool:=l.all fun x=>match P.globalNamed x.1 with
 |some g=>match(P.globals[g]?).map (·.type)with|some t=>decide (t<P.types.size)&&(ty P t).dat&&(x.2.weights P t).all (·<=reachBytes)|none=>false
 |none=>false
theorem lZ {P:Program} (hP:BH P=true) {w:World}:∀{l:List (String × DataW Unit)} {ps:List MemPlace},UH P l=true->DataW.LaidVars P w l ps->Ml w (QW P l)
 | [],_,_,_=>fun g τ c h=>by simp[QW]at h
 |(n,d)::r,ps,hk,h=>by
  obtain⟨g0,t,cs,fuel,p,q,hg,ht,hv,hd,hr,_⟩:=h;simp only[UH,vq,bz,hg,ht,decide_eq_true_eq]at hk;obtain⟨⟨⟨k1,k2⟩,k3⟩,k4⟩:=hk;intro g τ c h;simp only[QW]at h;split at h
  ·rename_i e;rw[hg]at e;cases e;rw[ht]at h;simp at h;obtain⟨rfl,rfl⟩:=h;have xf:=SC hP (fun _=>rfl) fuel 12 k1 k2 hd k3;simp only[World.var?,hg,gu]at hv;split at hv
   ·rename_i c T fr hc;cases hv;have hl:=xf.length;refine⟨cs.toList,by simp[Gm,hc],by show(tyF P 12 t).size<=_;omega,?_⟩;have:chunk cs.toList 0 (ty P t).size=cs.toList:=by show chunk cs.toList 0 (tyF P 12 t).size=_;rw[<-hl];exact Lc _
    rw[this];exact xf
   ·cases hv
  ·exact lZ hP k4 hr g τ c h
theorem q1d {P:Program} (hP:BH P=true) {w:World} {l:List (String × DataW Unit)} (hk:UH P l=true) (hn:(l.all fun x=>x.2.handleName?.isNone)=true) (h:laidMetH P l w):Ml w (QW P l):=by rw[MakeChecks.laidMetH_plain _ _ _ hn]at h;obtain⟨ps,h1,_⟩:=h;exact lZ hP hk h1
def G.start (w:World) (gl:Nat->Option (Ty × C)):G:=
 {H:=Gm w,Z:=fun b=>w.heap[b]?,ι:=fun _=>none,τ:=fun _=>none,κ:=fun _=>none,gl:=gl,oo:=oof w,σ:=fun _=>none}
theorem qY (n:Nat):∀(ts:List Ty) (cs:List C),Fk n (jr V.d ts cs)=[]
 | [],_=>by simp[Fk]
 |_::_,[]=>by simp[Fk]
 |t::ts,c::cs=>by simp[Fk,V.Dc,qY (n+1) ts cs]
theorem vZ (n:Nat):∀(ts:List Ty) (cs:List C),Cy n (jr V.d ts cs)=jr V.d ts cs
 | [],_=>by simp[Cy]
 |_::_,[]=>by simp[Cy]
 |t::ts,c::cs=>by simp[Cy,V.slot,vZ (n+1) ts cs]
theorem j3 {w:World} {gl:Nat->Option (Ty × C)} (h:Ml w gl) (ts:List Ty) (cs:List C):AJ (G.start w gl) w (S.start (jr V.d ts cs) fun _=>none):=by refine⟨fun b l hb=>?_,fun b o hb=>hb,fun b o sz hb=>by simp[G.start]at hb,fun k o hk=>?_,fun k hk=>absurd rfl hk,fun k k' b τ τ' hk=>by simp[G.start]at hk,fun t L ht=>?_,fun t ht=>absurd rfl ht,h,rfl,fun b sz hb=>by simp[G.start]at hb⟩;{simp only[G.start,Gm]at hb;split at hb;{rename_i c T fr hc;cases hb;exact⟨c,T,fr,[],hc,by simp⟩};{cases hb}};{cases k <;> simp[S.start,jo,CY,AK]at hk};{simp[S.start,S.live,qY,Ds,look]at ht}
theorem dJ {H:Type} {enc:TypeId × Value->H} {P:Program} {w:World} {base:Nat} {sp:Nat->Bool} {held:Bool}:∀{ts:List TypeId} {vs:List Value} {ds:List (DataW H)} {ps:List MemPlace},
  ka enc P w base sp held ts vs ds ps->vs.length=ts.length/\ds.length=ts.length
 | [],vs,ds,ps,h=>by obtain⟨rfl,rfl,rfl⟩:=trodAll_nil h;simp
 |t::ts,vs,ds,ps,h=>by obtain⟨v,vs,d,ds,p,q,rfl,rfl,rfl,h1,h2⟩:=trodAll_cons h;have:=dJ h2;simp[this]
theorem xB {H:Type} {enc:TypeId × Value->H} {P:Program} {w:World} {base:Nat} {sp:Nat->Bool} {held:Bool}:∀{ts:List TypeId} {vs:List Value} {ds:List (DataW H)} {ps:List MemPlace} {i:Nat} {t:TypeId} {v:Value} {d:DataW H},
  ka enc P w base sp held ts vs ds ps->ts[i]? =some t->vs[i]? =some v->ds[i]? =some d->∃p,DataW.Trod enc P w base sp held t v d p
 | [],vs,ds,ps,i,t,v,d,h,ht,_,_=>by simp at ht
 |t::ts,vs,ds,ps,i,t',v',d',h,ht,hv,hd=>by
  obtain⟨v,vs,d,ds,p,q,rfl,rfl,rfl,h1,h2⟩:=trodAll_cons h;cases i with
  |zero=>simp at ht hv hd;subst ht;subst hv;subst hd;exact⟨p,h1⟩|succ i=>exact xB h2 (by simpa using ht) (by simpa using hv) (by simpa using hd)
theorem xC {H:Type} {enc:TypeId × Value->H} {P:Program} (hl:laidOutB P=true) (hm:mapsRowed P=true) (hz:cH P=true) {w w':World} (hh:∀b,b<w.heap.size->w'.heap[b]? =w.heap[b]?) {sp:Nat->Bool}:
  ∀{ts:List TypeId} {vs:List Value} {ds:List (DataW H)} {ps:List MemPlace},(∀t∈ts,t<P.types.size)->ka enc P w 0 (fun _=>true) true ts vs ds ps->(∀p∈ps,sp p.block=true)->ka enc P w' 0 sp true ts vs ds ps
 | [],vs,ds,ps,_,h,_=>by obtain⟨rfl,rfl,rfl⟩:=trodAll_nil h;exact trodAll_mk0
 |t::ts,vs,ds,ps,hts,h,hs=>by
  have hlt:=qx h;obtain⟨v,vs,d,ds,p,q,rfl,rfl,rfl,⟨n,h1⟩,h2⟩:=trodAll_cons h
  refine⟨p,q,⟨n,DataW.trod_stays (kids_rows hl hm) (fun{t e} ht hu=>?_) (fun h=>by cases h) (hts t (by simp)) h1 (fun x hx=>?_) (fun x hx=>hs x (by simp[hx]))⟩,
   xC hl hm hz hh (fun t ht=>hts t (by simp[ht])) h2 (fun x hx=>hs x (by simp[hx])),rfl⟩
  ·have:=eh.1 hz t (gw.2 ht);simp only[hu]at this;simpa using this
  ·have:=hlt x (by simp;exact .inl hx);cases x with|cell b off=>simp only[vt,lp];rw[hh b this]|map b=>simp only[vt];rw[hh b this]
theorem q4l {P:Program} {W:World} {base:Nat} {t:TypeId} {v:Value} (hd:(ty P t).dat=true) (h:sj P W .any base t v):Bb v=(ty P t).isAgg:=by
 unfold ty tyF at hd ⊢;split at hd
 ·rename_i ht;rw[if_pos ht];unfold sj at h;cases hu:P.underlying t with
  |none=>simp[hu,Ty.dat]at hd|some d=>
   rw[hu]at h;cases d <;> simp only[hu,Ty.dat,Ty.isAgg,fk]at hd h ⊢
   case struct=>obtain⟨cs,rfl,_⟩:=h;rfl
   case array=>obtain⟨cs,rfl,_⟩:=h;rfl
   all_goals
    unfold Cell.okWide at h;rw[hu]at h;cases v <;> simp[Cell.ok,hu]at h <;> rfl
 ·simp[Ty.dat]at hd
section
variable {H:Type} {enc:TypeId × Value->H} {P:Program}
theorem q2v (hP:BH P=true) (hl:laidOutB P=true) (hm:mapsRowed P=true) (hz:cH P=true) {f:FuncId} {fn:Func} {s:ChangeSpec} {W:World} {base:Nat} {args:Array Value} {ds gs:List (DataW H)} {before:List MemPlace} {apart fresh handsOn again:Bool}
  (hp:fn.params.toList.all (fun t=>decide (t<P.types.size)&&(ty P t).dat)=true) {tb:TypeId} (hr:fn.resultTypes=#[tb]) (hb:P.underlying tb=some .bool) (z24:s.vars=[])
  (z3s:∀(j:Nat) t v,fn.params[j]? =some t->args[j]? =some v->sj P W .any base t v)
  (hW:DataW.Whole enc P fn.params.toList s.vars apart W args.toList ds gs before)
  (hwt:(lh P fn.params.toList ds).all (·<=reachBytes)=true) {gl:Nat->Option (Ty × C)} (hgl:Ml W gl)
  (hfr:(s.fn H (ds++gs)).results=[.lit (.bool true)]) (hfa:(s.fn H (ds++gs)).args=ds) (hfv:(s.fn H (ds++gs)).vars=[])
  (law:Bn ⟨P,gl⟩ f (jr V.d (fn.params.toList.map (ty P)) (ds.map cOf)) (fun _=>none) (.d .bool (.bool true)) []):
  Calls P f args W fun e W'=>∃v,e= .returned v/\s.post enc P fn apart fresh handsOn again W args v W':=by
 have hW':=hW;obtain⟨p,q,hA,hV,rfl,hfz,hnd⟩:=hW;rw[z24]at hV;obtain⟨rfl,rfl⟩:=trodVars_none hV;have z3D:=dJ hA;have z3W:∀t∈fn.params.toList,t<P.types.size/\(ty P t).dat=true:=by intro t ht;have:=eh.1 hp t ht;simpa using this
 refine(law (fun _=>none) (G.start W gl) W args (fun _ _ h=>h) rfl ⟨j3 hgl _ _,fun _ _ h=>nomatch h⟩ ?_ ?_).mono ?_;{simp only[List.length_zipWith,List.length_map,z3D.2];have:=z3D.1;simp at this ⊢;omega}
 ·intro i x u hx hu;rw[vZ,List.getElem?_zipWith]at hx;split at hx
  ·rename_i τ c hτ hc;cases hx;simp only[dy,fb]at hτ hc;obtain⟨t,ht,rfl⟩:=hτ;obtain⟨d,hd,rfl⟩:=hc;have hu':args.toList[i]? =some u:=by simpa using hu
   obtain⟨ps,fuel,htr⟩:=xB hA ht hu' hd;have hm:=z3W t (fp ht);have hv:=z3s i t u (by simpa using ht) hu;refine(Bz rfl).2 ⟨?_,?_⟩;{simp only[AA];exact SC hP (fun _=>rfl) fuel 12 hm.1 hm.2 htr (dY ht hd hwt)};{simp only[V.ty];exact q4l hm.2 hv}
  ·cases hx
 ·rintro e W' ⟨u,Γ',rfl,gle,c',hu⟩;have hu':u= .bool true:=(FP hu).1;subst hu';refine⟨_,rfl,?_⟩;have hold:∀b,b<W.heap.size->W'.heap[b]? =W.heap[b]?:=by
   intro b hb;have:Γ'.Z b=some W.heap[b]:=by rw[gle.Z];simp[G.start,hb]
   rw[c'.hZ b _ this];simp[hb]
  have hoo:oof W'=oof W:=by rw[c'.hoo,gle.oo];rfl
  have hpl:∀t∈fn.params.toList,t<P.types.size:=fun t ht=>(z3W t ht).1;have z3X:∀x∈p,x.block<W.heap.size:=qx hA;have zq:∀(b:Nat) (sp:Nat->Bool) (hd:Bool),ka enc P W' b sp hd fn.resultTypes.toList ((Value.bool true).resultList fn.resultTypes.size) [.lit (.bool true)] []:=by intro b sp hd;rw[hr];exact trodAll_mk1 (shut_bool hb _)
  have z3E:∀sp:Nat->Bool,(∀x∈p,sp x.block=true)->ka enc P W' 0 sp true fn.params.toList args.toList ds p:=fun sp hs=>xC hl hm hz hold hpl hA hs;refine⟨ds,[],p++[],[],p,[],hW',?_,?_,?_,?_,fun _=>⟨?_,[.lit (.bool true)]++ds,[],([]++p)++[],⟨[]++p,[],trodAll_append (z3E _ (fun _ _=>rfl)) (zq _ _ _),by rw[z24];rfl,rfl,?_,?_⟩,?_⟩⟩;{rw[hfr];exact zq _ _ _};{rw[hfa];exact z3E _ (fun x hx=>by simpa using z3X x hx)};{rw[hfv,z24];rfl};{refine⟨congrArg Prod.fst hoo,congrArg Prod.snd hoo,fun i hi=>?_⟩;rw[hold i hi];cases hc:W.heap[i]? with|none=>rfl|some o=>cases o <;> simp}
  ·intro j t r hj hrr;rw[hr]at hj hrr;cases j with
   |zero=>
    simp at hj;subst hj;have:r= .bool true:=by simpa[Value.resultList]using hrr.symm
    subst this;exact okWide_bool_mk hb _
   |succ j=>simp at hj
  ·intro b off hx;have hx':MemPlace.cell b off∈p:=by simpa using hx
   have:=hfz b off (by simpa using hx');unfold World.frozen? at this ⊢;rw[hold b (z3X _ hx')];exact this
  ·intro ha;simpa using hnd ha
  ·intro x hx _;simpa using hx
end
end
def TV {α:Type}:List (Nat × α)->Nat->List (Nat × α)
 | [],_=>[]|(j,x)::l,i=>if j=i then TV l i else(j,x)::TV l i
def TU {α:Type}:List (Key × α)->Key->List (Key × α)
 | [],_=>[]|(j,x)::l,i=>if j=i then TU l i else(j,x)::TU l i
def S.less (s:S) (t j:Nat):S:=⟨TV s.env t,TU s.loc (.l j),s.A,s.tk⟩
attribute [go_sem] TV TU S.less
section
section
variable {X:Cx} {md:List (Nat × Nat)} {ops:Array Oper} {Φ:S->Prop} {rest:List Oper} {ts:List Nat} {o:Oper} {base s:S}
end
end
def ZT:Nat->List Nat->Bool
 |_,[]=>false|i,j::l=>if i=j then true else ZT i l
def Yf {α:Type}:List (Nat × α)->List Nat->List (Nat × α)
 | [],_=>[]|(j,x)::l,ks=>if ZT j ks then(j,x)::Yf l ks else Yf l ks
attribute [go_sem] ZT Yf
mutual
def C.beq:C->C->Bool
 | .int a,.int b=>decide (a=b)| .bool a,.bool b=>a==b| .str a,.str b=>decide (a=b)| .agg a,.agg b=>C.GQ a b| .slice a,.slice b=>C.GQ a b| .nil,.nil=>true|_,_=>false
def C.GQ:List C->List C->Bool
 | [],[]=>true|x::xs,y::ys=>C.beq x y&&C.GQ xs ys|_,_=>false
end
mutual
theorem C.beq_iff:∀(a b:C),C.beq a b=true↔a=b
 | .int a,b=>by cases b <;> simp[C.beq]
 | .bool a,b=>by cases b <;> simp[C.beq]
 | .str a,b=>by cases b <;> simp[C.beq]
 | .agg a,b=>by cases b <;> simp[C.beq,C.Mx a]
 | .slice a,b=>by cases b <;> simp[C.beq,C.Mx a]
 | .nil,b=>by cases b <;> simp[C.beq]
theorem C.Mx:∀(a b:List C),C.GQ a b=true↔a=b
 | [],b=>by cases b <;> simp[C.GQ]
 |x::xs,[]=>by simp[C.GQ]
 |x::xs,y::ys=>by simp[C.GQ,C.beq_iff x,C.Mx xs]
end
instance:DecidableEq C:=fun a b=>decidable_of_iff _ (C.beq_iff a b)
theorem C.Tf (a b:C):C.eqb a b=C.beq a b:=by rw[Bool.eq_iff_iff,C.Fx,C.beq_iff]
def V.isAny:V->Bool
 | .any=>true|_=>false
theorem V.Nr {x:V} (h:x.isAny=false):x≠.any:=by intro e;subst e;cases h
instance (k:IntKind) (x:V):Decidable (x.isInt k):=by unfold V.isInt;split <;> infer_instance
instance (x:V):Decidable x.isBool:=by unfold V.isBool;split <;> infer_instance
instance (x:V):Decidable x.isStr:=by unfold V.isStr;split <;> infer_instance
instance (x:V):Decidable x.Ez:=by unfold V.Ez;split <;> infer_instance
instance (τ:Ty) (x:V):Decidable (x.DI τ):=by unfold V.DI;split <;> infer_instance
def S.wA (s:S) (A:Key->Option O):S:={s with A:=A}
def leA (A A':Key->Option O):Prop:=∀k o,A k=some o->A' k=some o
theorem DT {s:S} {A':Key->Option O} (hA:leA s.A A') {k:Key} {o:O} (h:s.obj k=some o):(s.wA A').obj k=some o:=by
 simp only[jo,CY,S.wA]at h ⊢;cases hl:AK s.loc k with
 |some x=>rw[hl]at h;exact h|none=>
  rw[hl]at h;cases k with
  |l n=>cases h
  |g k=>exact hA _ _ h
theorem Jw (s:S) (A':Key->Option O) (n:Nat):(s.wA A').obj (.l n)=s.obj (.l n):=rfl
theorem Ep (gl:Nat->Option (Ty × C)) (s:S) (A':Key->Option O):Ae gl (s.wA A')=Ae gl s:=by funext y;cases y <;> rfl
theorem dR {s:S} {A':Key->Option O} (hA:leA s.A A'):leA s.up (s.wA A').up:=by intro k o h;simp only[S.up,fb]at h ⊢;obtain⟨x,h1,h2⟩:=h;exact⟨x,DT hA h1,h2⟩
theorem q2J (s:S) (A':Key->Option O) (t:Nat):(s.wA A').live t=s.live t:=rfl
theorem jU {s:S} {A':Key->Option O} (hA:leA s.A A') {x:V} {r:Nat × Ty × List C} (h:EP s x=some r):EP (s.wA A') x=some r:=by
 cases x <;> simp only[EP]at h ⊢ <;> try exact h
 split at h;{rename_i y hy;rw[DT hA hy];exact h};{cases h}
def Sz (τ:Ty):V->List (Nat × V)->Bool
 |_,[]=>true|x,(i,v)::rest=>(τ.child i).isSome&&decide ((CL (τ.get i) v).ty=τ.get i)&&(CL (τ.get i) v).plain&& !(x.at [i]).isAny&&Sz τ (x.setAt [i] (CL (τ.get i) v)) rest
theorem fZ {τ:Ty}:∀{l:List (Nat × V)} {x:V},Sz τ x l=true->Lb τ x l
 | [],_,_=>trivial|(i,v)::rest,x,h=>by simp only[Sz,bz,decide_eq_true_eq,jg]at h;exact⟨h.1.1.1.1,h.1.1.1.2,h.1.1.2,V.Nr h.1.2,fZ h.2⟩
abbrev RI:=V × List (Key × O) × List (Nat × Option Nat)
def Fg {α:Type}:List (C × α)->C->α->List (C × α)
 | [],c,v=>[(c,v)]|(k,u)::es,c,v=>if C.beq c k=true then(k,v)::es else(k,u)::Fg es c v
theorem tT {α:Type} (c:C) (v:α):∀(es:List (C × α)),Fg es c v=ER es c v
 | []=>rfl|(k,u)::es=>by simp only[Fg,ER,C.Tf,tT c v es]
theorem q6j {P:Program} {s:S} {A':Key->Option O} (hA:leA s.A A') {src dst:TypeId} {x:V} {ys:List C} (h:strOf P s src dst x=some ys):strOf P (s.wA A') src dst x=some ys:=by
 cases hel:EP s x with
 |some r=>
  rw[<-h];unfold strOf;rw[hel,jU hA hel]
 |none=>
  unfold strOf at h ⊢;rw[hel]at h;split at h;{split at h;{rename_i h0;rw[if_pos h0];split at h;{exact h};{cases h}};{cases h}};{cases h}
theorem q6i {P:Program} {s:S} {src dst:TypeId} {x:V} {ys:List C} {K:V->Prop} (h:strOf P s src dst x=some ys):¬MM P src dst x K:=by unfold strOf at h;split at h;{rename_i ht hd;unfold MM;rw[ht,hd];exact id};{cases h}
theorem UF (A':Key->Option O):∀(σ:List (Nat × List Nat)) (s:S),EH σ (s.wA A')=(EH σ s).wA A'
 | [],_=>rfl|(t,_)::σ,s=>by simp only[EH];exact UF A' σ (s.tok t none)
theorem tS (A':Key->Option O) (d:Nat):∀(L:List (Key × O)) (s:S),Ff d L (s.wA A')=(Ff d L s).wA A'
 | [],_=>rfl|(k,o)::L,s=>by simp only[Ff,tS A' d L s];rfl
theorem tU (A':Key->Option O) (d:Nat):∀(L:List (Nat × Option Nat)) (s:S),GY d L (s.wA A')=(GY d L s).wA A'
 | [],_=>rfl|(k,o)::L,s=>by simp only[GY,tU A' d L s];rfl
theorem iW (A':Key->Option O):∀(L:List Nat) (s:S),Ft L (s.wA A')=(Ft L s).wA A'
 | [],_=>rfl|t::L,s=>by simp only[Ft,iW A' L s];rfl
theorem zI (A':Key->Option O) (tip:Bool) (s:S) (x:V):Ce tip (s.wA A') x=Ce tip s x:=rfl
theorem bB (A':Key->Option O) (tip:Bool) (s:S):∀(ys:List V),Ck tip (s.wA A') ys=Ck tip s ys
 | []=>rfl|y::ys=>by simp only[Ck,bB A' tip s ys,zI]
theorem fF (A':Key->Option O) (P:Program) (tip:Bool) (s:S):∀(Ts:List TypeId) (ys:List V),Cr P tip (s.wA A') Ts ys=Cr P tip s Ts ys
 | [],_=>rfl|_::_,[]=>rfl|T::Ts,y::ys=>by simp only[Cr,fF A' P tip s Ts ys];rfl
theorem bQ (A':Key->Option O) (s:S) (tip:Bool) (ys:List V) (d:Nat) (v:V) (L:List (Key × O)):(s.wA A').ret tip ys d v L=(s.ret tip ys d v L).wA A':=by simp only[S.ret,bB,tS,iW,tU]
def Gl (s:S) (d:Nat):List (Key × O)->Bool
 | []=>true|(.g k,_)::L=>(s.obj k).isSome&&Gl s d L|(.l j,_)::L=>(s.obj (.l (rk d j))).isNone&&Gl s d L
theorem Tt {s:S} {A':Key->Option O} (hA:leA s.A A') {d:Nat}:∀{L:List (Key × O)},Gl s d L=true->gOk (s.wA A') d L
 | [],_=>trivial|(.g k,_)::L,h=>by simp only[Gl,bz]at h;obtain⟨o,ho⟩:=Option.isSome_iff_exists.1 h.1;exact⟨by rw[DT hA ho];rfl,Tt hA h.2⟩
 |(.l j,_)::L,h=>by simp only[Gl,bz]at h;exact⟨by rw[Jw];simpa using h.1,Tt hA h.2⟩
def Ii (s:S) (d:Nat):List (Nat × Option Nat)->Bool
 | []=>true|(m,_)::l=> !s.known (rk d m)&&Ii s d l
theorem cU {s:S} {A':Key->Option O} {d:Nat}:∀{L:List (Nat × Option Nat)},Ii s d L=true->tOk (s.wA A') d L
 | [],_=>trivial|(m,_)::L,h=>by simp only[Ii,bz,jg]at h;exact⟨h.1,cU h.2⟩
def Ev (s:S):List (Key × O)->Bool
 | []=>true|(.l n,_)::l=>(s.obj (.l n)).isNone&&Ev s l|(.g _,_)::_=>false
theorem QS {s:S} {A':Key->Option O}:∀{L:List (Key × O)},Ev s L=true->FH (s.wA A') L
 | [],_=>trivial|(.l n,_)::L,h=>by simp only[Ev,bz]at h;exact⟨by rw[Jw];simpa using h.1,QS h.2⟩
 |(.g _,_)::_,h=>by simp[Ev]at h
def Kb (s:S):List (Nat × Option Nat)->Bool
 | []=>true|(t,_)::l=> !s.known t&&Kb s l
theorem QT {s:S} {A':Key->Option O}:∀{L:List (Nat × Option Nat)},Kb s L=true->FI (s.wA A') L
 | [],_=>trivial|(t,_)::L,h=>by simp only[Kb,bz,jg]at h;exact⟨h.1,QT h.2⟩
abbrev KJ:=FuncId->List V->(Key->Option O)->Option (V × List (Key × O))
abbrev KL:=FuncId->List V->Option V
def Mi (X:Cx) (call:KJ):Prop:=∀f xs A v L,call f xs A=some (v,L)->Bn X f xs A v L
def Mk (X:Cx) (ext:KL):Prop:=∀f xs v,ext f xs=some v->Mj X f xs v
section
def q7C (ext:KL) (o:Oper) (ρ:Operand->V):Option V:=
 match o.op with
 | .call c=>(match c.callee with| .value fo=>(match ρ fo with| .fn f []=>ext f (c.args.toList.map ρ)|_=>none)|_=>none)|_=>none
def q7B (X:Cx) (call:KJ) (o:Oper) (ρ:Operand->V) (s:S):Option (V × List (Key × O)):=
 match o.op with
 | .call c=>(match c.callee with
  | .value fo=>(match ρ fo with
   | .fn f wx=>if Iq X.P f=true/\c.argTypes.toList.length=c.args.toList.length then
      call f (Cr X.P false s (JX c.argTypes.toList wx) (EK (c.args.toList.map ρ) wx)) s.up else none
   |_=>none)
  |_=>none)
 |_=>none
def Ej (o:Oper) (ρ:Operand->V):List V:=
 match o.op with
 | .call c=>(match c.callee with| .value fo=>(match ρ fo with| .fn _ wx=>EK (c.args.toList.map ρ) wx|_=>[])|_=>[])|_=>[]
def Sq:List Oper->List Nat
 | []=>[]|o::l=>(match o.op with| .call c=>(match c.callee,c.args.toList with| .builtin .append,(.tmp t)::_=>[t]|_,_=>[])|_=>[])++Sq l
def Qx:Nat->List Nat->Bool
 |_,[]=>false|i,j::l=>di i j||Qx i l
def Cj (wy:List Nat) (tbl:List (Nat × Nat)) (o:Oper) (ρ:Operand->V) (s:S):Nat:=
 match look tbl (Ab o)with
 |some m=>m
 |none=>(match o.op with| .load _ x=>if Qx (Ab o) wy=true then(match ρ x with| .ptr k q _=>(match s.obj k with|some (.box y)=>(match y.at q with| .ts _ _ _=>1|_=>0)|_=>0)|_=>0)else 0|_=>0)
def Yc (o:Oper):Bool:=
 match o.op with
 | .call c=>(match c.callee with| .value _=>true|_=>false)|_=>false
section
variable {X:Cx} {call:KJ} {ext:KL} (hc:Mi X call) (he:Mk X ext)
include hc he
end
theorem YW (ops:Array Oper) (s:S) (A':Key->Option O) (j:Nat):gv ops (s.wA A') j=gv ops s j:=by unfold gv;split <;> rfl
theorem Ig (s:S) (A':Key->Option O) (d:Option Nat) (v:V):(s.wA A').set d v=(s.set d v).wA A':=by cases d <;> rfl
theorem DB (s:S) (d:Option Nat) (v:V):(s.set d v).A=s.A:=by cases d <;> rfl
section
variable {X:Cx} {call:KJ} {ext:KL} (hc:Mi X call) (he:Mk X ext)
include hc he
end
end
section
def Kq {α β:Type} (l:List α) (l':List β):Bool:=l.isEmpty&&l'.isEmpty
inductive RD where
 |k0 (v:V)|k1 (v:V) (lo:List (Key × O)) (tn:List (Nat × Option Nat))|k2 (v:V) (s:S)
def RD.kind:RD->Nat
 | .k0 _=>0| .k1 _ _ _=>1| .k2 _ _=>2
def RD.post (s:S) (A':Key->Option O) (K0:V->Prop) (K1:V->List (Key × O)->List (Nat × Option Nat)->Prop) (K2:V->S->Prop):RD->Prop
 | .k0 v=>K0 v| .k1 v lo tn=>FH (s.wA A') lo->FI (s.wA A') tn->Ev s lo=true->K1 v lo tn| .k2 v s1=>K2 v (s1.wA A')
theorem Hl (s:S) (d:Option Nat) (v:V) (k:Key):(s.set d v).obj k=s.obj k:=by cases d <;> rfl
theorem Zv {s:S} {lo:List (Key × O)} {tn:List (Nat × Option Nat)} (h:Ev s lo=true) {k:Key} {o:O} (hk:s.obj k=some o):(s.add lo tn).obj k=some o:=by
 have key:∀{lo:List (Key × O)},Ev s lo=true->AK lo k=none:=by
  intro lo
  induction lo with
  |nil=>intro _;rfl|cons x lo ih=>
   obtain⟨j,y⟩:=x;cases j with
   |g j=>intro h;simp[Ev]at h|l n=>
    intro h;simp only[Ev,bz]at h;simp only[AK];rw[if_neg,ih h.2];intro e;rw[e,hk]at h;simp at h
 have e:=key h;simp only[jo,CY,S.add]at hk ⊢;rw[Kl,e];exact hk
section
variable {X:Cx} {call:KJ} {ext:KL} (hc:Mi X call) (he:Mk X ext)
include hc he
end
end
section
mutual
theorem V.Lt:∀(x:V),V.BR x x
 | .d _ _=>by simp[V.BR,CQ,V.ty]
 | .emp _ _=>.inl rfl| .agg _ vs=>⟨rfl,V.mU vs⟩| .any=>trivial| .sl _ _ _ _| .ts _ _ _| .wo| .ptr _ _ _| .wq _ _| .sr _ _ _ _ _ _ _| .mp _| .fn _ _| .tup _| .top _=>by simp[V.BR]
theorem V.mU:∀(xs:List V),V.FZ xs xs
 | []=>trivial|x::xs=>⟨V.Lt x,rfl,V.mU xs⟩
end
def O.Ye:O->Bool
 | .box y=>y.plain&&y.BN| .map _ _ _=>true| .it _ _| .dead _=>true
theorem O.Lt {o:O} (h:o.Ye=true):O.BR o o:=by
 cases o with
 |box y=>
  simp only[O.Ye,bz]at h;exact⟨V.Lt y,rfl,h.1,h.2⟩
 |map=>exact⟨rfl,rfl,rfl⟩|it=>exact⟨rfl,rfl⟩|dead=>exact(rfl:_=_)
mutual
def V.keys:V->List Nat
 | .ptr (.l k) _ _| .mp (.l k)| .sr (.l k) _ _ _ _ _ _=>[k]| .agg _ vs| .fn _ vs| .tup vs=>V.Jq vs|_=>[]
def V.Jq:List V->List Nat
 | []=>[]|x::xs=>x.keys++V.Jq xs
end
mutual
def V.wZ:V->List Nat
 | .sl _ _ _ t=>[t]| .agg _ vs| .fn _ vs| .tup vs=>V.xA vs|_=>[]
def V.xA:List V->List Nat
 | []=>[]|x::xs=>x.wZ++V.xA xs
end
def O.keys:O->List Nat
 | .box x=>x.keys| .map _ _ _=>[]| .it _ _| .dead _=>[]
def reach (loc:List (Key × O)):Nat->List Nat->List Nat->List Nat
 |0,_,acc=>acc|_,[],acc=>acc|f+1,k::ks,acc=>if Qx k acc=true then reach loc f ks acc else match AK loc (.l k)with|some o=>reach loc f (o.keys++ks) (k::acc)|none=>reach loc f ks acc
def Iz:List (Key × O)->List Nat
 | []=>[]|(.g _,o)::l=>o.keys++Iz l|(.l _,_)::l=>Iz l
def GA (loc:List (Key × O)) (ks:List Nat):List (Key × O)
 ->List (Key × O)
 | []=>[]|(.g k,_)::l=>(match AK loc (.g k)with|some o=>[(.g k,o)] |none=>[])++GA loc ks l|(.l k,_)::l=>(if Qx k ks=true then(match AK loc (.l k)with|some o=>[(.l k,o)] |none=>[])else[])++GA loc ks l
def KO:List (Key × O)->Bool
 | []=>true|(_,o)::l=>o.Ye&&KO l
def IG (L:List (Key × O)):List (Key × O)->Bool
 | []=>true|(.g k,_)::l=>(AK L (.g k)).isSome&&IG L l|(.l _,_)::l=>IG L l
theorem Mp {L:List (Key × O)} {A:Key->Option O}:∀{l:List (Key × O)},IG L l=true->IE L A l
 | [],_=>trivial|(.g k,_)::l,h=>by simp only[IG,bz]at h;exact⟨.inl h.1,Mp h.2⟩
 |(.l _,_)::l,h=>Mp (l:=l) h
theorem Uw {s:S} {k:Key} {o:O} (h:AK s.loc k=some o):s.obj k=some o:=by simp only[jo,CY,h]
theorem Kk {s:S} (ks:List Nat):∀{l:List (Key × O)},KO (GA s.loc ks l)=true->Fc s (GA s.loc ks l)
 | [],_=>trivial|(.g k,_)::l,h=>by
  simp only[GA]at h ⊢;cases hl:AK s.loc (.g k)with
  |none=>rw[hl]at h;exact Kk ks h|some o=>
   rw[hl]at h;simp only[nf,jm,KO,bz]at h ⊢;refine⟨?_,Kk ks h.2⟩;rw[Uw hl];exact O.Lt h.1
 |(.l k,_)::l,h=>by
  simp only[GA]at h ⊢;by_cases hk:Qx k ks=true
  ·rw[if_pos hk]at h ⊢;cases hl:AK s.loc (.l k)with
   |none=>rw[hl]at h;exact Kk ks h|some o=>
    rw[hl]at h;simp only[nf,jm,KO,bz]at h ⊢;refine⟨?_,Kk ks h.2⟩;rw[Uw hl];exact O.Lt h.1
  ·rw[if_neg hk]at h ⊢;exact Kk ks h
def Eo (s:S):List Nat->List (Nat × V)
 | []=>[]|i::l=>(i,s.get i)::Eo s l
def Im (f g:Nat->Bool):List (Nat × V)->Bool
 | []=>true|(_,x)::l=>x.ok f g&&Im f g l
theorem Xr {s:S} {f g:Nat->Bool}:∀{l:List Nat},Im f g (Eo s l)=true->HX f g s (Eo s l)
 | [],_=>trivial|i::l,h=>by simp only[Eo,Im,bz]at h;exact⟨V.Lt _,h.1,.inr rfl,Xr h.2⟩
def Dc (s:S):List Nat->List (Nat × Option Nat)
 | []=>[]|t::l=>(match look s.tk t with|some x=>[(t,x)] |none=>[])++Dc s l
theorem Vw {s:S}:∀{l:List Nat},tkW s (Dc s l)
 | []=>trivial|t::l=>by
  simp only[Dc];cases hl:look s.tk t with
  |none=>exact Vw|some x=>
   refine⟨?_,Vw⟩;cases x with
   |none=>simp[S.known,hl]|some L=>simp[S.live,Ds,hl]
def kA:List (Nat × V)->List Nat
 | []=>[]|(_,x)::l=>x.keys++kA l
def Xp:List (Nat × V)->List Nat
 | []=>[]|(_,x)::l=>x.wZ++Xp l
def gcS (xc:List Nat) (s:S):S:=
 ⟨Eo s xc,GA s.loc (reach s.loc 100000 (kA (Eo s xc)++Iz s.loc) []) s.loc,s.A,Dc s (Xp (Eo s xc))⟩
def gcB (xc:List Nat) (s:S):Bool:=
 KO (gcS xc s).loc&&FC (CB (gcS xc s).loc) (Ct (gcS xc s).tk) (gcS xc s).loc&&IG (gcS xc s).loc s.loc&&Im (CB (gcS xc s).loc) (Ct (gcS xc s).tk) (Eo s xc)
theorem q06 {X:Cx} {n:Nat} {xc:List Nat} {s:S} (A':Key->Option O) (h:gcB xc s=true):Dd X n (s.wA A') ((gcS xc s).wA A'):=by
 simp only[gcB,bz]at h;obtain⟨⟨⟨h1,h2⟩,h3⟩,h4⟩:=h;refine xV rfl ?_ h2 (Mp h3) ?_ ?_;{exact Kk (s:=s.wA A') _ h1}
 ·have:∀l,Dc (s.wA A') l=Dc s l:=by
   intro l
   induction l with
   |nil=>rfl|cons i l ih=>simp only[Dc,ih];rfl
  show tkW (s.wA A') (Dc s (Xp (Eo s xc)));rw[<-this];exact Vw
 ·have:Eo (s.wA A') xc=Eo s xc:=by
   generalize xc=l
   induction l with
   |nil=>rfl|cons i l ih=>simp only[Eo,ih];rfl
  show HX _ _ (s.wA A') (Eo s xc);rw[<-this]at h4 ⊢;exact Xr h4
def OC (ml:List (Nat × Nat)):List (Nat × Nat)->Bool
 | []=>true|(d,m)::l=>di (CN ml d) m&&OC ml l
theorem Uk {ml:List (Nat × Nat)}:∀{l:List (Nat × Nat)},OC ml l=true->∀p∈l,CN ml p.1=p.2
 |(d,m)::l,h,p,hp=>by simp only[OC,bz]at h;rcases List.mem_cons.1 hp with rfl|hp;{exact fa h.1};{exact Uk h.2 p hp}
def slotsOf:List (Nat × V)->List Nat
 | []=>[]|(i,_)::l=>i::slotsOf l
section
variable {X:Cx} {call:KJ} {ext:KL} (hP:BH X.P=true) (hmo:X.P.follows .mixedOrders=true) (hc:Mi X call) (he:Mk X ext)
include hP hmo hc he
end
end
section
section
variable {X:Cx} {call:KJ} {ext:KL} (hP:BH X.P=true) (hmo:X.P.follows .mixedOrders=true) (hc:Mi X call) (he:Mk X ext)
include hP hmo hc he
end
mutual
def V.FK:V->V
 | .sl eb e cs _=>.d (.slice eb e) (.slice cs)| .agg τ vs=>.agg τ (V.aJ vs)|x=>x
def V.aJ:List V->List V
 | []=>[]|x::xs=>x.FK::V.aJ xs
end
theorem V.sJ (x:V):x.FK.ty=x.ty:=by cases x <;> rfl
mutual
theorem V.sI:∀(x:V),V.BR x x.FK
 | .sl _ _ cs _=>by simp[V.FK,V.BR,CQ,V.ty]
 | .agg τ vs=>⟨rfl,V.sK vs⟩| .d _ _=>by simp[V.FK,V.BR,CQ,V.ty]
 | .emp _ _=>.inl rfl| .any=>trivial| .ts _ _ _| .wo| .ptr _ _ _| .wq _ _| .sr _ _ _ _ _ _ _| .mp _| .fn _ _| .tup _| .top _=>by simp[V.FK,V.BR]
theorem V.sK:∀(xs:List V),V.FZ xs (V.aJ xs)
 | []=>trivial|x::xs=>⟨V.sI x,V.sJ x,V.sK xs⟩
end
def MI (s:S) (x:V):V:=
 match x with
 | .sl eb e cs t=>if s.live t=some cs.length then .ts eb e cs else .d (.slice eb e) (.slice cs)|x=>x.FK
def IZ (s:S):List V->List V
 | []=>[]|x::xs=>MI s x::IZ s xs
def IY (f:Nat->Bool):List V->Bool
 | []=>true|v::vs=>(match v with| .ts _ _ _=>true|v=>v.ok f Bl&&v.plain)&&IY f vs
def RR:List V->Bool
 | []=>true|v::vs=>v.Ks&&RR vs
theorem q4u {s:S} {f:Nat->Bool} {x:V} (hx:x.Ks=true) (h:(match MI s x with| .ts _ _ _=>true|v=>v.ok f Bl&&v.plain)=true):GZ s f x (MI s x):=by
 have gen:∀{x:V},x.FK.Ks=true->(x.FK.ok f Bl&&x.FK.plain)=true->GZ s f x x.FK:=by
  intro x hn h;have:V.BR x x.FK/\x.FK.ok f Bl=true/\x.FK.plain=true/\x.FK.ty.isAgg=x.ty.isAgg:=by simp only[bz]at h;exact⟨V.sI x,h.1,h.2,by rw[V.sJ]⟩
  unfold GZ;split;{rename_i e1;rw[e1]at hn;cases hn};{exact this}
 cases x with
 |sl eb e cs t=>
  simp only[MI]at h ⊢;by_cases hl:s.live t=some cs.length;{rw[if_pos hl];exact⟨rfl,rfl,rfl,hl⟩};{rw[if_neg hl]at h ⊢;exact gen (x:=.sl eb e cs t) rfl h}
 |ts=>cases hx
 |agg τ vs=>exact gen (x:=.agg τ vs) rfl h|d|emp|any|wo|ptr|wq|sr|mp|fn|tup|top=>exact gen rfl h
theorem sH {s:S} {f:Nat->Bool}:∀{xs:List V},RR xs=true->IY f (IZ s xs)=true->Hu s f xs (IZ s xs)
 | [],_,_=>trivial|x::xs,h1,h2=>by simp only[RR,bz]at h1;simp only[IZ,IY,bz]at h2;exact⟨q4u h1.1 h2.1,sH h1.2 h2.2⟩
def bP (X:Cx) (s:S) (r:ResultVar):Bool:=
 match r with
 | .tmp _=>true| .cell a t=>(match s.get a with| .ptr k q τ=>(match s.obj k with|some (.box y)=>decide (τ=ty X.P t)&&τ.known&& !(y.at q).isAny|_=>false)|_=>false)
def SE (X:Cx) (s:S):List ResultVar->Bool
 | []=>true|r::rs=>bP X s r&&SE X s rs
theorem q5j {X:Cx} {s:S} {A':Key->Option O} (hA:leA s.A A') {r:ResultVar} (h:bP X s r=true):Oe X (s.wA A') r/\MO X (s.wA A') r=MO X s r:=by
 cases r with
 |tmp t=>exact⟨trivial,rfl⟩|cell a t=>
  have hg:(s.wA A').get a=s.get a:=rfl;simp only[bP]at h;simp only[Oe,MO,hg];split at h;{rename_i e0;split at h;{rename_i e1;simp only[bz,decide_eq_true_eq,jg]at h;simp only[e0,DT hA e1,e1];exact⟨⟨h.1.1,h.1.2,V.Nr h.2⟩,by first|rfl|trivial⟩};{cases h}};{cases h}
theorem uO {X:Cx} {s:S} {A':Key->Option O} (hA:leA s.A A'):∀{rs:List ResultVar},SE X s rs=true->Oh X (s.wA A') rs/\Ee X (s.wA A') rs=Ee X s rs
 | [],_=>⟨trivial,rfl⟩|r::rs,h=>by simp only[SE,bz]at h;obtain⟨h1,h2⟩:=q5j hA h.1;obtain⟨h3,h4⟩:=uO hA h.2;exact⟨⟨h1,h3⟩,by simp only[Ee,h2,h4]⟩
def aK:List V->V
 | [x]=>x|xs=>.tup xs
theorem q5n {xs:List V} {vs:List V} (h:xs.length=vs.length):KA xs (aK vs)=some vs:=by
 match xs,vs,h with
 | [],[],_=>rfl| [_],[_],_=>rfl|_::_::_,_::_::_,_=>rfl
theorem sG (s:S):∀(xs:List V),(IZ s xs).length=xs.length
 | []=>rfl|x::xs=>by simp[IZ,sG s xs]
def Xu (X:Cx) (fn:Func) (s:S):Option (V × List (Key × O)):=
 let rs:=Ee X s fn.results.toList
 let vs:=IZ s rs
 let L:=GA s.loc (reach s.loc 100000 (V.Jq vs++Iz s.loc) []) s.loc
 if SE X s fn.results.toList=true/\RR rs=true/\IY (CB L) vs=true/\GC (Ih (FR 2000 rs vs))=true/\KO L=true/\FC (CB L) Bl L=true/\IG L s.loc=true then some (aK vs,L)else none
theorem q0Q {X:Cx} {fn:Func} {s:S} {v:V} {L:List (Key × O)} {A':Key->Option O} (hA:leA s.A A') (h:Xu X fn s=some (v,L)):FE X fn A' v L (s.wA A'):=by
 simp only[Xu,bt,eu,gb]at h;obtain⟨⟨h1,h2,h3,h4,h5,h6,h7⟩,rfl,rfl⟩:=h;obtain⟨c1,c2⟩:=uO hA h1;have hL:∀(x:S) (xs vs:List V) f,Hu x f xs vs->Hu (x.wA A') f xs vs:=by
  intro x xs
  induction xs with
  |nil=>intro vs f h;cases vs <;> exact h
  |cons y ys ih=>
   intro vs f h;cases vs with
   |nil=>exact h|cons v vs=>exact⟨h.1,ih vs f h.2⟩
 refine⟨rfl,Kk (s:=s.wA A') _ h5,h6,Mp h7,c1,?_⟩;rw[c2,q5n (sG s _).symm];exact⟨hL _ _ _ _ (sH h2 h3),h4⟩
section
variable {X:Cx} {ov:KJ} {ext:KL} (hP:BH X.P=true) (hmo:X.P.follows .mixedOrders=true) (hov:Mi X ov) (he:Mk X ext)
include hP hmo hov he
end
def A0:Key->Option O:=fun _=>none
theorem Bn.any {X:Cx} {f:FuncId} {xs:List V} {v:V} {L:List (Key × O)} (h:Bn X f xs A0 v L) (A:Key->Option O):Bn X f xs A v L:=h.mono fun _ _ h=>by cases h
end
def NX {R:Type} (op:BinOp) (k:IntKind) (a b:Int) (K:V->Option R):Option R:=
 match op with
 | .add=>K (.d (.int k) (.int (k.wrap (a+b))))| .sub=>K (.d (.int k) (.int (k.wrap (a-b))))| .mul=>K (.d (.int k) (.int (k.wrap (a*b))))| .quo=>if b≠0 then K (.d (.int k) (.int (k.wrap (a.tdiv b))))else none| .rem=>if b≠0 then K (.d (.int k) (.int (a.tmod b)))else none| .and| .or| .xor| .andNot=>K (.d (.int k) (.int (CU op k a b)))| .eql=>K (.d .bool (.bool (decide (a=b))))| .neq=>K (.d .bool (.bool (!decide (a=b))))| .lss=>K (.d .bool (.bool (decide (a<b))))| .leq=>K (.d .bool (.bool (decide (a<=b))))| .gtr=>K (.d .bool (.bool (decide (b<a))))| .geq=>K (.d .bool (.bool (decide (b<=a))))|_=>none
theorem q0m {R:Type} {r:R} {Kr:V->Option R} {op:BinOp} {k:IntKind} {a b:Int} {K:V->Prop} (h:NX op k a b Kr=some r) (hK:∀v,Kr v=some r->K v):Jp op k a b K:=by
 cases op <;> simp only[NX,Jp,eu,bt,reduceCtorEq]at h ⊢ <;>
  first|exact hK _ h|(obtain⟨h1,h⟩:=h;exact⟨h1,hK _ h⟩)
def Na {R:Type} (op:BinOp) (k:IntKind) (a b:Int) (K:V->Option R):Option R:=
 match op with
 | .shl=>if 0<=b then K (.d (.int k) (.int (k.wrap (a*2^(min b.toNat k.bits)))))else none| .shr=>if 0<=b then K (.d (.int k) (.int (a.fdiv (2^(min b.toNat k.bits)))))else none|_=>none
theorem q0v {R:Type} {r:R} {Kr:V->Option R} {op:BinOp} {k:IntKind} {a b:Int} {K:V->Prop} (h:Na op k a b Kr=some r) (hK:∀v,Kr v=some r->K v):MR op k a b K:=by
 cases op <;> simp only[Na,MR,eu,bt,reduceCtorEq]at h ⊢ <;>
  (obtain⟨h1,h⟩:=h;exact⟨h1,hK _ h⟩)
def Nd {R:Type} (op:BinOp) (a b:List UInt8) (K:V->Option R):Option R:=
 match op with
 | .add=>if a.length+b.length<=140737488355328 then K (.d .str (.str (a++b)))else none| .eql=>K (.d .bool (.bool (a==b)))| .neq=>K (.d .bool (.bool (!(a==b))))| .lss=>K (.d .bool (.bool (kv a b)))| .leq=>K (.d .bool (.bool (kv a b||a==b)))| .gtr=>K (.d .bool (.bool (!(kv a b||a==b))))| .geq=>K (.d .bool (.bool (!kv a b)))|_=>none
theorem q0C {R:Type} {r:R} {Kr:V->Option R} {op:BinOp} {a b:List UInt8} {K:V->Prop} (h:Nd op a b Kr=some r) (hK:∀v,Kr v=some r->K v):LD op a b K:=by
 cases op <;> simp only[Nd,LD,eu,bt,reduceCtorEq]at h ⊢ <;>
  first|exact hK _ h|(obtain⟨h1,h⟩:=h;exact⟨h1,hK _ h⟩)
def Lj {R:Type} (op:BinOp) (b:Bool) (K:V->Option R):Option R:=
 match op with
 | .eql=>K (.d .bool (.bool b))| .neq=>K (.d .bool (.bool (!b)))|_=>none
theorem jG {R:Type} {r:R} {Kr:V->Option R} {op:BinOp} {b:Bool} {K:V->Prop} (h:Lj op b Kr=some r) (hK:∀v,Kr v=some r->K v):Il op b K:=by cases op <;> simp only[Lj,Il,reduceCtorEq]at h ⊢ <;> exact hK _ h
def Pv {R:Type} (op:BinOp) (x y:Bool) (K:V->Option R):Option R:=
 match op with
 | .eql=>K (.d .bool (.bool (x==y)))| .neq=>K (.d .bool (.bool (!(x==y))))|_=>none
def Pz {R:Type} (op:BinOp) (x y:Option Bool) (K:V->Option R):Option R:=
 match op,x,y with
 | .eql,some a,some true=>K (.d .bool (.bool a))| .neq,some a,some true=>K (.d .bool (.bool (!a)))| .eql,some true,some b=>K (.d .bool (.bool b))| .neq,some true,some b=>K (.d .bool (.bool (!b)))|_,_,_=>none
def QB {R:Type} (op:BinOp) (x:Option (Option Bool)) (y:V) (K:V->Option R):Option R:=
 match op,x,y with
 | .eql,some r,.wo=>K (IW r)| .neq,some r,.wo=>K (IW (r.map (!·)))|_,_,_=>none
def NS {R:Type} (P:Program) (op:BinOp) (T:TypeId) (x y:V) (K:V->Option R):Option R:=
 match ty P T with
 | .int k=>if x.isInt k then(if BinOp.Kg op then(if y.Ez then Na op k x.toInt y.toInt K else none)else(if y.isInt k then NX op k x.toInt y.toInt K else none))else none| .bool=>if x.isBool/\y.isBool then Pv op x.toBool y.toBool K else none| .str=>if x.isStr/\y.isStr then Nd op x.toStr y.toStr K else none| .ptr=>Pz op x.Gt y.Gt K| .arr n e=>if CW P T=true/\x.DI (.arr n e)/\y.DI (.arr n e)then Lj op (C.beq x.toC y.toC) K else none| .struct sz os fs=>if CW P T=true/\x.DI (.struct sz os fs)/\y.DI (.struct sz os fs)then Lj op (C.beq x.toC y.toC) K else none| .slice _ _=>QB op x.RQ y K|_=>none
theorem F9 {R:Type} {r:R} {Kr:V->Option R} {P:Program} {op:BinOp} {T:TypeId} {x y:V} {K:V->Prop} (h:NS P op T x y Kr=some r) (hK:∀v,Kr v=some r->K v):OU P op T x y K:=by unfold NS at h;unfold OU;generalize ty P T=τ at h ⊢;split at h;{simp only[bt]at h;obtain⟨h1,h2⟩:=h;refine⟨h1,?_⟩;split at h2;{rename_i hs;rw[if_pos hs];simp only[bt]at h2;exact⟨h2.1,q0v h2.2 hK⟩};{rename_i hs;rw[if_neg hs];simp only[bt]at h2;exact⟨h2.1,q0m h2.2 hK⟩}};{simp only[bt]at h;obtain⟨⟨h1,h2⟩,h3⟩:=h;refine⟨h1,h2,?_⟩;cases op <;> simp only[Pv,reduceCtorEq]at h3 ⊢ <;> exact hK _ h3};{simp only[bt]at h;exact⟨h.1.1,h.1.2,q0C h.2 hK⟩};{simp only[Pz]at h;split at h <;> (try (cases h)) <;> simp_all};{simp only[bt]at h;exact⟨h.1.1,h.1.2.1,h.1.2.2,by rw[C.Tf];exact jG h.2 hK⟩};{simp only[bt]at h;exact⟨h.1.1,h.1.2.1,h.1.2.2,by rw[C.Tf];exact jG h.2 hK⟩};{simp only[QB]at h;split at h <;> (try (cases h)) <;> simp_all};{cases h}
def Nb {R:Type} (P:Program) (T:TypeId) (x:V) (lo hi mx:Option V) (K:V->Option R):Option R:=
 match ty P T with
 | .str=>(match Cb lo 0,Cb hi x.toStr.length with|some l,some h=>if x.isStr/\mx.isNone then(if 0<=l/\l<=h/\h<=x.toStr.length then K (.d .str (.str ((x.toStr.take h.toNat).drop l.toNat)))else none)else none|_,_=>none)
 | .slice eb e=>(match x with
   | .sr k q lo0 n cp eb' e'=>if eb'=eb/\e'=e then(match Cb lo 0,Cb hi n,mx with|some l,some h,none=>if 0<=l/\l<=h/\h<=n then K (.sr k q (lo0+l.toNat) (h-l).toNat (cp.map (· -l.toNat)) eb e)else none|some l,some h,some m=>if hi.isSome=true then(match Cb (some m) 0 with|some m=>if 0<=l/\l=h/\h=m/\m<=n then K (.emp eb e)else none|none=>none)else none|_,_,_=>none)else none
   |x=>(match x.Ei with|some (eb',e',cs)=>if eb'=eb/\e'=e then(match Cb lo 0,Cb hi cs.length,mx with|some l,some h,none=>if 0<=l/\l<=h/\h<=cs.length then K (.d (.slice eb e) (.slice (cut cs l h)))else none|some l,some h,some m=>if hi.isSome=true then(match Cb (some m) 0 with|some m=>if 0<=l/\l=h/\h=m/\m<=cs.length then K (.emp eb e)else none|none=>none)else none|_,_,_=>none)else none|none=>none))
 |_=>(match VR P T with|some (n,eb,e)=>if n*eb<=140737488355328/\n<=maxLen/\mx.isNone then(match Cb lo 0,Cb hi n with|some l,some h=>if 0<=l/\l<=h/\h<=n then(match x with| .ptr k q τ=>if τ= .arr n e then K (.sr k q l.toNat (h-l).toNat (some (n-l.toNat)) eb e)else none| .wq τ c=>if τ= .arr n e then K (.d (.slice eb e) (.slice (cut c.elems l h)))else none|_=>none)else none|_,_=>none)else none|none=>none)
theorem q0z {R:Type} {r:R} {Kr:V->Option R} {P:Program} {T:TypeId} {x:V} {lo hi mx:Option V} {K:V->Prop} (h:Nb P T x lo hi mx Kr=some r) (hK:∀v,Kr v=some r->K v):OY P T x lo hi mx K:=by
 unfold Nb at h;unfold OY;generalize ty P T=τ at h ⊢;split at h;{split at h;{rename_i l hh e1 e2;simp only[bt]at h;obtain⟨⟨h1,h2⟩,h3,h⟩:=h;refine⟨h1,by simpa using h2,?_⟩;rw[e1,e2];exact⟨h3.1,h3.2.1,h3.2.2,hK _ h⟩};{cases h}}
 ·split at h;{simp only[bt]at h;obtain⟨⟨h1,h2⟩,h⟩:=h;refine⟨h1,h2,?_⟩;split at h;{rename_i e1 e2;simp only[bt]at h;obtain⟨h3,h⟩:=h;rw[e1,e2];exact⟨h3.1,h3.2.1,h3.2.2,hK _ h⟩};{rename_i e1 e2;simp only[bt]at h;obtain⟨h3,h⟩:=h;rw[e1,e2];refine⟨h3,?_⟩;split at h;{rename_i e3;simp only[bt]at h;obtain⟨h4,h⟩:=h;rw[e3];exact⟨h4.1,h4.2.1,h4.2.2.1,h4.2.2.2,hK _ h⟩};{cases h}};{cases h}}
  ·rename_i x' hx'
   cases x <;> (try exact(hx' _ _ _ _ _ _ _ rfl).elim) <;> (
    split at h;{rename_i e0;simp only[e0];simp only[bt]at h;obtain⟨⟨h1,h2⟩,h⟩:=h;refine⟨h1,h2,?_⟩;split at h;{rename_i e1 e2;simp only[bt]at h;obtain⟨h3,h⟩:=h;rw[e1,e2];exact⟨h3.1,h3.2.1,h3.2.2,hK _ h⟩};{rename_i e1 e2;simp only[bt]at h;obtain⟨h3,h⟩:=h;rw[e1,e2];refine⟨h3,?_⟩;split at h;{rename_i e3;simp only[bt]at h;obtain⟨h4,h⟩:=h;rw[e3];exact⟨h4.1,h4.2.1,h4.2.2.1,h4.2.2.2,hK _ h⟩};{cases h}};{cases h}}
    ·cases h)
 ·rename_i hn1 hn2;split at h
  ·rename_i e0;split <;> first|exact(hn1 rfl).elim|exact(hn2 _ _ rfl).elim|skip
   rw[e0];simp only[bt]at h;obtain⟨⟨h1,h2,h3⟩,h⟩:=h;refine⟨h1,h2,by simpa using h3,?_⟩;split at h;{rename_i e1 e2;rw[e1,e2];simp only[bt]at h;obtain⟨h4,h⟩:=h;refine⟨h4.1,h4.2.1,h4.2.2,?_⟩;split at h;{simp only[bt]at h;obtain⟨h5,h⟩:=h;exact⟨h5,hK _ h⟩};{simp only[bt]at h;obtain⟨h5,h⟩:=h;exact⟨h5,hK _ h⟩};{cases h}};{cases h}
  ·cases h
def NY {R:Type} (P:Program) (T:TypeId) (x:V) (K:V->Option R):Option R:=
 match ty P T,x with
 | .str,.d τ c=>if τ= .str then K (.d (.int .i64) (.int c.toStr.length))else none| .slice _ _,.wo=>K (.d (.int .i64) (.int 0))| .slice _ _,.sr _ _ _ n _ _ _=>K (.d (.int .i64) (.int n))| .slice eb e,x=>(match x.Ei with|some (eb',e',cs)=>if eb'=eb/\e'=e then K (.d (.int .i64) (.int cs.length))else none|none=>none)| .arr n _,_=>if(n:Int)<=9223372036854775807 then K (.d (.int .i64) (.int n))else none|_,_=>none
theorem q0p {R:Type} {r:R} {Kr:V->Option R} {P:Program} {T:TypeId} {x:V} {K:V->Prop} (h:NY P T x Kr=some r) (hK:∀v,Kr v=some r->K v):OX P T x K:=by
 unfold NY at h;unfold OX;generalize ty P T=τ at h ⊢
 cases τ <;> (try (cases h;done)) <;> cases x <;> (try (cases h;done)) <;> simp only[bt]at h ⊢ <;>
  first
  |exact hK _ h|(obtain⟨h1,h⟩:=h;exact⟨h1,hK _ h⟩)
  |(split at h
    ·rename_i e0;simp only[bt]at h;obtain⟨h1,h⟩:=h;rw[e0];exact⟨h1.1,h1.2,hK _ h⟩
    ·cases h)
def NW {R:Type} (P:Program) (T:TypeId) (x i:V) (K:V->Option R):Option R:=
 if i.Ez then
 match ty P T,x with
 | .slice eb e,.sr k q lo n _ eb' e'=>if eb'=eb/\e'=e then(if 0<=i.toInt/\i.toInt<n then K (.ptr k (q++[lo+i.toInt.toNat]) e)else none)else none| .slice eb e,x=>(match x.Ei with|some (eb',e',cs)=>if eb'=eb/\e'=e then(if 0<=i.toInt/\i.toInt<cs.length then K (.wq e (cs.getD i.toInt.toNat .nil))else none)else none|none=>none)| .arr n e,.ptr k q τ=>if τ= .arr n e then(if 0<=i.toInt/\i.toInt<n then K (.ptr k (q++[i.toInt.toNat]) e)else none)else none| .arr n e,.wq τ c=>if τ= .arr n e then(if 0<=i.toInt/\i.toInt<n then K (.wq e (c.get i.toInt.toNat))else none)else none|_,_=>none
 else none
theorem q0k {R:Type} {r:R} {Kr:V->Option R} {P:Program} {T:TypeId} {x i:V} {K:V->Prop} (h:NW P T x i Kr=some r) (hK:∀v,Kr v=some r->K v):OW P T x i K:=by
 unfold NW at h;unfold OW;simp only[bt]at h;obtain⟨h0,h⟩:=h;refine⟨h0,?_⟩;generalize ty P T=τ at h ⊢
 cases τ <;> (try (cases h;done)) <;> cases x <;> (try (cases h;done)) <;> simp only[bt]at h ⊢ <;>
  first
  |(obtain⟨h1,h2,h⟩:=h;exact⟨h1.1,h1.2,h2.1,h2.2,hK _ h⟩)|(obtain⟨h1,h2,h⟩:=h;exact⟨h1,h2.1,h2.2,hK _ h⟩)
  |(split at h
    ·rename_i e0;simp only[bt]at h;obtain⟨h1,h2,h⟩:=h;rw[e0];exact⟨h1.1,h1.2,h2.1,h2.2,hK _ h⟩
    ·cases h)
def NV {R:Type} (P:Program) (T:TypeId) (x:V) (i:Nat) (K:V->Option R):Option R:=
 match x with
 | .ptr k q τ=>if τ=ty P T/\τ.DJ=true/\(τ.child i).isSome=true/\(τ.get i).size≠0 then K (.ptr k (q++[i]) (τ.get i))else none| .wq τ c=>if τ=ty P T/\τ.DJ=true/\(τ.child i).isSome=true/\(τ.get i).size≠0 then K (.wq (τ.get i) (c.get i))else none|_=>none
theorem q0g {R:Type} {r:R} {Kr:V->Option R} {P:Program} {T:TypeId} {x:V} {i:Nat} {K:V->Prop} (h:NV P T x i Kr=some r) (hK:∀v,Kr v=some r->K v):OV P T x i K:=by unfold NV at h;unfold OV;split at h;{simp only[bt]at h;obtain⟨h1,h⟩:=h;exact⟨h1.1,h1.2.1,h1.2.2.1,h1.2.2.2,hK _ h⟩};{simp only[bt]at h;obtain⟨h1,h⟩:=h;exact⟨h1.1,h1.2.1,h1.2.2.1,h1.2.2.2,hK _ h⟩};{cases h}
def Nf {R:Type} (P:Program) (op:UnOp) (T:TypeId) (x:V) (K:V->Option R):Option R:=
 match ty P T,op with
 | .bool,.not=>if x.isBool then K (.d .bool (.bool (!x.toBool)))else none| .int k,.neg=>if x.isInt k then K (.d (.int k) (.int (k.wrap (0-x.toInt))))else none|_,_=>none
theorem q0H {R:Type} {r:R} {Kr:V->Option R} {P:Program} {op:UnOp} {T:TypeId} {x:V} {K:V->Prop} (h:Nf P op T x Kr=some r) (hK:∀v,Kr v=some r->K v):Rt P op T x K:=by unfold Nf at h;unfold Rt;generalize ty P T=τ at h ⊢;split at h;{simp only[bt]at h;obtain⟨h1,h⟩:=h;exact⟨h1,hK _ h⟩};{simp only[bt]at h;obtain⟨h1,h⟩:=h;exact⟨h1,hK _ h⟩};{cases h}
def NU {R:Type} (P:Program) (src dst:TypeId) (x:V) (K:V->Option R):Option R:=
 match ty P src,ty P dst with
 | .int k,.int k2=>if x.isInt k then K (.d (.int k2) (.int (k2.wrap x.toInt)))else none| .str,.str=>if x.isStr then K x else none|_,_=>none
theorem q0e {R:Type} {r:R} {Kr:V->Option R} {P:Program} {src dst:TypeId} {x:V} {K:V->Prop} (h:NU P src dst x Kr=some r) (hK:∀v,Kr v=some r->K v):MM P src dst x K:=by unfold NU at h;unfold MM;generalize ty P src=τ at h ⊢;generalize ty P dst=τ2 at h ⊢;split at h;{simp only[bt]at h;obtain⟨h1,h⟩:=h;exact⟨h1,hK _ h⟩};{simp only[bt]at h;obtain⟨h1,h⟩:=h;exact⟨h1,hK _ h⟩};{cases h}
def NT {R:Type} (P:Program) (b:Builtin) (ts:Array TypeId) (xs:List V) (K:V->Option R):Option R:=
 match b,xs with
 | .len,[x]=>if 0<ts.size then NY P (ts.getD 0 0) x K else none| .min,[x,y]=>(match x with| .d (.int k) _=>if y.isInt k then K (.d (.int k) (.int (if y.toInt<x.toInt then y.toInt else x.toInt)))else none|_=>none)| .max,[x,y]=>(match x with| .d (.int k) _=>if y.isInt k then K (.d (.int k) (.int (if x.toInt<y.toInt then y.toInt else x.toInt)))else none|_=>none)|_,_=>none
theorem q0c {R:Type} {r:R} {Kr:V->Option R} {P:Program} {b:Builtin} {ts:Array TypeId} {xs:List V} {K:V->Prop} (h:NT P b ts xs Kr=some r) (hK:∀v,Kr v=some r->K v):Rs P b ts xs K:=by unfold NT at h;unfold Rs;split at h;{simp only[bt]at h;exact⟨h.1,q0p h.2 hK⟩};{split at h;{simp only[bt]at h;obtain⟨h1,h⟩:=h;exact⟨h1,hK _ h⟩};{cases h}};{split at h;{simp only[bt]at h;obtain⟨h1,h⟩:=h;exact⟨h1,hK _ h⟩};{cases h}};{cases h}
def Gh {R:Type} (P:Program) (op:Op) (ρ:Operand->V) (K:V->Option R):Option R:=
 match op with
 | .move x=>K (ρ x)| .assign x=>K (ρ x)| .pick c a b=>if(ρ c).isBool then(bif (ρ c).toBool then K (ρ a)else K (ρ b))else none| .nilCheck x=>if(ρ x).Gt=some false then K (ρ x)else none| .binOp op T x y _=>NS P op T (ρ x) (ρ y) K| .unOp op T x=>Nf P op T (ρ x) K| .convert src dst x=>NU P src dst (ρ x) K| .fieldAddr T x i=>NV P T (ρ x) i K| .field T x i=>if(ρ x).ty=ty P T/\(ρ x).ty.DJ=true/\((ρ x).ty.child i).isSome=true/\((ρ x).ty.get i).known=true/\(ρ x).plain=true/\((ρ x).get i).isAny=false then K ((ρ x).get i)else none| .indexAddr T x i=>NW P T (ρ x) (ρ i) K| .index T x i=>if(ρ i).Ez then(match ty P T with| .arr n e=>if(ρ x).ty= .arr n e/\(ρ x).plain=true/\e.known=true then(if 0<=(ρ i).toInt/\(ρ i).toInt<n then(if((ρ x).get (ρ i).toInt.toNat).isAny=false then K ((ρ x).get (ρ i).toInt.toNat)else none)else none)else none| .str=>if(ρ x).isStr then(if 0<=(ρ i).toInt/\(ρ i).toInt<(ρ x).toStr.length then K (.d (.int .u8) (.int ((ρ x).toStr.getD (ρ i).toInt.toNat 0).toNat))else none)else none|_=>none)else none| .slice T x lo hi mx=>Nb P T (ρ x) (lo.map ρ) (hi.map ρ) (mx.map ρ) K| .extract x i=>(match ρ x with| .tup xs=>(match xs[i]? with|some y=>K y|none=>none)|_=>none)| .sliceToArrayPointer T x=>(match ρ x with| .sr k q lo n (some _) _ e=>(match ty P T with| .arr m e'=>if e'=e/\0<m then(if m<=n then K (.ptr k (q++[lo]) e)else none)else none|_=>none)|_=>(match ty P T,(ρ x).Ei with| .arr n e,some (_,e',cs)=>if e'=e/\0<n then(if n<=cs.length then K (.wq (.arr n e) (.agg (cs.take n)))else none)else none|_,_=>none))| .makeFunc fn first wx=>(match fn,first.toList with| .func f,[]=>if(wx.toList.map ρ).all V.plain=true then K (.fn f (wx.toList.map ρ))else none|_,_=>none)
 | .call c=>(match c.callee with| .builtin b=>NT P b c.argTypes (c.args.toList.map ρ) K|_=>none)|_=>none
theorem QA {R:Type} {r:R} {Kr:V->Option R} {P:Program} {op:Op} {ρ:Operand->V} {K:V->Prop} (h:Gh P op ρ Kr=some r) (hK:∀v,Kr v=some r->K v):pv P op ρ K:=by
 unfold Gh at h;unfold pv;split at h;{exact hK _ h};{exact hK _ h};{simp only[bt]at h;obtain⟨h1,h⟩:=h;refine⟨h1,fun e=>?_,fun e=>?_⟩ <;> rw[e]at h <;> exact hK _ h};{simp only[bt]at h;obtain⟨h1,h⟩:=h;exact⟨h1,hK _ h⟩};{exact F9 h hK};{exact q0H h hK};{exact q0e h hK};{exact q0g h hK};{simp only[bt]at h;obtain⟨h1,h⟩:=h;exact⟨h1.1,h1.2.1,h1.2.2.1,h1.2.2.2.1,h1.2.2.2.2.1,V.Nr h1.2.2.2.2.2,hK _ h⟩};{exact q0k h hK};{simp only[bt]at h;obtain⟨h0,h⟩:=h;refine⟨h0,?_⟩;rename_i T _ _;generalize ty P T=τ at h ⊢;split at h;{simp only[bt]at h;obtain⟨h1,h2,h3,h⟩:=h;exact⟨h1.1,h1.2.1,h1.2.2,h2.1,h2.2,V.Nr h3,hK _ h⟩};{simp only[bt]at h;obtain⟨h1,h2,h⟩:=h;exact⟨h1,h2.1,h2.2,hK _ h⟩};{cases h}};{exact q0z h hK};{split at h;{rename_i e0;simp only[e0];split at h;{rename_i e1;simp only[e1];exact hK _ h};{cases h}};{cases h}};{split at h;{rename_i e0;dsimp only;split at h;{rename_i e1;simp only[e0,e1];simp only[bt]at h;obtain⟨h1,h2,h⟩:=h;exact⟨h1.1,h1.2,h2,hK _ h⟩};{cases h}};{rename_i hno;split at h;{rename_i e0 e1;simp only[bt]at h;obtain⟨h1,h2,h⟩:=h;dsimp only;split;{rename_i e2;exact absurd e2 (hno _ _ _ _ _ _ _)};{simp only[e0,e1];exact⟨h1.1,h1.2,h2,hK _ h⟩}};{cases h}}};{split at h;{rename_i e0;simp only[e0];simp only[bt]at h;obtain⟨h1,h⟩:=h;exact⟨h1,hK _ h⟩};{cases h}};{split at h;{rename_i e0;simp only[e0];exact q0c h hK};{cases h}};{cases h}
def IM {R:Type} (P:Program) (s:S) (t':TypeId) (eb:Nat) (e:Ty) (Y:V) (K:List C->Option R):Option R:=
 match ty P t' with
 | .slice _ _=>(match Y with| .wo=>K []|Y=>match EP s Y with|some (eb',e',ys)=>if eb'=eb/\e'=e then K ys else none|none=>none)| .str=>if e= .int .u8/\eb=1/\Y.isStr then K (Y.toStr.map fun b=>C.int b.toNat)else none|_=>none
theorem TZ {R:Type} {r:R} {Kr:List C->Option R} {P:Program} {s:S} {A':Key->Option O} (hA:leA s.A A') {t':TypeId} {eb:Nat} {e:Ty} {Y:V} {K:List C->Prop} (h:IM P s t' eb e Y Kr=some r) (hK:∀ys,Kr ys=some r->K ys):Hx P (s.wA A') t' eb e Y K:=by
 unfold IM at h;unfold Hx;generalize ty P t'=τ at h ⊢;cases τ <;> (try (cases h;done));{simp only[bt]at h;obtain⟨h1,h⟩:=h;exact⟨h1.1,h1.2.1,h1.2.2,hK _ h⟩}
 ·cases Y <;> simp only at h ⊢ <;> first
   |exact hK _ h
   |(split at h
     ·rename_i e0;simp only[bt]at h;obtain⟨h1,h⟩:=h;rw[jU hA e0];exact⟨h1.1,h1.2,hK _ h⟩
     ·cases h)
abbrev K3 (R:Type):=V->List (Key × O)->List (Nat × Option Nat)->Option R
def NR {R:Type} (P:Program) (m:Nat) (dst:Nat) (s:S) (t t':TypeId) (x y:V) (K:K3 R):Option R:=
 if CJ P (Af P t)=true then
 match ty P t with
 | .slice eb e=>(match x with
  | .emp _ _| .wo=>IM P s t' eb e y fun ys=>
    if m=3 then(if ys.isEmpty=false then K (.sr (.l dst) [] 0 ys.length none eb e) [(.l dst,.box (.d (.arr ys.length e) (.agg ys)))] []else none)else K (.sl eb e ys dst) [] [(dst,some ys.length)]
  |_=>none)
 |_=>none
 else none
def Px {R:Type} (P:Program) (s:S) (T:TypeId) (k:Key) (K:V->Option R):Option R:=
 match Gs P T,s.obj k with
 |some _,some (.map _ _ es)=>if es.length<=9223372036854775807 then K (.d (.int .i64) (.int es.length))else none|_,_=>none
def Hd:List (C × V)->C->Bool
 | [],_=>false|(k,_)::l,c=>bif C.beq c k then true else Hd l c
def Ji:List (C × V)->C->C
 | [],_=>.nil|(k,v)::l,c=>bif C.beq c k then(match v with| .d _ x=>x|_=>.nil)else Ji l c
theorem lU {τ:Ty} {c:C}:∀{es:List (C × V)},DY τ es=true->FD es c=bif Hd es c then some (.d τ (Ji es c))else none
 | [],_=>rfl|(k,v)::l,h=>by
  simp only[DY,bz]at h;simp only[FD,C.Tf,Hd,Ji];cases hb:C.beq c k with
  |true=>
   simp only[cond_true,if_true];obtain⟨h1,_⟩:=h;split at h1;{rw[Ty.beq_iff]at h1;subst h1;rfl};{cases h1}
  |false=>
   simp only[cond_false,fk,if_false];exact lU h.2
def NZ {R:Type} (τ:Ty) (es:List (C × V)) (c:C) (K:Option V->Option R):Option R:=
 bif DY τ es then(bif Hd es c then K (some (.d τ (Ji es c)))else K none)else none
theorem q0q {R:Type} {r:R} {τ:Ty} {c:C} {Kr:Option V->Option R} {es:List (C × V)} (h:NZ τ es c Kr=some r):Kr (FD es c)=some r:=by
 unfold NZ at h;cases ha:DY τ es with
 |false=>rw[ha]at h;cases h
 |true=>
  rw[ha]at h;rw[lU ha];cases hb:Hd es c <;> rw[hb]at h <;> exact h
def Xl {R:Type} (y:V) (q:List Nat) (t τ:Ty) (K:V->Option R):Option R:=
 match y,t with
 | .d (.arr M e) c,.arr m e'=>if q≠[]/\e'=e/\τ=e/\(Ty.arr m e).known=true/\q.getLastD 0+m<=M then K (.d (.arr m e) (.agg ((c.elems.drop (q.getLastD 0)).take m)))else none|_,_=>none
def ekI {R:Type} (X:Cx) (m:Nat) (dst:Nat) (o:Oper) (ρ:Operand->V) (s:S) (K:K3 R):Option R:=
 match o.op with
 | .load T x=>if di m 18=true then(match ρ x with| .ptr k q τ=>(match s.obj k with|some (.box y)=>Xl (y.at q.dropLast) q (ty X.P T) τ fun v=>K v [] []|_=>none)|_=>none)
  else(match ρ x with| .ptr k q τ=>(match s.obj k with|some (.box y)=>if(y.at q).isAny=false/\τ=ty X.P T/\τ.known=true then K (view (y.at q)) [] []else none|_=>none)| .wq τ c=>if τ=ty X.P T/\τ.known=true then K (.d τ c) [] []else none|_=>none)
 | .alloc T=>if CJ X.P T=true then K (.ptr (.l dst) [] (ty X.P T)) [(.l dst,RZ (ty X.P T) T)] []else none
 | .box _ x=>if m=5 then(if(ρ x).plain=true then(match CQ (ρ x)with|some cc=>K (.wq (ρ x).ty cc) [] []|none=>none)else none)
   else if(ρ x).plain=true/\(ρ x).BN=true then K (.ptr (.l dst) [] (ρ x).ty) [(.l dst,.box (ρ x))] []else none
 | .buildSlice t len parts=>(match ty X.P t with
   | .slice eb e=>(match len with
    |0=>if parts.toList.length=0 then K (.emp eb e) [] []else none
    |len+1=>if CJ X.P (Af X.P t)=true/\e.size≠0/\(len+1)*e.size<=16777216/\(len+1)*eb<=140737488355328/\parts.toList.map (·.1)=gq (len+1)then
      (if di m 20=true then(if(parts.toList.map (fun x=>ρ x.2)).all (fun x=>decide (x.ty=e)&&x.plain)=true/\V.Cd (parts.toList.map fun x=>ρ x.2)=true then K (.sr (.l dst) [] 0 (len+1) (some (len+1)) eb e) [(.l dst,.box (.agg (.arr (len+1) e) (parts.toList.map fun x=>ρ x.2)))] []else none)else match ED (parts.toList.map fun x=>ρ x.2)with|some cs=>if(parts.toList.map (fun x=>ρ x.2)).all (fun x=>decide (x.ty=e)&&x.plain)=true then(if m=4 then K (.sl eb e cs dst) [] [(dst,some cs.length)]else K (.d (.slice eb e) (.slice cs)) [] [])else none|none=>none)else none)
   |_=>none)
 | .build T parts=>if CJ X.P T=true/\(ty X.P T).CR=true/\(ty X.P T).isAgg=true/\Sz (ty X.P T) (Ai (ty X.P T)) (parts.toList.map fun p=>(p.1,ρ p.2))=true then
   K (JV (ty X.P T) (Ai (ty X.P T)) (parts.toList.map fun p=>(p.1,ρ p.2))) [] []else none
 | .makeSlice t l c=>(match ty X.P t with
   | .slice eb e=>if CJ X.P (Af X.P t)=true/\(ρ l).Ez/\(ρ c).Ez/\e.size≠0 then(if 0<=(ρ l).toInt/\(ρ l).toInt<=(ρ c).toInt/\(ρ c).toInt<=9223372036854775807/\(ρ c).toInt.toNat*eb<=140737488355328 then
     K (.sr (.l dst) [] 0 (ρ l).toInt.toNat (if m=9 then none else some (ρ c).toInt.toNat) eb e) [(.l dst,.box (.d (.arr (ρ l).toInt.toNat e) (.agg (List.replicate (ρ l).toInt.toNat (AO e)))))] []else none)else none
   |_=>none)
 | .makeMap T r=>(match r,Gs X.P T with|none,some (kt,et)=>K (.mp (.l dst)) [(.l dst,.map (ty X.P kt) (ty X.P et) [])] []|_,_=>none)
 | .lookup T x i ok=>(match Gs X.P T,ρ x with
   |some (kt,et),.mp k=>(match s.obj k with
     |some (.map kτ _ es)=>if kτ=ty X.P kt/\CW X.P kt=true/\CJ X.P et=true/\(ρ i).DI kτ then
       NZ (ty X.P et) es (ρ i).toC (fun r=>K (if ok then .tup [r.getD (Ai (ty X.P et)),.d .bool (.bool r.isSome)]else r.getD (Ai (ty X.P et))) [] [])else none
     |_=>none)
   |_,_=>none)
 | .call c=>(match c.callee with| .value _=>none| .builtin .append=>(match c.args.toList,c.argTypes.toList with| [x,y],[t,t']=>NR X.P m dst s t t' (ρ x) (ρ y) K|_,_=>none)| .builtin .len=>(match c.args.toList,c.argTypes.toList with| [x],[T]=>(match ρ x with| .mp k=>Px X.P s T k fun v=>K v [] []|_=>Gh X.P o.op ρ fun v=>K v [] [])|_,_=>Gh X.P o.op ρ fun v=>K v [] [])|_=>Gh X.P o.op ρ fun v=>K v [] [])| .convert src yv x=>(match strOf X.P s src yv (ρ x)with|some ys=>K (.d .str (.str (ys.map KQ))) [] []|none=>Gh X.P o.op ρ fun v=>K v [] [])|_=>Gh X.P o.op ρ fun v=>K v [] []
theorem F7 {P:Program} {md:List (Nat × Nat)} {m dst:Nat} (hm:CN md dst=m) {s:S} {A':Key->Option O} (hA:leA s.A A') {t t':TypeId} {x y:V} {R:Type} {r:R} {Kr:K3 R} {K:V->List (Key × O)->List (Nat × Option Nat)->Prop}:
  NR P m dst s t t' x y Kr=some r->(∀v lo tn,Kr v lo tn=some r->K v lo tn)->CJ P (Af P t)=true/\(match ty P t,x with| .slice eb e,.emp _ _=>Hx P (s.wA A') t' eb e y fun ys=>if CN md dst=3 then ys≠[]/\K (.sr (.l dst) [] 0 ys.length none eb e) [(.l dst,.box (.d (.arr ys.length e) (.agg ys)))] []else K (.sl eb e ys dst) [] [(dst,some ys.length)]| .slice eb e,.wo=>Hx P (s.wA A') t' eb e y fun ys=>if CN md dst=3 then ys≠[]/\K (.sr (.l dst) [] 0 ys.length none eb e) [(.l dst,.box (.d (.arr ys.length e) (.agg ys)))] []else K (.sl eb e ys dst) [] [(dst,some ys.length)]|_,_=>False):=by
 intro h hK;unfold NR at h;simp only[bt]at h;obtain⟨h0,h⟩:=h;refine⟨h0,?_⟩;generalize ty P t=τ at h ⊢;cases τ <;> (try (cases h;done))
 cases x <;> (try (cases h;done)) <;> simp only at h ⊢ <;>
  (refine TZ hA h fun ys h=>?_
   split at h;{rename_i hm3;rw[if_pos (hm.trans hm3)];simp only[bt]at h;obtain⟨h1,h⟩:=h;exact⟨by intro e1;subst e1;simp at h1,hK _ _ _ h⟩}
   ·rename_i hm3;rw[if_neg (by rw[hm];exact hm3)];exact hK _ _ _ h)
theorem q0i {X:Cx} {md:List (Nat × Nat)} {m dst:Nat} (hm:CN md dst=m) {o:Oper} {ρ:Operand->V} {s base:S} {A':Key->Option O} (hA:leA s.A A') {R:Type} {r:R} {Kr:K3 R} {K:V->List (Key × O)->List (Nat × Option Nat)->Prop} (h:ekI X m dst o ρ s Kr=some r) (hK:∀v lo tn,Kr v lo tn=some r->K v lo tn):
  iop X md base dst o ρ (s.wA A') K:=by
 unfold ekI at h;unfold iop;generalize o.op=op at h ⊢;split at h
 ·dsimp only;split at h;{rename_i z3t;rw[if_pos (by rw[hm];exact fa z3t)];split at h;{rename_i e0;simp only[e0];split at h;{rename_i e1;simp only[DT hA e1];unfold Xl at h;unfold cQ;split at h;{rename_i e2 e3;simp only[e2,e3];simp only[bt]at h;obtain⟨h1,h⟩:=h;exact⟨h1.1,h1.2.1,h1.2.2.1,h1.2.2.2.1,h1.2.2.2.2,hK _ _ _ h⟩};{cases h}};{cases h}};{cases h}};rename_i z3t;rw[if_neg fun e=>z3t (by rw[<-hm,e];rfl)];split at h;{rename_i e0;simp only[e0];split at h;{rename_i e1;simp only[DT hA e1];simp only[bt]at h;obtain⟨h1,h⟩:=h;exact⟨V.Nr h1.1,h1.2.1,h1.2.2,hK _ _ _ h⟩};{cases h}};{rename_i e0;simp only[e0];simp only[bt]at h;obtain⟨h1,h⟩:=h;exact⟨h1.1,h1.2,hK _ _ _ h⟩};{cases h}
 ·simp only[bt]at h;obtain⟨h1,h⟩:=h;exact⟨h1,hK _ _ _ h⟩
 ·dsimp only;split at h;{rename_i hm5;rw[if_pos (hm.trans hm5)];simp only[bt]at h;obtain⟨h1,h⟩:=h;split at h;{rename_i cc hcc;rw[hcc];exact⟨h1,hK _ _ _ h⟩};{cases h}};{rename_i hm5;rw[if_neg (by rw[hm];exact hm5)];simp only[bt]at h;obtain⟨h1,h⟩:=h;exact⟨h1.1,h1.2,hK _ _ _ h⟩}
 ·rename_i t len parts;dsimp only;generalize ty X.P t=τ at h ⊢;cases τ <;> (try (cases h;done));cases len with
  |zero=>
   simp only[bt]at h;obtain⟨h1,h⟩:=h;exact⟨h1,hK _ _ _ h⟩
  |succ len=>
   simp only[bt]at h;obtain⟨h1,h⟩:=h;refine⟨h1.1,h1.2.1,h1.2.2.1,h1.2.2.2.1,h1.2.2.2.2,?_⟩;split at h;{rename_i h20;rw[if_pos (by rw[hm];exact fa h20)];simp only[bt]at h;obtain⟨h2,h⟩:=h;exact⟨fun x hx=>by have:=eh.1 h2.1 x hx;simpa using this,h2.2,hK _ _ _ h⟩};rename_i h20;rw[if_neg fun e=>h20 (by rw[<-hm,e];rfl)];split at h;{rename_i e0;rw[e0];simp only[bt]at h;obtain⟨h2,h⟩:=h;refine⟨fun x hx=>?_,?_⟩;{have:=eh.1 h2 x hx;simpa using this};{rw[hm];split at h;{rename_i e4;rw[if_pos e4];exact hK _ _ _ h};{rename_i e4;rw[if_neg e4];exact hK _ _ _ h}}};{cases h}
 ·simp only[bt]at h;obtain⟨h1,h⟩:=h;exact⟨h1.1,h1.2.1,h1.2.2.1,fZ h1.2.2.2,hK _ _ _ h⟩
 ·rename_i t _ _;dsimp only;generalize ty X.P t=τ at h ⊢;cases τ <;> (try (cases h;done));simp only[bt]at h;obtain⟨h1,h⟩:=h;obtain⟨h2,h⟩:=h;exact⟨h1.1,h1.2.1,h1.2.2.1,h2.1,h2.2.1,h2.2.2.1,h2.2.2.2,h1.2.2.2,by rw[hm];exact hK _ _ _ h⟩
 ·split at h;{rename_i e0;simp only[e0];exact hK _ _ _ h};{cases h}
 ·split at h;{rename_i e0 e1;simp only[e0,e1];split at h;{rename_i e2;simp only[DT hA e2];simp only[bt]at h;obtain⟨h1,h⟩:=h;refine⟨h1.1,h1.2.1,h1.2.2.1,h1.2.2.2,?_⟩;exact hK _ _ _ (q0q h)};{cases h}};{cases h}
 ·split at h;{cases h};{rename_i e0;simp only[e0];split at h;{rename_i e1 e2;simp only[e1,e2];exact F7 hm hA h hK};{cases h}};{rename_i e0;simp only[e0];split at h;{rename_i e1 e2;simp only[e1,e2];split at h;{rename_i e3;simp only[e3];unfold Px at h;split at h;{rename_i e4 e5;simp only[bt]at h;obtain⟨h2,h⟩:=h;simp only[e4,DT hA e5];exact⟨h2,hK _ _ _ h⟩};{cases h}};{rename_i hx;split;{rename_i k hk;exact(hx k hk).elim};{exact QA h (fun v h=>hK _ _ _ h)}}};{rename_i hx;split;{rename_i a b hk hk2;exact(hx _ _ hk hk2).elim};{exact QA h (fun v h=>hK _ _ _ h)}}};{rename_i h1 h2 h3;dsimp only;split;{rename_i e;exact(h1 _ e).elim};{rename_i e;exact(h2 e).elim};{rename_i e;exact(h3 e).elim};{exact QA h (fun v h=>hK _ _ _ h)}}
 ·split at h;{rename_i e0;simp only[q6j hA e0];exact hK _ _ _ h};{have hp:=QA (K:=fun y=>K y [] []) h (fun v h=>hK _ _ _ h);dsimp only;split;{rename_i e1;exact(q6i (K:=fun y=>K y [] []) e1 hp).elim};{exact hp}}
 ·split <;> first
   |exact QA h (fun v h=>hK _ _ _ h)|(rename_i hx;exact(hx _ rfl).elim)|(rename_i hx _;exact(hx _ _ rfl).elim)|(rename_i hx _ _ _ _;exact(hx _ _ _ _ rfl).elim)|(rename_i hx _ _ _ _ _;exact(hx _ _ _ _ rfl).elim)|(exfalso;simp[Gh]at h;done)|simp_all
abbrev KS (R:Type):=V->S->Option R
def Kj (s:S) (t n:Nat):Option Bool:=
 match s.live t with
 |some m=>some (di m n)|none=>none
mutual
def V.KF (lv:Nat->Option Nat):List Nat->V->List (Nat × List Nat)
 |p,.sl _ _ _ t=>(match lv t with|some _=>[(t,p)]|none=>[])|p,.agg _ vs=>V.Vm lv p 0 vs|_,_=>[]
def V.Vm (lv:Nat->Option Nat):List Nat->Nat->List V->List (Nat × List Nat)
 |_,_,[]=>[]|p,i,x::xs=>V.KF lv (p++[i]) x++V.Vm lv p (i+1) xs
end
mutual
def V.Lq (σ:List (Nat × List Nat)) (lv:Nat->Option Nat):List Nat->V->V
 |p,.sl eb e cs t=>(match lv t with|some _=>if look σ t=some p then .ts eb e cs else .d (.slice eb e) (.slice cs)|none=>.d (.slice eb e) (.slice cs))|p,.agg τ vs=>.agg τ (V.UA σ lv p 0 vs)|_,x=>x
def V.UA (σ:List (Nat × List Nat)) (lv:Nat->Option Nat):List Nat->Nat->List V->List V
 |_,_,[]=>[]|p,i,x::xs=>V.Lq σ lv (p++[i]) x::V.UA σ lv p (i+1) xs
end
mutual
def V.GV (lv:Nat->Option Nat):V->Bool
 | .sl _ _ cs t=>(match lv t with|some m=>di m cs.length|none=>true)| .agg _ vs=>V.Jv lv vs|_=>true
def V.Jv (lv:Nat->Option Nat):List V->Bool
 | []=>true|x::xs=>(match x with| .sl _ _ _ _| .agg _ _=>x.GV lv&&V.Jv lv xs|_=>V.Jv lv xs)
end
mutual
theorem V.cE {lv:Nat->Option Nat}:∀(x:V) (p:List Nat),x.GV lv=true->x.sites lv p=x.KF lv p
 | .sl _ _ cs t,p,h=>by simp only[V.GV]at h;simp only[rq,V.KF];split at h;{rename_i m e;rw[e,fa h];simp};{rename_i e;rw[e];simp}
 | .agg _ vs,p,h=>by simp only[V.GV]at h;simp only[rq,V.KF,V.vS vs p 0 h]
 | .d _ _,_,_| .ts _ _ _,_,_| .emp _ _,_,_| .wo,_,_| .ptr _ _ _,_,_| .wq _ _,_,_| .sr _ _ _ _ _ _ _,_,_| .mp _,_,_| .fn _ _,_,_| .tup _,_,_| .top _,_,_| .any,_,_=>by simp[rq,V.KF]
theorem V.vS {lv:Nat->Option Nat}:∀(xs:List V) (p:List Nat) (i:Nat),V.Jv lv xs=true->V.SL lv p i xs=V.Vm lv p i xs
 | [],_,_,_=>rfl|x::xs,p,i,h=>by
  have hx:x.GV lv=true/\V.Jv lv xs=true:=by simp only[V.Jv]at h;split at h;{simpa using h};{simpa using h};{rename_i h1 h2;refine⟨?_,h⟩;cases x <;> first|rfl|exact absurd rfl (h1 _ _ _ _)|exact absurd rfl (h2 _ _)}
  simp only[V.SL,V.Vm,V.cE x _ hx.1,V.vS xs p (i+1) hx.2]
end
mutual
theorem V.YY {lv:Nat->Option Nat} {σ:List (Nat × List Nat)}:∀(x:V) (p:List Nat),x.GV lv=true->x.CI σ lv p=x.Lq σ lv p
 | .sl _ _ cs t,p,h=>by simp only[V.GV]at h;simp only[V.CI,V.Lq];split at h;{rename_i m e;rw[e,fa h];simp};{rename_i e;rw[e];simp}
 | .agg _ vs,p,h=>by simp only[V.GV]at h;simp only[V.CI,V.Lq,V.mK vs p 0 h]
 | .d _ _,_,_| .ts _ _ _,_,_| .emp _ _,_,_| .wo,_,_| .ptr _ _ _,_,_| .wq _ _,_,_| .sr _ _ _ _ _ _ _,_,_| .mp _,_,_| .fn _ _,_,_| .tup _,_,_| .top _,_,_| .any,_,_=>by simp[V.CI,V.Lq]
theorem V.mK {lv:Nat->Option Nat} {σ:List (Nat × List Nat)}:∀(xs:List V) (p:List Nat) (i:Nat),V.Jv lv xs=true->V.Hf σ lv p i xs=V.UA σ lv p i xs
 | [],_,_,_=>rfl|x::xs,p,i,h=>by
  have hx:x.GV lv=true/\V.Jv lv xs=true:=by simp only[V.Jv]at h;split at h;{simpa using h};{simpa using h};{rename_i h1 h2;refine⟨?_,h⟩;cases x <;> first|rfl|exact absurd rfl (h1 _ _ _ _)|exact absurd rfl (h2 _ _)}
  simp only[V.Hf,V.UA,V.YY x _ hx.1,V.mK xs p (i+1) hx.2]
end
def WD (s:S):Nat->Nat->Nat
 |0,d=>d|f+1,d=>if(s.obj (.l d)).isNone=true then d else WD s f (d+100000000)
def ekT {R:Type} (X:Cx) (m:Nat) (dst:Nat) (o:Oper) (ρ:Operand->V) (s:S) (K:KS R):Option R:=
 match o.op with
 | .store T p y=>(match ρ p with
   | .ptr k q τ=>(match s.obj k with
     |some (.box x)=>if τ=ty X.P T/\τ.known=true/\(CL τ (ρ y)).ty=τ/\(CL τ (ρ y)).plain=true/\(x.at q).isAny=false/\x.ty.CR=true/\(CL τ (ρ y)).okH=true then
       (match CL τ (ρ y)with
       | .sl eb e cs t=>(match Kj s t cs.length with|some b=>(bif b then K .any ((s.put k (.box (x.setAt q (.ts eb e cs)))).tok t none)else none)|none=>K .any (s.put k (.box (x.setAt q (.d (.slice eb e) (.slice cs))))))|z=>(bif z.GV s.live then K .any (EH (z.KF s.live q) (s.put k (.box (x.setAt q (z.Lq (z.KF s.live q) s.live q)))))else none))else none
     |_=>none)
   |_=>none)
 | .box _ x=>if(ρ x).plain=true/\(ρ x).okH=true/\(s.obj (.l dst)).isNone then
   (bif (ρ x).GV s.live then K (.ptr (.l dst) [] (ρ x).ty) (EH ((ρ x).KF s.live []) (s.put (.l dst) (.box ((ρ x).Lq ((ρ x).KF s.live []) s.live []))))else none)else none
 | .load T x=>(match ρ x with| .ptr k q τ=>(match s.obj k with|some (.box y)=>(match y.at q with| .ts eb e cs=>if m=1/\τ=ty X.P T/\τ= .slice eb e/\y.ty.CR=true/\s.known dst=false then K (.sl eb e cs dst) ((s.put k (.box (y.setAt q (.d (.slice eb e) (.slice cs))))).tok dst (some cs.length))else none|_=>none)|_=>none)|_=>none)
 | .mapUpdate T x i y=>(match Gs X.P T,ρ x with
   |some (kt,et),.mp k=>(match s.obj k with
     |some (.map kτ vτ es)=>if kτ=ty X.P kt/\vτ=ty X.P et/\CW X.P kt=true/\kτ.flat=true/\(ρ i).DI kτ/\(CL vτ (ρ y).CK).ty=vτ/\(CL vτ (ρ y).CK).plain=true/\(CL vτ (ρ y).CK).BN=true then
       K .any (s.put k (.map kτ vτ (Fg es (ρ i).toC (CL vτ (ρ y).CK))))else none
     |_=>none)
   |_,_=>none)
 | .call c=>(match c.callee with
   | .builtin .append=>(match c.args.toList,c.argTypes.toList with
     | [x,y],[t,t']=>if CJ X.P (Af X.P t)=true then(match ty X.P t,ρ x with
       | .slice eb e,.sl eb' e' cs tk=>if eb'=eb/\e'=e then(match Kj s tk cs.length with|some b=>(bif b then(IM X.P s t' eb e (ρ y) fun ys=>if(cs.length+ys.length)*eb<=140737488355328/\cs.length+ys.length<=maxLen then K (.sl eb e (cs++ys) tk) (s.tok tk (some (cs.length+ys.length)))else none)else none)|none=>none)else none
       | .slice eb e,.sr k q lo n cp eb' e'=>if q=[]/\lo=0/\cp.isNone=true/\eb'=eb/\e'=e then(match s.obj k with
         |some (.box (.d τ cc))=>(match τ with
          | .arr M e2=>if e2=e/\(s.obj (.l (WD s 8 dst))).isNone then
            IM X.P s t' eb e (ρ y) (fun ys=>if(n+ys.length)*eb<=140737488355328/\n+ys.length<=maxLen then
             K (.sr (.l (WD s 8 dst)) [] 0 (n+ys.length) none eb e) ((s.put k (.dead (.arr M e))).put (.l (WD s 8 dst)) (.box (.d (.arr (n+ys.length) e) (.agg (cc.elems.take n++ys)))))else none)else none
          |_=>none)
         |_=>none)else none
       |_,_=>none)else none
     |_,_=>none)
   | .builtin .copy=>(match c.args.toList,c.argTypes.toList with
     | [x,y],[t,t']=>if CJ X.P (Af X.P t)=true then(match ty X.P t,ρ x with
       | .slice eb e,.sr k q lo n cp eb' e'=>if cp.isSome=true/\eb'=eb/\e'=e then(match s.obj k with
         |some (.box Z)=>(match Z.at q with
          | .d τ cc=>(match τ with
           | .arr m e2=>if e2=e/\Z.ty.CR=true then(if 0<n then
             IM X.P s t' eb e (ρ y) (fun ys=>K (.d (.int .i64) (.int (min ys.length n:Nat))) (s.put k (.box (Z.setAt q (.d (.arr m e) (.agg (Ec cc.elems lo n ys)))))))else none)else none
           |_=>none)
          |_=>none)
         |_=>none)else none
       |_,_=>none)else none
     |_,_=>none)
   |_=>none)
 |_=>none
theorem q1q {lv:Nat->Option Nat} {σ:List (Nat × List Nat)} {p:List Nat} {eb:Nat} {e:Ty} {cs:List C} {t:Nat} (h:look σ t=some p) (hl:lv t=some cs.length):V.CI σ lv p (.sl eb e cs t)= .ts eb e cs:=by simp only[V.CI];exact if_pos ⟨h,hl⟩
theorem q1p {lv:Nat->Option Nat} {σ:List (Nat × List Nat)} {p:List Nat} {eb:Nat} {e:Ty} {cs:List C} {t:Nat} (hl:lv t=none):V.CI σ lv p (.sl eb e cs t)= .d (.slice eb e) (.slice cs):=by simp only[V.CI];exact if_neg (by rw[hl];simp)
theorem ZC {s:S} {t n:Nat} (h:Kj s t n=some true):s.live t=some n:=by unfold Kj at h;split at h;{rename_i m e;rw[e,fa (ng h)]};{cases h}
theorem q0E {X:Cx} {md:List (Nat × Nat)} {m dst:Nat} (hm:CN md dst=m) {o:Oper} {ρ:Operand->V} {s:S} {A':Key->Option O} (hA:leA s.A A') {R:Type} {r:R} {Kr:KS R} {K:V->S->Prop} (h:ekT X m dst o ρ s Kr=some r) (hK:∀v s1,Kr v s1=some r->K v (s1.wA A')):
  top X md dst o ρ (s.wA A') K:=by
 unfold ekT at h;unfold top;generalize o.op=op at h ⊢;split at h
 ·split at h
  ·rename_i e0;simp only[e0];split at h
   ·rename_i e1;simp only[DT hA e1];simp only[bt]at h;obtain⟨h1,h⟩:=h;refine⟨h1.1,h1.2.1,h1.2.2.1,h1.2.2.2.1,V.Nr h1.2.2.2.2.1,h1.2.2.2.2.2.1,h1.2.2.2.2.2.2,?_⟩;split at h
    ·rename_i eb e cs t e2;rw[e2];split at h
     ·rename_i b e3;cases b with
      |false=>cases h
      |true=>
       have hl:=ZC (s:=s) e3;have hK:=hK _ _ h;have e4:∀p,rq (s.wA A').live p (V.sl eb e cs t)=[(t,p)]:=by intro p;simp only[rq];exact if_pos hl
       rw[e4,q1q (lv:=(s.wA A').live) (σ:=[(t,_)]) (by simp[look]) hl];exact hK
     ·rename_i e3;have hl:s.live t=none:=by unfold Kj at e3;split at e3;{cases e3};{rename_i e5;exact e5}
      have hK:=hK _ _ h;have e4:∀p,rq (s.wA A').live p (V.sl eb e cs t)=[]:=by intro p;simp only[rq];exact if_neg (by rw[q2J,hl];simp)
      rw[e4,q1p (lv:=(s.wA A').live) hl];exact hK
    ·rename_i z hz;generalize CL _ (ρ _)=z at h ⊢;cases hn:z.GV s.live with
     |false=>rw[hn]at h;cases h
     |true=>
     rw[hn,cond_true,<-V.cE z _ hn,<-V.YY z _ hn]at h;have hK:=hK _ _ h;rw[<-UF]at hK;exact hK
   ·cases h
  ·cases h
 ·simp only[bt]at h;obtain⟨h1,h⟩:=h;rename_i _ x;cases hn:(ρ x).GV s.live with
  |false=>rw[hn]at h;cases h
  |true=>
  rw[hn,cond_true,<-V.cE (ρ x) _ hn,<-V.YY (ρ x) _ hn]at h;have hK:=hK _ _ h;rw[<-UF]at hK;exact⟨h1.1,h1.2.1,by rw[Jw];simpa using h1.2.2,hK⟩
 ·split at h;{rename_i e0;simp only[e0];split at h;{rename_i e1;simp only[DT hA e1];split at h;{rename_i e2;simp only[e2];simp only[bt]at h;obtain⟨h1,h⟩:=h;exact⟨hm.trans h1.1,h1.2.1,h1.2.2.1,h1.2.2.2.1,h1.2.2.2.2,hK _ _ h⟩};{cases h}};{cases h}};{cases h}
 ·split at h;{rename_i e0 e1;simp only[e0,e1];split at h;{rename_i e2;simp only[DT hA e2];simp only[bt]at h;obtain⟨h1,h⟩:=h;have hK:=hK _ _ h;rw[tT]at hK;exact⟨h1.1,h1.2.1,h1.2.2.1,h1.2.2.2.1,h1.2.2.2.2.1,h1.2.2.2.2.2.1,h1.2.2.2.2.2.2.1,h1.2.2.2.2.2.2.2,hK⟩};{cases h}};{cases h}
 ·split at h
  ·rename_i e0;simp only[e0];split at h
   ·rename_i e1 e2;simp only[e1,e2];simp only[bt]at h;obtain⟨h0,h⟩:=h;refine⟨h0,?_⟩;split at h
    ·rename_i e3 e4;simp only[e3,e4];simp only[bt]at h;obtain⟨h1,h⟩:=h;split at h
     ·rename_i b e5;cases b with
      |false=>cases h
      |true=>
       simp only[cond_true]at h;refine⟨h1.1,h1.2,ZC (s:=s) e5,?_⟩;refine TZ hA h fun ys h=>?_;simp only[bt]at h;obtain⟨h2,h⟩:=h;exact⟨h2.1,h2.2,hK _ _ h⟩
     ·cases h
    ·rename_i e3 e4;simp only[e3,e4];simp only[bt]at h;obtain⟨⟨rfl,rfl,hcp,h1⟩,h⟩:=h;rename_i cp _ _;cases cp with
     |some c=>cases hcp
     |none=>
      split at h;{rename_i e5;simp only[DT hA e5];split at h;{simp only[bt]at h;obtain⟨⟨h2,h3⟩,h⟩:=h;refine⟨h1.1,h1.2,h2,_,by rw[Jw];simpa using h3,?_⟩;refine TZ hA h fun ys h=>?_;simp only[bt]at h;obtain⟨h4,h⟩:=h;exact⟨h4.1,h4.2,hK _ _ h⟩};{cases h}};{cases h}
    ·cases h
   ·cases h
  ·rename_i e0;simp only[e0];split at h
   ·rename_i e1 e2;simp only[e1,e2];simp only[bt]at h;obtain⟨h0,h⟩:=h;refine⟨h0,?_⟩;split at h
    ·rename_i e3 e4;simp only[e3,e4];simp only[bt]at h;obtain⟨⟨hcp,rfl,rfl⟩,h⟩:=h;rename_i cp _ _;cases cp with
     |none=>cases hcp
     |some c0=>
      split at h;{rename_i e5;simp only[DT hA e5];split at h;{rename_i e6;split at h;{rename_i m e2';simp only[e6];simp only[bt]at h;obtain⟨⟨rfl,h3⟩,h4,h⟩:=h;refine⟨by trivial,by trivial,by trivial,h3,h4,?_⟩;refine TZ hA h fun ys h=>?_;exact hK _ _ h};{cases h}};{cases h}};{cases h}
    ·cases h
   ·cases h
  ·cases h
 ·cases h
theorem q0l {R:Type} (op:BinOp) (k:IntKind) (a b:Int) (K:V->Option R):NX op k a b K=(NX op k a b some).bind K:=by unfold NX;split <;> first|rfl|(split <;> rfl)
theorem q0u {R:Type} (op:BinOp) (k:IntKind) (a b:Int) (K:V->Option R):Na op k a b K=(Na op k a b some).bind K:=by unfold Na;split <;> first|rfl|(split <;> rfl)
theorem q0B {R:Type} (op:BinOp) (a b:List UInt8) (K:V->Option R):Nd op a b K=(Nd op a b some).bind K:=by unfold Nd;split <;> first|rfl|(split <;> rfl)
theorem jF {R:Type} (op:BinOp) (b:Bool) (K:V->Option R):Lj op b K=(Lj op b some).bind K:=by unfold Lj;split <;> rfl
theorem q0a {R:Type} (op:BinOp) (a b:Bool) (K:V->Option R):Pv op a b K=(Pv op a b some).bind K:=by unfold Pv;split <;> rfl
theorem q0r {R:Type} (op:BinOp) (a b:Option Bool) (K:V->Option R):Pz op a b K=(Pz op a b some).bind K:=by unfold Pz;split <;> rfl
theorem q0x {R:Type} (op:BinOp) (a:Option (Option Bool)) (b:V) (K:V->Option R):QB op a b K=(QB op a b some).bind K:=by unfold QB;split <;> rfl
theorem F8 {R:Type} (P:Program) (op:BinOp) (T:TypeId) (x y:V) (K:V->Option R):NS P op T x y K=(NS P op T x y some).bind K:=by unfold NS;split;{split;{split;{split;{exact q0u ..};{rfl}};{split;{exact q0l ..};{rfl}}};{rfl}};{split;{exact q0a ..};{rfl}};{split;{exact q0B ..};{rfl}};{exact q0r ..};{split;{exact jF ..};{rfl}};{split;{exact jF ..};{rfl}};{exact q0x ..};{rfl}
theorem q0y {R:Type} (P:Program) (T:TypeId) (x:V) (lo hi mx:Option V) (K:V->Option R):Nb P T x lo hi mx K=(Nb P T x lo hi mx some).bind K:=by
 unfold Nb
 repeat' (first|rfl|split)
theorem q0o {R:Type} (P:Program) (T:TypeId) (x:V) (K:V->Option R):NY P T x K=(NY P T x some).bind K:=by
 unfold NY
 repeat' (first|rfl|split)
theorem q0j {R:Type} (P:Program) (T:TypeId) (x i:V) (K:V->Option R):NW P T x i K=(NW P T x i some).bind K:=by
 unfold NW
 repeat' (first|rfl|split)
theorem q0f {R:Type} (P:Program) (T:TypeId) (x:V) (i:Nat) (K:V->Option R):NV P T x i K=(NV P T x i some).bind K:=by
 unfold NV
 repeat' (first|rfl|split)
theorem q0G {R:Type} (P:Program) (op:UnOp) (T:TypeId) (x:V) (K:V->Option R):Nf P op T x K=(Nf P op T x some).bind K:=by
 unfold Nf
 repeat' (first|rfl|split)
theorem q0d {R:Type} (P:Program) (a b:TypeId) (x:V) (K:V->Option R):NU P a b x K=(NU P a b x some).bind K:=by
 unfold NU
 repeat' (first|rfl|split)
theorem q0b {R:Type} (P:Program) (b:Builtin) (ts:Array TypeId) (xs:List V) (K:V->Option R):NT P b ts xs K=(NT P b ts xs some).bind K:=by
 unfold NT
 repeat' (first|rfl|exact q0o .. |split)
theorem jP {R:Type} (P:Program) (op:Op) (ρ:Operand->V) (K:V->Option R):Gh P op ρ K=(Gh P op ρ some).bind K:=by unfold Gh;split;{rfl};{rfl};{split;{cases(ρ _).toBool <;> rfl};{rfl}};{split <;> rfl};{exact F8 ..};{exact q0G ..};{exact q0d ..};{exact q0f ..};{split <;> rfl};{exact q0j ..};{repeat' (first|rfl|split)};{exact q0y ..};{repeat' (first|rfl|split)};{repeat' (first|rfl|split)};{repeat' (first|rfl|split)};{repeat' (first|rfl|exact q0b .. |split)};{rfl}
theorem KW {R:Type} (P:Program) (s:S) (t':TypeId) (eb:Nat) (e:Ty) (Y:V) (K:List C->Option R):IM P s t' eb e Y K=(IM P s t' eb e Y some).bind K:=by
 unfold IM
 repeat' (first|rfl|split)
def K3.run {R:Type} (K:K3 R) (r:RI):Option R:=K r.1 r.2.1 r.2.2
def ri:K3 RI:=fun v lo tn=>some (v,lo,tn)
theorem LV {α β γ:Type} (x:Option α) (f:α->Option β) (g:β->Option γ):(x.bind f).bind g=x.bind fun a=>(f a).bind g:=by cases x <;> rfl
theorem F6 {R:Type} (P:Program) (m dst:Nat) (s:S) (t t':TypeId) (x y:V) (K:K3 R):NR P m dst s t t' x y K=(NR P m dst s t t' x y ri).bind K.run:=by
 have key:∀eb e,(IM P s t' eb e y fun ys=>if m=3 then(if ys.isEmpty=false then K (.sr (.l dst) [] 0 ys.length none eb e) [(.l dst,.box (.d (.arr ys.length e) (.agg ys)))] []else none)else K (.sl eb e ys dst) [] [(dst,some ys.length)])=
   (IM P s t' eb e y fun ys=>if m=3 then(if ys.isEmpty=false then ri (.sr (.l dst) [] 0 ys.length none eb e) [(.l dst,.box (.d (.arr ys.length e) (.agg ys)))] []else none)else ri (.sl eb e ys dst) [] [(dst,some ys.length)]).bind K.run:=by
  intro eb e;rw[KW,KW P s t' eb e y (fun ys=>if m=3 then(if ys.isEmpty=false then ri _ _ _ else none)else ri _ _ _),LV];congr 1;funext ys
  repeat' (first|rfl|split)
 unfold NR;split;{split;{split;{exact key _ _};{exact key _ _};{rfl}};{rfl}};{rfl}
theorem jK {R:Type} (P:Program) (s:S) (T:TypeId) (k:Key) (K:V->Option R):Px P s T k K=(Px P s T k some).bind K:=by
 unfold Px
 repeat' (first|rfl|split)
theorem jM {R:Type} (τ:Ty) (c:C) (K:Option V->Option R) (es:List (C × V)):NZ τ es c K=(NZ τ es c some).bind K:=by unfold NZ;cases DY τ es <;> cases Hd es c <;> rfl
theorem q0h {R:Type} (X:Cx) (m dst:Nat) (o:Oper) (ρ:Operand->V) (s:S) (K:K3 R):ekI X m dst o ρ s K=(ekI X m dst o ρ s ri).bind K.run:=by
 have pv:∀op,Gh X.P op ρ (fun v=>K v [] [])=(Gh X.P op ρ fun v=>ri v [] []).bind K.run:=by intro op;rw[jP,jP X.P op ρ (fun v=>ri v [] []),LV];rfl
 unfold ekI;generalize o.op=op;split;{unfold Xl;repeat' (first|rfl|split)};{repeat' (first|rfl|split)};{repeat' (first|rfl|split)};{repeat' (first|rfl|split)};{repeat' (first|rfl|split)};{repeat' (first|rfl|split)};{repeat' (first|rfl|split)};{split;{split;{split;{rw[jM,jM _ _ (fun r=>ri _ [] []),LV];rfl};{rfl}};{rfl}};{rfl}};{split;{rfl};{split;{exact F6 ..};{rfl}};{split;{split;{rw[jK,jK X.P s _ _ (fun v=>ri v [] []),LV];rfl};{exact pv _}};{exact pv _}};{exact pv _}};{split;{rfl};{exact pv _}};{exact pv _}
def rs:KS (V × S):=fun v s=>some (v,s)
def KS.run {R:Type} (K:KS R) (r:V × S):Option R:=K r.1 r.2
theorem fK {α R:Type} (b:Bool) (x:Option α) (f:α->Option R):(bif b then x.bind f else none)=(bif b then x else none).bind f:=by cases b <;> rfl
theorem q0D {R:Type} (X:Cx) (m dst:Nat) (o:Oper) (ρ:Operand->V) (s:S) (K:KS R):ekT X m dst o ρ s K=(ekT X m dst o ρ s rs).bind K.run:=by
 unfold ekT;split;{repeat' (first|rfl|exact fK _ (rs _ _) K.run|split)};{repeat' (first|rfl|exact fK _ (rs _ _) K.run|split)};{repeat' (first|rfl|split)};{repeat' (first|rfl|split)}
 ·split
  ·split
   ·split
    ·split
     ·split
      ·split
       ·rename_i b _;cases b;{rfl}
        ·simp only[cond_true];rw[KW,KW X.P s _ _ _ _ (fun ys=>if(_+ys.length)*_<=140737488355328/\_ then rs _ _ else none),LV];congr 1;funext ys
         repeat' (first|rfl|split)
       ·rfl
      ·rfl
     ·split
      ·split
       ·split
        ·split
         ·rw[KW,KW X.P s _ _ _ _ (fun ys=>if _/\_ then rs _ _ else none),LV];congr 1;funext ys
          repeat' (first|rfl|split)
         ·rfl
        ·rfl
       ·rfl
      ·rfl
     ·rfl
    ·rfl
   ·rfl
  ·split
   ·split
    ·split
     ·split
      ·split
       ·split;{split;{split;{split;{rw[KW,KW X.P s _ _ _ _ (fun ys=>rs _ _),LV];rfl};{rfl}};{rfl}};{rfl}};{rfl}
       ·rfl
      ·rfl
     ·rfl
    ·rfl
   ·rfl
  ·rfl
 ·rfl
theorem TX {X:Cx} {m dst:Nat} {o:Oper} {ρ:Operand->V} {s:S} {R:Type} {r:R} {Kr:K3 R} (h:ekI X m dst o ρ s Kr=some r):
  ∃v lo tn,Kr v lo tn=some r/\∀A',leA s.A A'->∀(md:List (Nat × Nat)) (base:S),CN md dst=m->∀K:V->List (Key × O)->List (Nat × Option Nat)->Prop,K v lo tn->iop X md base dst o ρ (s.wA A') K:=by
 rw[q0h]at h;cases h1:ekI X m dst o ρ s ri with
 |none=>rw[h1]at h;cases h
 |some x=>
  obtain⟨v,lo,tn⟩:=x;rw[h1]at h;refine⟨v,lo,tn,h,fun A' hA md base hm K hK=>q0i hm hA h1 fun v' lo' tn' e=>?_⟩;simp only[ri,eu,gb]at e;obtain⟨rfl,rfl,rfl⟩:=e;exact hK
theorem Xm {X:Cx} {m dst:Nat} {o:Oper} {ρ:Operand->V} {s:S} {R:Type} {r:R} {Kr:KS R} (h:ekT X m dst o ρ s Kr=some r):
  ∃v s1,Kr v s1=some r/\∀A',leA s.A A'->∀(md:List (Nat × Nat)),CN md dst=m->∀K:V->S->Prop,K v (s1.wA A')->top X md dst o ρ (s.wA A') K:=by
 rw[q0D]at h;cases h1:ekT X m dst o ρ s rs with
 |none=>rw[h1]at h;cases h
 |some x=>
  obtain⟨v,s1⟩:=x;rw[h1]at h;refine⟨v,s1,h,fun A' hA md hm K hK=>q0E hm hA h1 fun v' s' e=>?_⟩;simp only[rs,eu,gb]at e;obtain⟨rfl,rfl⟩:=e;exact hK
abbrev Dy (R:Type):=FuncId->List V->(Key->Option O)->(V->List (Key × O)->Option R)->Option R
def Ik (X:Cx) {R:Type} (call:Dy R):Prop:=∀f xs A Kr r,call f xs A Kr=some r->∃v L,Bn X f xs A v L/\Kr v L=some r
def Kp {R:Type} (tip:Bool) (s:S):List V->Option R->Option R
 | [],r=>r|x::xs,r=>match x with| .sl _ _ cs t=>bif tip then(match s.live t with|some m=>bif di m cs.length then Kp tip s xs r else none|none=>Kp tip s xs r)else Kp tip s xs r|_=>Kp tip s xs r
def Mt (P:Program) (tip:Bool) (s:S) (T:TypeId) (x:V):V:=
 match x with
 | .sl eb e cs t=>bif tip then(match s.live t with|some _=>.ts eb e cs|none=>.d (.slice eb e) (.slice cs))else .d (.slice eb e) (.slice cs)|x=>Df P tip s T x
def Ss (P:Program) (tip:Bool) (s:S):List TypeId->List V->List V
 |T::Ts,x::xs=>Mt P tip s T x::Ss P tip s Ts xs|_,_=>[]
def Mu (tip:Bool) (s:S) (x:V):Option (Option Nat):=
 match x with
 | .sl _ _ _ t=>bif tip then(match s.live t with|some _=>some (some t)|none=>none)else none|x=>Ce tip s x
def Rl (tip:Bool) (s:S):List V->List Nat
 | []=>[]|x::xs=>(match Mu tip s x with|some (some t)=>[t] |_=>[])++Rl tip s xs
def S.Vc (s:S) (tip:Bool) (ys:List V) (d:Nat) (v:V) (L:List (Key × O)):S:=GY d (v.tkR 2000) (Ft (Rl tip s ys) (Ff d L s))
theorem Zl {R:Type} {P:Program} {tip:Bool} {s:S} {r0:Option R} {r:R}:∀{ys:List V},Kp tip s ys r0=some r->
  r0=some r/\Rl tip s ys=Ck tip s ys/\∀Ts,Ss P tip s Ts ys=Cr P tip s Ts ys
 | [],h=>⟨h,rfl,fun Ts=>by cases Ts <;> rfl⟩|x::xs,h=>by
  suffices hs:Kp tip s xs r0=some r/\Mu tip s x=Ce tip s x/\∀T,Mt P tip s T x=Df P tip s T x by
   obtain⟨h1,h2,h3⟩:=hs;obtain⟨g1,g2,g3⟩:=Zl (P:=P) h1;refine⟨g1,by simp only[Rl,Ck,h2,g2];rfl,fun Ts=>?_⟩;cases Ts with
   |nil=>rfl|cons T Ts=>simp only[Ss,Cr,h3,g3]
  unfold Kp at h;split at h
  ·rename_i eb e cs t;cases tip with
   |false=>exact⟨h,by simp[Mu,Ce],fun T=>by simp[Mt,Df]⟩|true=>
    simp only[cond_true]at h;split at h
    ·rename_i m hm;cases hb:di m cs.length with
     |false=>rw[hb]at h;cases h
     |true=>
      rw[hb]at h;have:=fa hb;subst this;exact⟨h,by simp[Mu,Ce,hm],fun T=>by simp[Mt,Df,hm]⟩
    ·rename_i hm;exact⟨h,by simp[Mu,Ce,hm],fun T=>by simp[Mt,Df,hm]⟩
  ·rename_i hx;refine⟨h,?_,fun T=>?_⟩;{unfold Mu;split;{exact absurd rfl (hx _ _ _ _)};{rfl}};{unfold Mt;split;{exact absurd rfl (hx _ _ _ _)};{rfl}}
def Je {R:Type} (X:Cx) (call:Dy R) (tip:Bool) (o:Oper) (ρ:Operand->V) (s:S) (K:V->List (Key × O)->Option R):Option R:=
 match o.op with
 | .call c=>(match c.callee with
  | .value fo=>(match ρ fo with
   | .fn f wx=>Kp tip s (EK (c.args.toList.map ρ) wx) (if Iq X.P f=true/\c.argTypes.toList.length=c.args.toList.length/\GC (Rl tip s (EK (c.args.toList.map ρ) wx))=true then
      call f (Ss X.P tip s (JX c.argTypes.toList wx) (EK (c.args.toList.map ρ) wx)) s.up K else none)
   |_=>none)
  |_=>none)
 |_=>none
theorem Xh {X:Cx} {R:Type} {call:Dy R} (hc:Ik X call) {dst:Nat} {o:Oper} {ρ:Operand->V} {base s B:S} (hB:B=base\/B=base.see s (Ej o ρ)) {r:R} {Kr:V->List (Key × O)->Option R} (h:Je X call false o ρ B Kr=some r):
  ∃v L,Kr v L=some r/\∀A',leA B.A A'->∀(md:List (Nat × Nat)) (K:V->List (Key × O)->List (Nat × Option Nat)->Prop),(Gu L=true->K ((v.Cw 2000).ren (dn dst) (rk dst)) (dnL dst L) (dnT dst (v.tkR 2000))->iop X md (base.wA A') dst o ρ (s.wA A') K)/\
   (CN md dst=0->(∀k o,B.obj k=some o->s.obj k=some o)->leA s.A A'->Gl s dst L=true->Ii s dst (v.tkR 2000)=true->∀K2:V->S->Prop,K2 ((v.Cw 2000).ren (dn dst) (rk dst)) ((s.ret false (Ej o ρ) dst v L).wA A')->top X md dst o ρ (s.wA A') K2):=by
 unfold Je at h;unfold Ej at hB ⊢;unfold iop top;generalize o.op=op at h hB ⊢;split at h
 ·dsimp only;split at h
  ·rename_i e0;simp only[e0]at hB ⊢;split at h
   ·rename_i e1;simp only[e1]at hB ⊢;obtain⟨h,n1,n2⟩:=Zl (P:=X.P) h;rw[n1,n2]at h;simp only[bt]at h;obtain⟨h1,h⟩:=h;obtain⟨v,L,hD,hr⟩:=hc _ _ _ _ _ h;refine⟨v,L,hr,fun A' hA md K=>⟨fun hl hK=>.inl ⟨h1.1,h1.2.1,B.wA A',v,L,hB.imp (congrArg (S.wA · A')) (congrArg (S.wA · A')),?_,hl,hK⟩,fun hm hb hA2 hg ht K2 hK=>?_⟩⟩;{rw[Su (s.wA A') B];exact hD.mono (dR hA)}
    ·have hm1:(CN md dst==1)=false:=by rw[hm];rfl
     rw[hm1];refine⟨h1.1,h1.2.1,by rw[VO];rfl,v,L,?_,Tt hA2 hg,cU ht,by rw[bQ];exact hK⟩;rw[Su (s.wA A') B];refine hD.mono fun k x hk=>dR hA2 k x ?_;simp only[S.up,fb]at hk ⊢;obtain⟨y,h2,h3⟩:=hk;exact⟨y,hb _ _ h2,h3⟩
   ·cases h
  ·cases h
 ·cases h
theorem jH {X:Cx} {R:Type} {call:Dy R} (hc:Ik X call) {tip:Bool} {dst:Nat} {o:Oper} {ρ:Operand->V} {s:S} {r:R} {Kr:V->List (Key × O)->Option R} (h:Je X call tip o ρ s Kr=some r):
  ∃v L,Kr v L=some r/\s.Vc tip (Ej o ρ) dst v L=s.ret tip (Ej o ρ) dst v L/\(Gl s dst L=true->Ii s dst (v.tkR 2000)=true->∀A',leA s.A A'->∀md:List (Nat × Nat),(CN md dst==1)=tip->∀K2:V->S->Prop,K2 ((v.Cw 2000).ren (dn dst) (rk dst)) ((s.ret tip (Ej o ρ) dst v L).wA A')->top X md dst o ρ (s.wA A') K2):=by
 unfold Je at h;unfold Ej;unfold top;generalize o.op=op at h ⊢;split at h;{dsimp only;split at h;{rename_i e0;simp only[e0];split at h;{rename_i e1;simp only[e1];obtain⟨h,n1,n2⟩:=Zl (P:=X.P) h;rw[n1,n2]at h;simp only[bt]at h;obtain⟨h1,h⟩:=h;obtain⟨v,L,hD,hr⟩:=hc _ _ _ _ _ h;refine⟨v,L,hr,by simp only[e0,S.Vc,S.ret,n1],fun hg ht A' hA md hm K2 hK=>?_⟩;rw[hm];refine⟨h1.1,h1.2.1,by rw[bB];exact h1.2.2,v,L,?_,Tt hA hg,cU ht,by rw[bQ];exact hK⟩;rw[fF];exact hD.mono (dR hA)};{cases h}};{cases h}};{cases h}
section
abbrev Dm:=FuncId->Option (List V->Option V)
def IA (X:Cx) (ext:Dm):Prop:=∀f g xs v,ext f=some g->g xs=some v->Mj X f xs v
def QH (ext:Dm) (o:Oper) (ρ:Operand->V):Option (Option V):=
 match o.op with
 | .call c=>(match c.callee with| .value fo=>(match ρ fo with| .fn f []=>(match ext f with|some g=>some (g (c.args.toList.map ρ))|none=>none)|_=>none)|_=>none)|_=>none
theorem kT {X:Cx} {ext:Dm} (he:IA X ext) {md:List (Nat × Nat)} {dst:Nat} {o:Oper} {ρ:Operand->V} {s base:S} {v:V} (h:QH ext o ρ=some (some v)) {K:V->List (Key × O)->List (Nat × Option Nat)->Prop} (hK:K v [] []):
  iop X md base dst o ρ s K:=by
 unfold QH at h;unfold iop;generalize o.op=op at h ⊢;split at h;{dsimp only;split at h;{rename_i e0;simp only[e0];split at h;{rename_i e1;simp only[e1];split at h;{rename_i e2;exact .inr (.inl ⟨by first|rfl|trivial,_,he _ _ _ _ e2 (ng h),hK⟩)};{cases h}};{cases h}};{cases h}};{cases h}
def nA (m:Nat) (o:Oper) (ρ:Operand->V):Bool:=
 match o.op with
 | .store _ _ _| .mapUpdate _ _ _ _=>true| .load _ _=>di m 1| .box _ x=> !(di m 5)&& !(ρ x).BN| .call c=>(match c.callee,c.args.toList with| .builtin .copy,_=>true| .builtin .append,x::_=>(match ρ x with| .sl _ _ _ _=>true| .sr _ _ _ _ _ _ _=>true|_=>false)|_,_=>false)|_=>false
def q1J (o:Oper) (ρ:Operand->V):Bool:=
 match o.op with
 | .load _ x=>(match ρ x with| .wq _ _=>true|_=>false)| .convert _ _ x=>(match ρ x with| .sr _ _ _ _ _ _ _=>false|_=>true)| .alloc _| .box _ _| .makeSlice _ _ _| .makeMap _ _| .lookup _ _ _ _=>false| .call c=>(match c.callee,c.args.toList with| .builtin .append,_=>false| .builtin .copy,_=>false| .builtin .len,x::_=>(match ρ x with| .mp _=>false|_=>true)| .builtin _,_=>true|_,_=>false)|_=>true
def Ly (c:C) (b:Bool):C:=match c with| .bool _=>.bool b|c=>c
theorem q2F {c:C} {b:Bool} (h:c.toBool=b):Ly c b=c:=by cases c <;> first|rfl|(simp only[C.toBool]at h;subst h;rfl)
def S.lit (s:S) (t:Nat) (c:C) (b:Bool):S:={s with env:=Kv s.env t (.d .bool (Ly c b))}
theorem uL {α:Type}:∀{l:List (Nat × α)} {t:Nat} {x:α},look l t=some x->Kv l t x=l
 | [],t,x,h=>by simp[look]at h
 |(j,y)::l,t,x,h=>by simp only[look]at h;simp only[Kv];split;{rename_i e;rw[if_pos e]at h;cases h;rfl};{rename_i e;rw[if_neg e]at h;rw[uL h]}
theorem ZB {s:S} {t:Nat} {c:C} {b:Bool} (h:s.get t= .d .bool c) (hb:c.toBool=b):s.lit t c b=s:=by
 have:look s.env t=some (.d .bool c):=by
  unfold S.get at h;cases hl:look s.env t with
  |none=>rw[hl]at h;cases h
  |some x=>rw[hl]at h;simp at h;rw[h]
 rw[<-q2F hb]at this;simp only[S.lit,uL this]
def Nn (ops:Array Oper) (j:Nat):Nat:=(Fy ops j).getD 0
def QU {R:Type} (ops:Array Oper) (s:S) (j:Nat) (want:Bool) (go skip:S->Option R):Option R:=
 match gv ops s j with
 | .d .bool c=>(match want with|true=>bif c.toBool then go (s.lit (Nn ops j) c true)else skip (s.lit (Nn ops j) c false)|false=>bif c.toBool then skip (s.lit (Nn ops j) c true)else go (s.lit (Nn ops j) c false))| .tup []=>skip s|_=>none
theorem q1i {ops:Array Oper} {s:S} {j:Nat} {c:C} {b:Bool} (h:gv ops s j= .d .bool c) (hb:c.toBool=b):s.lit (Nn ops j) c b=s:=by unfold gv at h;unfold Nn;split at h;{cases h};{rename_i t e;rw[e];exact ZB h hb}
theorem YR {R:Type} {ops:Array Oper} {s:S} {j:Nat} {want:Bool} {go skip:S->Option R} {r:R} (h:QU ops s j want go skip=some r):(go s=some r/\∀p q:Prop,p->gx (gv ops s j) want p q)\/(skip s=some r/\∀p q:Prop,q->gx (gv ops s j) want p q):=by unfold QU at h;unfold gx;split at h;{rename_i c hb;simp only[hb];cases hc:c.toBool <;> rw[hc]at h <;> cases want <;> simp only[cond_true,cond_false]at h <;> rw[q1i hb hc]at h;{exact .inl ⟨h,fun p q hp=>⟨fun _=>hp,fun h=>absurd rfl h⟩⟩};{exact .inr ⟨h,fun p q hq=>⟨fun h=>(by cases h),fun _=>hq⟩⟩};{exact .inr ⟨h,fun p q hq=>⟨fun h=>(by cases h),fun _=>hq⟩⟩};{exact .inl ⟨h,fun p q hp=>⟨fun _=>hp,fun h=>absurd rfl h⟩⟩}};{rename_i hb;simp only[hb];exact .inr ⟨h,fun p q hq=>hq⟩};{cases h}
theorem oJ (s:S) (A':Key->Option O) (x:V):DA (s.wA A') x=DA s x:=by unfold DA;split;{split;{rw[Jw]};{rfl}};{rfl}
theorem Yz (A':Key->Option O):∀(js:List Nat) (s:S),Dr js (s.wA A')=(Dr js s).wA A'
 | [],_=>rfl|j::l,s=>by simp only[Dr];rw[<-Yz A' l];congr 1;rw[Jw];split;{split <;> rfl};{rfl}
def TY {R:Type} (X:Cx) (call:Dy R) (o:Oper) (ρ:Operand->V) (s:S) (K:V->Option R):Option R:=
 match o.op with
 | .call c=>(match c.callee with
  | .value fo=>(match ρ fo with
   | .fn f wx=>(match wx with
    | []=>if Iq X.P f=true/\Fo (c.args.toList.map fun y=>Fh s (ρ y))=true then
      call f (c.args.toList.map fun y=>Fh s (ρ y)) (fun _=>none) (fun v L=>if L.isEmpty=true/\v.Di=true then K v else none)else none
    |_=>none)
   |_=>none)
  |_=>none)
 |_=>none
theorem cP {s:S} {A':Key->Option O} (hA:leA s.A A'):∀(f:Nat) {x:V} {τ:Ty} {c:C},FT f s x= .d τ c->FT f (s.wA A') x= .d τ c
 |0,_,_,_,h=>by cases h
 |f+1,x,τ,c,h=>by
  have ih:∀(xs:List V) (cs:List C),ED (xs.map (FT f s))=some cs->ED (xs.map (FT f (s.wA A')))=some cs:=by
   intro xs
   induction xs with
   |nil=>exact fun _ h=>h|cons x xs ih=>
    intro cs h;simp only[ek,ED]at h ⊢;rcases wB s f x with e|⟨τ,c,e⟩;{rw[e]at h;simp[CQ]at h};{rw[cP hA f e];rw[e]at h;cases e2:ED (xs.map (FT f s))with|none=>rw[e2]at h;simp[CQ]at h|some cs'=>rw[e2]at h;rw[ih _ e2];exact h}
  cases x <;> (try exact h)
  case agg τ0 xs=>
   simp only[FT]at h ⊢;split at h;{rename_i cs hcs;rw[ih _ _ hcs];exact h};{cases h}
  case sr k q lo n cp eb e=>
   simp only[FT]at h ⊢;split at h;{rename_i y ho;rw[DT hA ho];dsimp only;split at h;{rename_i e2;rw[cP hA f e2];exact h};{cases h}};{cases h}
theorem q56 {s:S} {A':Key->Option O} (hA:leA s.A A') {x:V} {τ:Ty} {c:C} (h:Fh s x= .d τ c):Fh (s.wA A') x= .d τ c:=cP hA _ h
theorem wC {s:S} {A':Key->Option O} (hA:leA s.A A'):∀{l:List V},Fo (l.map (Fh s))=true->l.map (Fh (s.wA A'))=l.map (Fh s)
 | [],_=>rfl|x::l,h=>by simp only[ek,Fo,bz]at h;simp only[ek];rw[wC hA h.2];congr 1;cases hs:Fh s x <;> rw[hs]at h <;> simp at h;exact q56 hA hs
theorem jR {X:Cx} {R:Type} {call:Dy R} (hc:Ik X call) {o:Oper} {ρ:Operand->V} {s:S} {r:R} {Kr:V->Option R} (h:TY X call o ρ s Kr=some r):
  ∃v,Kr v=some r/\∀A',leA s.A A'->∀(md:List (Nat × Nat)) (base:S) (dst:Nat) (K:V->List (Key × O)->List (Nat × Option Nat)->Prop),K v [] []->iop X md base dst o ρ (s.wA A') K:=by
 unfold TY at h;unfold iop;generalize o.op=op at h ⊢;split at h
 ·dsimp only;split at h
  ·rename_i c _ fo e0;simp only[e0];split at h
   ·rename_i f wx e1;simp only[e1];split at h
    ·simp only[bt]at h;obtain⟨⟨h1,h2⟩,h⟩:=h;obtain⟨v,L,hD,hr⟩:=hc _ _ _ _ _ h;simp only[bt]at hr;obtain⟨⟨h3,h4⟩,hr⟩:=hr;have hL:L=[]:=by simpa using h3
     subst hL;refine⟨v,hr,fun A' hA md base dst K hK=>.inr (.inr ⟨by first|rfl|trivial,h1,v,?_⟩)⟩;have e:(c.args.toList.map fun y=>Fh (s.wA A') (ρ y))=c.args.toList.map fun y=>Fh s (ρ y):=by
      have h2':Fo ((c.args.toList.map ρ).map (Fh s))=true:=by rw[nu];exact h2
      have:=wC (A':=A') hA h2';rw[nu,nu]at this;exact this
     rw[e];exact⟨h2,hD,h4,hK⟩
    ·cases h
   ·cases h
  ·cases h
 ·cases h
def mV (o:Oper) (ρ:Operand->V):Bool:=
 match o.op with
 | .makeInterface _ _=>true| .binOp _ _ _ y _=>Ke y| .convert _ dst x=>(match ρ x with| .d τ _=>(match τ with| .str=> !(di dst 0)&&true|_=>false)|_=>false)|_=>false
def TW {R:Type} (X:Cx) (o:Oper) (ρ:Operand->V) (K:V->Option R) (other:Option R):Option R:=
 match o.op with
 | .convert src dst x=>(match JW X.P src dst (ρ x)with|some ys=>K (.d (.slice 1 (.int .u8)) (.slice ys))|none=>other)| .makeInterface T _=>if PT X.P T=true then K (.d .iface (.bool true))else none| .binOp op T x y _=>if Ke y=true/\ty X.P T= .iface then(match op,ρ x with| .eql,.d .iface c=>K (.d .bool (.bool c.isNil))| .neq,.d .iface c=>K (.d .bool (.bool (!c.isNil)))|_,_=>none)else none|_=>none
theorem jI {R:Type} {X:Cx} {o:Oper} {ρ:Operand->V} {r:R} {Kr:V->Option R} {other:Option R} (h:TW X o ρ Kr other=some r):
  (∃v,Kr v=some r/\∀K:V->Prop,K v->fop X o ρ K)\/other=some r:=by
 unfold TW at h;unfold fop;generalize o.op=op at h ⊢;split at h;{dsimp only;split at h;{rename_i e0;simp only[e0];exact .inl ⟨_,h,fun K hK=>hK⟩};{exact .inr h}};{simp only[bt]at h;exact .inl ⟨_,h.2,fun K hK=>⟨h.1,hK⟩⟩};{simp only[bt]at h;obtain⟨h1,h⟩:=h;split at h;{rename_i e0;simp only[e0];exact .inl ⟨_,h,fun K hK=>⟨h1.1,h1.2,hK⟩⟩};{rename_i e0;simp only[e0];exact .inl ⟨_,h,fun K hK=>⟨h1.1,h1.2,hK⟩⟩};{cases h}};{cases h}
def Yd (m:Nat) (o:Oper):Bool:=
 match o.op with
 | .slice _ _ _ _ _=>di m 4| .convert _ _ _=>di m 9|_=>false
def Xk {R:Type} (X:Cx) (dst:Nat) (o:Oper) (ρ:Operand->V) (s:S) (K:KS R):Option R:=
 match o.op with
 | .slice T x lo hi mx=>if s.known dst=false/\hi.isSome=true/\mx.isSome=true then(match ty X.P T with| .slice eb e=>(match(ρ x).Ei with|some (eb',e',cs)=>(match Cb (lo.map ρ) 0,Cb (hi.map ρ) 0,Cb (mx.map ρ) 0 with|some l,some h,some m=>if eb'=eb/\e'=e/\l=0 then(if 0<=h/\h=m/\m<=cs.length then K (.sl eb e (cs.take h.toNat) dst) {s with tk:=(dst,some (cs.take h.toNat).length)::s.tk} else none)else none|_,_,_=>none)|none=>none)|_=>none)else none| .convert src yv x=>if(s.obj (.l dst)).isNone=true then(match JW X.P src yv (ρ x)with|some ys=>K (.sr (.l dst) [] 0 ys.length none 1 (.int .u8)) {s with loc:=(.l dst,.box (.d (.arr ys.length (.int .u8)) (.agg ys)))::s.loc}|none=>none)else none|_=>none
theorem q0w {R:Type} {X:Cx} {dst:Nat} {o:Oper} {ρ:Operand->V} {s:S} {r:R} {Kr:KS R} {m:Nat} (hm0:Yd m o=true) (h:Xk X dst o ρ s Kr=some r):
  ∃v s1,Kr v s1=some r/\∀A',∀md:List (Nat × Nat),CN md dst=m->∀K:V->S->Prop,K v (s1.wA A')->sl3 X md dst o ρ (s.wA A') K:=by
 unfold Yd at hm0;unfold Xk at h;unfold sl3;generalize o.op=op at h hm0 ⊢;split at h;{simp only[bt]at h;obtain⟨h1,h⟩:=h;have hm4:=fa hm0;subst hm4;dsimp only;split at h;{rename_i e0;simp only[e0];split at h;{rename_i e1;simp only[e1];split at h;{rename_i e2 e3 e4;simp only[e2,e3,e4];simp only[bt]at h;obtain⟨h2,h3,h⟩:=h;exact⟨_,_,h,fun A' md hm K hK=>⟨hm,h1.1,h1.2.1,h1.2.2,h2.1,h2.2.1,h2.2.2,h3.1,h3.2.1,h3.2.2,hK⟩⟩};{cases h}};{cases h}};{cases h}};{simp only[bt]at h;obtain⟨h1,h⟩:=h;have hm4:=fa hm0;subst hm4;dsimp only;split at h;{rename_i ys e0;refine⟨_,_,h,fun A' md hm K hK=>⟨hm,by rw[Jw];simpa using h1,?_⟩⟩;rw[e0];exact hK};{cases h}};{cases h}
def Nc {R:Type} (X:Cx) (call:Dy R) (ext:Dm) (m:Nat) (o:Oper) (ρ:Operand->V) (s:S) (K:KS R):Option R:=
 if Yc o=true then
  (match QH ext o ρ with
  |some r=>(match r with|some v=>if m=0 then K v s else none|none=>none)|none=>if di m 8=true then TY X call o ρ s (fun v=>K v s)else Je X call (m==1) o ρ s fun v L=>if Gl s (Ab o) L=true/\Ii s (Ab o) (v.tkR 2000)=true then K ((v.Cw 2000).ren (dn (Ab o)) (rk (Ab o))) (s.Vc (m==1) (Ej o ρ) (Ab o) v L)else none)
 else if nA m o ρ=true then ekT X m (Ab o) o ρ s K
 else ekI X m (Ab o) o ρ s fun v lo tn=>if di m 1=false/\Ev s lo=true/\Kb s tn=true then K v (s.add lo tn)else none
def QD {R:Type} (X:Cx) (call:Dy R) (ext:Dm) (m:Nat) (o:Oper) (s:S) (K:KS R):Option R:=
 if di m 100=true then Nc X call ext 0 o (fun y=>DA s (Ae X.gl s y)) (Dr (Fz (o.op.operands.toList.map (Ae X.gl s))) s) K
 else if Yd m o=true then Xk X (Ab o) o (Ae X.gl s) s K
 else if mV o (Ae X.gl s)=true then TW X o (Ae X.gl s) (fun v=>K v s) (Nc X call ext m o (Ae X.gl s) s K)
 else Nc X call ext m o (Ae X.gl s) s K
section
variable {X:Cx} {R:Type} {call:Dy R} {ext:Dm} (hc:Ik X call) (he:IA X ext)
include hc he
theorem jS {m:Nat} {o:Oper} {ρ:Operand->V} {s:S} {Kr:KS R} {r:R} (h:Nc X call ext m o ρ s Kr=some r):
  ∃v s1,Kr v s1=some r/\∀A',leA s.A A'->∀md:List (Nat × Nat),CN md (Ab o)=m->∀K:V->S->Prop,K v (s1.wA A')->
   (m≠1/\iop X md (s.wA A') (Ab o) o ρ (s.wA A') (fun v lo tn=>FH (s.wA A') lo/\FI (s.wA A') tn/\K v ((s.wA A').add lo tn)))\/top X md (Ab o) o ρ (s.wA A') K:=by
 unfold Nc at h;split at h;{split at h;{rename_i x e0;split at h;{simp only[bt]at h;obtain⟨h1,h⟩:=h;exact⟨_,_,h,fun A' hA md hm K hK=>.inl ⟨by rw[h1];decide,kT he e0 ⟨trivial,trivial,hK⟩⟩⟩};{cases h}};{split at h;{rename_i hm8;have hm8:m=8:=fa hm8;obtain⟨v,h1,h2⟩:=jR hc h;exact⟨_,_,h1,fun A' hA md hm K hK=>.inl ⟨by rw[hm8];decide,h2 A' hA md _ _ _ ⟨trivial,trivial,hK⟩⟩⟩};obtain⟨v,L,h1,hq,h2⟩:=jH (dst:=Ab o) hc h;rw[hq]at h1;simp only[bt]at h1;obtain⟨⟨h3,h4⟩,h1⟩:=h1;exact⟨_,_,h1,fun A' hA md hm K hK=>.inr (h2 h3 h4 A' hA md (by rw[hm]) K hK)⟩}};{split at h;{obtain⟨v,s1,h1,h2⟩:=Xm h;exact⟨v,s1,h1,fun A' hA md hm K hK=>.inr (h2 A' hA md hm K hK)⟩};{obtain⟨v,lo,tn,h1,h2⟩:=TX h;simp only[bt]at h1;obtain⟨⟨h3,h4,h5⟩,h1⟩:=h1;refine⟨v,_,h1,fun A' hA md hm K hK=>.inl ⟨?_,h2 A' hA md _ hm _ ⟨QS h4,QT h5,hK⟩⟩⟩;intro e;subst e;simp at h3}}
theorem q0A {m:Nat} {o:Oper} {s:S} {Kr:KS R} {r:R} (h:QD X call ext m o s Kr=some r):
  ∃v s1,Kr v s1=some r/\∀A',leA s.A A'->∀md:List (Nat × Nat),CN md (Ab o)=m->∀K:V->S->Prop,K v (s1.wA A')->sop X md (Ab o) o (s.wA A') K:=by
 unfold QD at h;split at h
 ·rename_i z25;have z25:m=100:=fa z25;obtain⟨v,s1,h1,h2⟩:=jS hc he h;refine⟨v,s1,h1,fun A' hA md hm K hK=>.inl ⟨by rw[hm,z25],?_⟩⟩;have hA2:leA (Dr (Fz (o.op.operands.toList.map (Ae X.gl s))) s).A A':=by rw[(Qp _ s).2];exact hA
  have:=h2 A' hA2 [] rfl K hK;unfold pM;simp only[Ep,oJ,Yz];exact this.imp (fun h=>h.2) id
 ·have normal:Nc X call ext m o (Ae X.gl s) s Kr=some r->∃v s1,Kr v s1=some r/\∀A',leA s.A A'->∀md:List (Nat × Nat),CN md (Ab o)=m->∀K:V->S->Prop,K v (s1.wA A')->sop X md (Ab o) o (s.wA A') K:=by intro h;obtain⟨v,s1,h1,h2⟩:=jS hc he h;refine⟨v,s1,h1,fun A' hA md hm K hK=>.inr ?_⟩;have:=h2 A' hA md hm K hK;simp only[Ep];rw[hm];exact this.imp id .inl
  split at h;{rename_i hsl;obtain⟨v,s1,h1,h2⟩:=q0w hsl h;refine⟨v,s1,h1,fun A' hA md hm K hK=>.inr (.inr (.inr (.inr ?_)))⟩;rw[Ep];exact h2 A' md hm K hK};{split at h;{rcases jI h with⟨v,h1,h2⟩|h;{refine⟨v,s,h1,fun A' hA md hm K hK=>.inr (.inr (.inr ?_))⟩;rw[Ep];exact .inl (h2 _ hK)};{exact normal h}};{exact normal h}}
end
end
end Go.E
