/-
 A framework for runs of Go code over abstract data: what it needs, and that it is sound, part 6.
 Conditions: none.
-/
import Derived.Test.YteealakhniofoaaGreatDoorEe
import Derived.ProofKit
import Derived.LaidMore
import Derived.OpenShut
import Derived.Stop.Joined
import Derived.ChangeStays
import Derived.Deep.DeepHandedRow
import Derived.Lib.LaidTab
import Derived.LoopN
set_option linter.all false
set_option maxRecDepth 100000
set_option maxHeartbeats 4000000
open Bool renaming and_eq_true->bg,false_eq_true->fq,not_eq_true'->je
open Go.Addr renaming add->ou
open Go.DataW renaming TrodAll->ko,trod->kr,weights->qa,weightsAll->qp,weightsEach->mn
open Go.DataW.TrodAll renaming lt->ss
open Go.E.G renaming part->wi
open Go.E.S renaming obj->jt
open Go.E.V renaming sites->tj
open Go.Op renaming bytesLess->lx
open Go.Value renaming okWide->uh
open Go.World renaming cell?->mu,sameAt->xn
open List renaming all_cons->xm,all_eq_true->dv,cons_append->ow,getElem?_eq_getElem->bo,getElem?_eq_some_iff->cd,getElem?_map->db,getElem?_range->ig,getElem?_take->fh,mapM_cons->uk,map_cons->dt,map_map->px,mem_of_getElem?->fa,mem_range->gp,nil_append->jr,range->gf,zipWith->jx
open Nat renaming beq->df,eq_of_beq_eq_true->ei
open Option renaming bind_eq_some_iff->nk,bind_some->gm,ite_none_right_eq_some->az,map_eq_some_iff->ed,map_map->sf,map_some->gj
open Option.some renaming inj->oz,injEq->ee
open Prod.mk renaming injEq->fw
namespace Go.E
open Go
theorem q97 {X:Cx} {n:Nat} {s s':S} {Γ0 Γ:G} {a:Act} {w:World} (g1:GLe Γ0 Γ) (g3:Γ.gl=X.gl) (c:AY Γ w s) (hs:Gm Γ s a.tmps) (hn:a.tmps.size=n) (hf:a.defers=[]) (zd:AOk s.A) (hA:s'.A=s.A) (z8l:GZ s s'.loc) (z8w:Fy (Cd s'.loc) (DW s'.tk) s'.loc=true) (hg:Ij s'.loc s.A s.loc)
  (htk:tkW s s'.tk) (zk:IB (Cd s'.loc) (DW s'.tk) s s'.env):GLe Γ0 (Γ.part (Cd s'.loc) (DW s'.tk))/\(Γ.part (Cd s'.loc) (DW s'.tk)).gl=X.gl/\AY (Γ.part (Cd s'.loc) (DW s'.tk)) w s'/\Gm (Γ.part (Cd s'.loc) (DW s'.tk)) s' a.tmps/\a.tmps.size=n/\a.defers=[]/\AOk s'.A:=by
 have sub:Sub Γ (Γ.part (Cd s'.loc) (DW s'.tk)) (Cd s'.loc) (DW s'.tk):=
  ⟨rfl,rfl,rfl,rfl,rfl,fun _=>rfl,fun n h=>by simp[wi,h],fun t h=>by simp[wi,h],fun _ _ _ _ _=>rfl⟩
 refine⟨⟨g1.H,g1.Z,g1.ZH,g1.g,g1.gl,g1.oo,g1.σ,g1.gn⟩,g3,c.sub sub rfl (fun n h=>by simp[wi,h]) hA zd z8l z8w hg (fun b o sz h=>⟨o,h,fun _ h=>h⟩) (fun t L h=>?_) (fun t h=>?_),fun i=>?_,hn,hf,by rw[hA];exact zd⟩
 ·unfold S.live Ed at h;cases hl:look s'.tk t with
  |none=>simp[hl]at h|some x=>
   cases x with
   |none=>simp[hl]at h|some M=>
    simp[hl]at h;subst h;have z8i:s.live t=some M:=fU htk hl;obtain⟨x,a1,a2⟩:=c.tok t M z8i;exact⟨x,by simp[wi,DW,hl,a1],fun b pos sz hx=>a2 b pos sz hx⟩
 ·cases hh:DW s'.tk t with|true=>exact hh|false=>simp[wi,hh]at h
 ·cases hl:look s'.env i with
  |none=>simp[S.get,hl,AK]|some x=>
   obtain⟨e1,e2,e3⟩:=Yl zk hl;have z8t:s'.get i=x:=by simp[S.get,hl]
   rw[z8t];by_cases hx:x= .any;{subst hx;trivial}
   ·have hr:=hs i;have e3:=e3.resolve_left hx;refine AK.sub sub e2 ?_;cases hsi:s.get i with
    |any=>
     rw[hsi]at e1;cases x <;> simp[V.BZ,Cl]at e1 hx
    |tup us=>
     rw[hsi]at e1 hr;cases x <;> simp[V.BZ,Cl]at e1 hx;subst e1;exact hr
    |_=>
     rw[hsi]at e1 hr e3;have hpl:AA Γ none [] _ (a.tmps.getD i undef).cells.toList/\_:=hr;obtain⟨r1,r2⟩:=AA.BZ x _ e1 hpl.1;have hxp:=V.Sa r1 hx;exact(Ca hxp).2 ⟨r1,by rw[e3];exact hpl.2⟩
theorem z0p {X:Cx} {n:Nat} {s s':S} {t j:Nat} {τ:Ty} {x:V} {cc:C} (y0e:s.get t= .ptr (.l j) [] τ) (yi:s.obj (.l j)=some (.box x)) (hcl:Cl x=some cc) (hτ:x.ty=τ) (hj:Cd s'.loc j=false)
  (hA:s'.A=s.A) (z8l:GZ s s'.loc) (z8w:Fy (Cd s'.loc) (DW s'.tk) s'.loc=true) (hg:Ij s'.loc s.A s.loc)
  (htk:tkW s s'.tk) (zk:IB (Cd s'.loc) (DW s'.tk) s s'.env):EI X n s (s'.set (some t) (.yf τ cc)):=by
 rintro Γ0 a w ⟨Γ,g1,g3,c,hs,hn,hf,zd⟩;obtain⟨p1,p2,p3,p4,p5,p6,p7⟩:=q97 (X:=X) (n:=n) (s':=s') g1 g3 c hs hn hf zd hA z8l z8w hg htk zk;have hst:=hs t;rw[y0e]at hst;obtain⟨b,τ0,off,e1,i2,hv⟩:=HF hst;obtain⟨b2,cells,T,i1,e2,e3,e4,e5,e6,e7,e8⟩:=c.own e1 yi;obtain⟨fr0,e4,zb⟩:=e4;rw[e1]at i1;cases i1;simp only[Ty.walk,ee,fw]at i2;obtain⟨rfl,_⟩:=i2;have hdl:∀k o,s'.obj k=some o->s.CY k=true->o.FL=true:=by
  intro k o ho hd;unfold jt Cs at ho;cases hl:AZ s'.loc k with
  |some o1=>
   rw[hl]at ho;cases ho;obtain⟨o0,h1,h2⟩:=VW z8l hl;rw[FV h1]at hd;exact O.pB h2 hd
  |none=>
   cases k with
   |l n=>rw[hl]at ho;cases ho
   |g k=>
    have:=Vw hA hg hl;unfold S.CY at hd;rw[<-this]at hd;have h2:jt s' (.g k)=some o:=by unfold jt Cs;exact ho
    rw[h2]at hd;exact hd
 have hno:∀k τ o,(Γ.part (Cd s'.loc) (DW s'.tk)).ι k=some (b,τ)->s'.obj k=some o->o.FL=true:=by
  intro k τ' o hk hko;have hk':Γ.ι k=some (b,τ')/\k≠.l j:=by
   cases k with
   |g k=>exact⟨hk,by simp⟩|l m=>
    simp only[wi]at hk;split at hk;{rename_i hm;refine⟨hk,fun e=>?_⟩;cases e;rw[hj]at hm;cases hm};{cases hk}
  rcases c.inj k (.l j) b _ _ hk'.1 e1 with e|⟨e|e,_⟩;{exact absurd e hk'.2};{exact hdl k o hko e};{rw[FV yi]at e;cases e}
 obtain⟨q1,q2,q3⟩:=p3.freeze e4 e2 hno;have hrc:AU Γ.H x.ty (chunk cells.toList 0 x.ty.size) cc:=LC _ e6 hcl;refine⟨_,⟨Hp.le_trans p1.H q3,p1.Z,fun b' hb'=>?_,p1.g,p1.gl,p1.oo,p1.σ,p1.gn⟩,p2,Qu q1 _ _,fun i=>?_,p5,p6,p7⟩;{refine(Fj _ _ fun e=>?_).trans (p1.ZH b' hb');subst e;exact hb' (by rw[<-g1.Z];exact e3)};{rw[KF];split;{rename_i e;cases e;rw[hv];refine Nc (l:=cells.toList) (Dc _ _ _) (by rw[<-hτ];simpa using e5) ?_;rw[<-hτ];exact hrc.mono q3};{exact(p4 i).Bn q2}}
theorem C.q3Y:∀(cs:List C) (n:Nat),cs.length=n->cs=(gf n).map fun i=>cs.getD i .nil:=by intro cs n h;subst h;refine List.ext_getElem (by simp) fun i h1 h2=>?_;simp[bo h1]
theorem C.XV {sz:Nat} {os:List Nat} {fs:List Ty} {c:C} (h:C.wf (.struct sz os fs) c): .agg ((gf fs.length).map c.get)=c:=by simp only[C.wf]at h;obtain⟨h1,h2⟩:=h;have hl:=C.x9 h2;rw[h1];congr 1;rw[<-hl];exact(C.q3Y c.elems _ rfl).symm
section
open Go Go.ChangeShapes Go.WideShapes
def Hl (w:World):Hp:=fun b=>match w.heap[b]? with|some (.cells c _ _)=>some c.toList|_=>none
theorem ZW {w:World} {a:Addr} {v:Value} (h:w.cell? a=some v):∃l,Hl w a.block=some l/\l[a.off]? =some v/\a.spot=none:=by unfold mu at h;unfold Hl;split at h;{rename_i c _ _ hc;split at h;{cases h};{rename_i hs;refine⟨c.toList,by simp[hc],by simpa using h,?_⟩;cases hh:a.spot <;> simp_all}};{cases h}
mutual
def Ty.dat:Ty->Bool
 | .int _| .bool| .str=>true| .slice _ e=>e.dat&&decide (0<e.size)| .arr _ e=>e.dat&&decide (0<e.size)| .struct sz os fs=>Ty.RC fs&&decide (os.length=fs.length)&&(gf sz).all fun i=>(gf fs.length).any fun j=>match os[j]?,fs[j]? with|some o,some f=>decide (o<=i)&&decide (i<o+f.size)|_,_=>false
 |_=>false
def Ty.RC:List Ty->Bool
 | []=>true|f::fs=>f.dat&&Ty.RC fs
end
theorem kN:∀{fs:List Ty} {i:Nat} {f:Ty},Ty.RC fs=true->fs[i]? =some f->f.dat=true
 | [],_,_,_,h=>by simp at h
 |g::fs,0,f,hd,h=>by simp[Ty.RC]at hd h;rw[<-h];exact hd.1
 |g::fs,i+1,f,hd,h=>by simp[Ty.RC]at hd;exact kN hd.2 (by simpa using h)
theorem PU {α β:Type} {f:α->Option β}:∀{l:List α} {r:List β},l.mapM f=some r->∀i:Nat,l[i]?.bind f=r[i]?
 | [],r,h,i=>by simp at h;subst h;simp
 |x::l,r,h,i=>by
  rw[uk]at h;cases hx:f x with
  |none=>simp[hx]at h|some y=>
   cases hl:l.mapM f with
   |none=>simp[hx,hl]at h|some ys=>
    simp[hx,hl]at h;subst h;cases i with
    |zero=>simp[hx]|succ i=>simpa using PU hl i
theorem SD {α β:Type} {f:α->Option β}:∀{l:List α} {r:List β},l.mapM f=some r->r.length=l.length
 | [],r,h=>by simp at h;subst h;rfl
 |x::l,r,h=>by
  rw[uk]at h;cases hx:f x with
  |none=>simp[hx]at h|some y=>
   cases hl:l.mapM f with
   |none=>simp[hx,hl]at h|some ys=>
    simp[hx,hl]at h;subst h;simp[SD hl]
theorem jT {w:World} {base:Nat} {a:Addr} {n:Nat} {cs:List Value} (h:w.cells? base a n=some cs) (hn:0<n):
  ∃l,Hl w a.block=some l/\a.spot=none/\a.off+n<=l.length/\cs=chunk l a.off n:=by
 unfold World.cells? at h;split at h
 ·have hl:=SD h;simp at hl;have hg:=PU h;have h0:=hg 0;cases hc:cs[0]? with
  |none=>simp at hc;subst hc;simp at hl;omega|some v0=>
   rw[hc]at h0;simp[ig hn]at h0;have e0:a.add 0=a:=by simp[ou]
   rw[e0]at h0;obtain⟨l,h1,h2,h3⟩:=ZW h0;refine⟨l,h1,h3,?_,?_⟩
   ·have z80:=hg (n-1);cases hc':cs[n-1]? with
    |none=>simp at hc';omega|some v1=>
     rw[hc']at z80;simp[ig (show n-1<n by omega)]at z80;obtain⟨l',g1,g2,_⟩:=ZW z80;have eb:(a.add (n-1)).block=a.block:=by unfold ou;split <;> rfl
     have eo:(a.add (n-1)).off=a.off+(n-1):=by unfold ou;split <;> simp_all
     rw[eb,h1]at g1;cases g1;rw[eo]at g2;have:=(cd.1 g2).1;omega
   ·apply List.ext_getElem?;intro i;by_cases hi:i<n
    ·have:=hg i;simp[ig hi]at this;cases hc':cs[i]? with
     |none=>simp at hc';omega|some v1=>
      rw[hc']at this;obtain⟨l',g1,g2,_⟩:=ZW this;have eb:(a.add i).block=a.block:=by unfold ou;split <;> rfl
      have eo:(a.add i).off=a.off+i:=by unfold ou;split <;> simp_all
      rw[eb,h1]at g1;cases g1;rw[eo]at g2;simp[chunk,fh,hi,g2]
    ·rw[List.getElem?_eq_none (by omega)];simp[chunk,fh,hi]
 ·cases h
theorem Qh {a b:List Nat} (h:(a++b).all (·<=reachBytes)=true):a.all (·<=reachBytes)=true/\b.all (·<=reachBytes)=true:=by simpa[List.all_append]using h
theorem gP {H:Type} {P:Program} {e:TypeId}:∀{l:List (DataW H)} {i:Nat} {d:DataW H},l[i]? =some d->(qp P e l).all (·<=reachBytes)=true->(d.weights P e).all (·<=reachBytes)=true
 | [],i,d,h,_=>by simp at h
 |x::l,0,d,h,hw=>by simp at h;subst h;simp only[qp]at hw;exact(Qh hw).1
 |x::l,i+1,d,h,hw=>by simp only[qp]at hw;exact gP (by simpa using h) (Qh hw).2
theorem gQ {H:Type} {P:Program}:∀{ts:List TypeId} {l:List (DataW H)} {i:Nat} {t:TypeId} {d:DataW H},ts[i]? =some t->l[i]? =some d->(mn P ts l).all (·<=reachBytes)=true->(d.weights P t).all (·<=reachBytes)=true
 | [],_,i,t,d,h,_,_=>by simp at h
 |_::_,[],i,t,d,_,h,_=>by simp at h
 |t::ts,x::l,0,t',d,ht,h,hw=>by simp at ht h;subst ht;subst h;simp only[mn]at hw;exact(Qh hw).1
 |t::ts,x::l,i+1,t',d,ht,h,hw=>by simp only[mn]at hw;exact gQ (by simpa using ht) (by simpa using h) (Qh hw).2
theorem tR {vs:List Value} (h:∀i:Nat,i<vs.length->∃o m,o<=i/\i<o+m/\Dx (chunk vs o m)):Dx vs:=by intro v hv;obtain⟨i,hi,rfl⟩:=List.getElem_of_mem hv;obtain⟨o,m,h1,h2,h3⟩:=h i hi;refine h3 _ ?_;refine fa (i:=i-o) ?_;simp only[chunk,fh,List.getElem?_drop];rw[if_pos (by omega),show o+(i-o)=i by omega,bo hi]
mutual
def cOf {H:Type}:DataW H->C
 | .lit (.bool b)=>.bool b| .lit (.int _ n)=>.int n| .lit (.string l)=>.str l| .nil=>.slice []| .slice es _=>.slice (JQ es)| .agg ps=>.agg (JQ ps)|_=>.nil
def JQ {H:Type}:List (DataW H)->List C
 | []=>[]|d::ds=>cOf d::JQ ds
end
theorem UE {H:Type}:∀{ds:List (DataW H)} {i:Nat},(JQ ds)[i]? =(ds[i]?).map cOf
 | [],i=>by simp[JQ]
 |d::ds,0=>by simp[JQ]
 |d::ds,i+1=>by simp[JQ,UE]
theorem UF {H:Type}:∀{ds:List (DataW H)},(JQ ds).length=ds.length
 | []=>rfl|d::ds=>by simp[JQ,UF]
section
variable {H:Type} {enc:TypeId × Value->H} {P:Program} {w:World}
theorem TG (hP:BS P=true) {base:Nat} {held:Bool} {sp:Nat->Bool} (hsp:∀b,sp b=true):∀(fuel f:Nat) {t:TypeId} {cs:List Value} {d:DataW H} {ps:List MemPlace},t<P.types.size->(tyF P f t).dat=true->
  kr enc P w base sp held fuel t cs=some (d,ps)->(d.weights P t).all (·<=reachBytes)=true->AU (Hl w) (tyF P f t) cs (cOf d)
 |0,f,t,cs,d,ps,_,_,h,_=>by simp[kr]at h
 |fuel+1,0,t,cs,d,ps,_,hf,h,_=>by simp[tyF,Ty.dat]at hf
 |fuel+1,f+1,t,cs,d,ps,ht,hf,h,hw=>by
  have hok:=Iz hP ht;unfold okT at hok;unfold tyF at hf ⊢;rw[if_pos ht]at hf ⊢;cases hu:P.underlying t with
  |none=>simp[hu,Ty.dat]at hf|some desc=>
   simp only[hu]at hf hok ⊢;cases desc with
   |bool=>
    unfold kr at h;simp only[hu]at h;split at h <;> simp_all;rw[<-h.1];simp[AU,cOf]
   |int k=>
    unfold kr at h;simp only[hu]at h;split at h <;> simp_all;obtain⟨⟨rfl,hh⟩,hd,_⟩:=h;simp[Lit.wf]at hh;rw[<-hd];simp[AU,cOf];omega
   |string=>
    unfold kr at h;simp only[hu]at h;split at h <;> simp_all;obtain⟨hh,rfl,_⟩:=h;simp[qa,reachBytes]at hw;simp only[AU,cOf];exact⟨_,rfl,by simp,by simp;omega⟩
   |slice e=>
    simp only[Ty.dat,bg,decide_eq_true_eq]at hf;simp only[bg,beq_iff_eq,decide_eq_true_eq]at hok;have hsz:(tyF P f e).size=P.cellsOf e:=Dq hP f e;unfold kr at h;simp only[hu]at h;split at h <;> try (simp_all;done)
    ·simp only[ee,fw]at h;rw[<-h.1];simp only[AU,cOf];exact⟨none,0,0,[],rfl,rfl,rfl,Nat.le_refl _,by simp[maxLen],by simp,.inl rfl⟩
    ·rename_i e' a len cap he;simp at he;subst he;split at h
     ·rename_i hc;simp only[nk,ed]at h;obtain⟨elems,he1,rest,he2,he3⟩:=h;simp only[fw]at he3;obtain⟨rfl,_⟩:=he3;simp only[qa,hu,xm,bg,decide_eq_true_eq]at hw;obtain⟨hw1,hw2⟩:=hw;obtain⟨hw2,hw3⟩:=Qh hw2;have hl:=SD he1;simp at hl;have hbound:len*P.bytesOf e<=140737488355328:=by have:len*P.bytesOf e<=(elems.length+rest.length)*P.bytesOf e:=Nat.mul_le_mul_right _ (by omega);simp[reachBytes]at hw1;omega
      by_cases hz:len=0
      ·subst hz;have:elems=[]:=by cases elems <;> simp_all
       subst this;simp only[AU,cOf,List.map_nil,JQ];exact⟨some a,0,cap,[],rfl,rfl,rfl,Nat.zero_le _,hc.2.2,by simp,.inl rfl⟩
      ·have key:∀i,i<len->∃l,Hl w a.block=some l/\a.spot=none/\(a.off+i*P.cellsOf e)+P.cellsOf e<=l.length/\∀x,elems[i]? =some x->AU (Hl w) (tyF P f e) (chunk l (a.off+i*P.cellsOf e) (P.cellsOf e)) (cOf x.1):=by
        intro i hi;have hg:=PU he1 i;rw[ig hi]at hg;have hi':i<elems.length:=by omega
        rw[bo hi']at hg;simp only[gm,nk]at hg;obtain⟨cs,hc1,hc2⟩:=hg;obtain⟨l,q1,q2,q3,q4⟩:=jT hc1 (by rw[<-hsz];exact hf.2);have eb:(a.add (i*P.cellsOf e)).block=a.block:=by unfold ou;split <;> rfl
        have eo:(a.add (i*P.cellsOf e)).off=a.off+i*P.cellsOf e:=by unfold ou;split <;> simp_all
        have h0:a.spot=none:=by have hg0:=PU he1 0;rw[ig (by omega),bo (by omega)]at hg0;simp only[gm,nk]at hg0;obtain⟨cs0,y0H,_⟩:=hg0;obtain⟨_,_,q,_⟩:=jT y0H (by rw[<-hsz];exact hf.2);simpa[ou]using q
        rw[eb]at q1;rw[eo]at q3 q4;subst q4;have hcr:=TG hP hsp fuel f hok.2 hf.1 hc2 (gP (i:=i) (by simp[db,bo hi']) hw2);exact⟨l,q1,h0,q3,fun x hx=>by rw[bo hi']at hx;cases hx;exact hcr⟩
       obtain⟨l,hl1,hl2,_,_⟩:=key 0 (by omega);simp only[AU,cOf];refine⟨some a,len,cap,_,rfl,rfl,by simp[UF,hl],hc.2.1,hc.2.2,hbound,.inr ⟨a.block,a.off,l,?_,hl1,?_,fun i c hi=>?_⟩⟩;{cases a;simp_all}
       ·rw[hsz];obtain⟨l',q1,_,q3,_⟩:=key (len-1) (by omega);rw[hl1]at q1;cases q1;have:len*P.cellsOf e=(len-1)*P.cellsOf e+P.cellsOf e:=by rw[<-Nat.succ_mul];congr 1;omega
        omega
       ·simp only[UE,db,sf,ed]at hi;obtain⟨x,hx,rfl⟩:=hi;have hi':i<len:=by have:=(cd.1 hx).1;omega
        rw[hsz];obtain⟨l',q1,_,_,q4⟩:=key i hi';rw[hl1]at q1;cases q1;exact q4 x hx
     ·cases h
   |array n e=>
    simp only[Ty.dat,bg,decide_eq_true_eq]at hf;simp only[bg,beq_iff_eq,decide_eq_true_eq]at hok;have hsz:(tyF P f e).size=P.cellsOf e:=Dq hP f e;unfold kr at h;simp only[hu]at h;split at h
    ·rename_i hlen;simp only[ed]at h;obtain⟨elems,he1,he3⟩:=h;simp only[fw]at he3;obtain⟨rfl,_⟩:=he3;simp only[qa,hu]at hw;have hl:=SD he1;simp at hl;have key:∀i x,elems[i]? =some x->AU (Hl w) (tyF P f e) (chunk cs (i*P.cellsOf e) (P.cellsOf e)) (cOf x.1):=by
      intro i x hx;have hg:=PU he1 i;have hi:i<n:=by have:=(cd.1 hx).1;omega
      rw[ig hi,hx]at hg;simp only[gm]at hg;exact TG hP hsp fuel f hok.2 hf.1 hg (gP (i:=i) (by simp[db,hx]) hw)
     simp only[AU,cOf];refine⟨_,rfl,by simp[UF,hl],by rw[hsz,hlen,hok.1],tR fun i hi=>?_,fun i c hi=>?_⟩
     ·have hi2:i / P.cellsOf e<n:=by rw[Nat.div_lt_iff_lt_mul (by omega)];omega
      have hc:=key (i / P.cellsOf e) _ (bo (by omega));refine⟨_,_,?_,?_,hc.one⟩;{exact Nat.div_mul_le_self _ _};{have:=Nat.lt_div_mul_add (a:=i) (b:=P.cellsOf e) (by omega);omega}
     ·simp only[UE,db,sf,ed]at hi;obtain⟨x,hx,rfl⟩:=hi;rw[hsz];exact key i x hx
    ·cases h
   |struct fs=>
    simp only[Ty.dat,bg,decide_eq_true_eq,dv,List.any_eq_true,gp]at hf;simp only[dv,bg,decide_eq_true_eq]at hok;obtain⟨⟨hf1,hf2⟩,hf3⟩:=hf;unfold kr at h;simp only[hu]at h;split at h
    ·rename_i hlen;simp only[ed]at h;obtain⟨elems,he1,he3⟩:=h;simp only[fw]at he3;obtain⟨rfl,_⟩:=he3;simp only[qa,hu]at hw;have hl:=SD he1;have key:∀(i:Nat) g x,fs.toList[i]? =some g->elems[i]? =some x->AU (Hl w) (tyF P f g.type) (chunk cs g.offset (P.cellsOf g.type)) (cOf x.1):=by
      intro i g x hi he;have hg:=PU he1 i;rw[hi,he]at hg;simp only[gm]at hg
      exact TG hP hsp fuel f (hok g (fa hi)).1 (kN (i:=i) hf1 (by simp only[db,hi,gj])) hg
        (gQ (i:=i) (by simp only[db,hi,gj]) (by simp only[db,he,gj]) hw)
     simp only[AU,cOf];refine⟨_,rfl,hlen,tR fun i hi=>?_,CN.Lk (by simp[UF,hl]) fun i F c hF hc=>?_⟩;{obtain⟨j,hj,hj2⟩:=hf3 i (by omega);split at hj2;{rename_i o F ho hF;simp at hj2;simp only[db,ed]at ho hF;obtain⟨g,hg,rfl⟩:=ho;obtain⟨g',hg',rfl⟩:=hF;rw[hg]at hg';cases hg';have hjl:=(cd.1 hg).1;have hc:=key j g _ hg (bo (by omega));rw[Dq hP]at hj2;exact⟨_,_,hj2.1,hj2.2,hc.one⟩};{cases hj2}};{simp only[db,UE,sf,ed]at hF hc;obtain⟨g,hg,rfl⟩:=hF;obtain⟨x,hx,rfl⟩:=hc;refine⟨g.offset,by simp only[db,hg,gj],?_,?_⟩;{rw[Dq hP,hlen];exact(hok g (fa hg)).2};{rw[Dq hP];exact key i g x hg hx}}
    ·cases h
   |_=>simp[Ty.dat]at hf
end
end
section
open Go Go.ChangeShapes Go.WideShapes Go.RowKit
def eY (P:Program):Bool:=(gf P.types.size).all fun t=>match P.underlying t with|some (.slice e)=>decide (0<P.cellsOf e)|_=>true
def OA (w:World) (gl:Nat->Option (Ty × C)):Prop:=∀g τ c,gl g=some (τ,c)->∃l,Hl w g=some l/\τ.size<=l.length/\AU (Hl w) τ (chunk l 0 τ.size) c
def Rj (P:Program):List (String × DataW Unit)->Nat->Option (Ty × C)
 | [],_=>none|(n,d)::r,g=>if P.globalNamed n=some g then(match(P.globals[g]?).map (·.type)with|some t=>some (ty P t,cOf d)|none=>none)else Rj P r g
def VL (P:Program) (l:List (String × DataW Unit)):Bool:=l.all fun x=>match P.globalNamed x.1 with
 |some g=>match(P.globals[g]?).map (·.type)with|some t=>decide (t<P.types.size)&&(ty P t).dat&&(x.2.weights P t).all (·<=reachBytes)|none=>false
 |none=>false
theorem oM {P:Program} (hP:BS P=true) {w:World}:∀{l:List (String × DataW Unit)} {ps:List MemPlace},VL P l=true->DataW.LaidVars P w l ps->OA w (Rj P l)
 | [],_,_,_=>fun g τ c h=>by simp[Rj]at h
 |(n,d)::r,ps,hk,h=>by
  obtain⟨g0,t,cs,fuel,p,q,hg,ht,hv,hd,hr,_⟩:=h;simp only[VL,xm,bg,hg,ht,decide_eq_true_eq]at hk;obtain⟨⟨⟨k1,k2⟩,k3⟩,k4⟩:=hk;intro g τ c h;simp only[Rj]at h;split at h
  ·rename_i e;rw[hg]at e;cases e;rw[ht]at h;simp at h;obtain⟨rfl,rfl⟩:=h;have yr:=TG hP (fun _=>rfl) fuel 12 k1 k2 hd k3;simp only[World.var?,hg,gm]at hv;split at hv
   ·rename_i c T fr hc;cases hv;have hl:=yr.length;refine⟨cs.toList,by simp[Hl,hc],by show(tyF P 12 t).size<=_;omega,?_⟩;have:chunk cs.toList 0 (ty P t).size=cs.toList:=by show chunk cs.toList 0 (tyF P 12 t).size=_;rw[<-hl];exact MW _
    rw[this];exact yr
   ·cases hv
  ·exact oM hP k4 hr g τ c h
theorem q2q {P:Program} (hP:BS P=true) {w:World} {l:List (String × DataW Unit)} (hk:VL P l=true) (hn:(l.all fun x=>x.2.handleName?.isNone)=true) (h:laidMetH P l w):OA w (Rj P l):=by rw[MakeChecks.laidMetH_plain _ _ _ hn]at h;obtain⟨ps,h1,_⟩:=h;exact oM hP hk h1
def G.start (w:World) (gl:Nat->Option (Ty × C)):G:=
 {H:=Hl w,Z:=fun b=>w.heap[b]?,ι:=fun _=>none,τ:=fun _=>none,κ:=fun _=>none,gl:=gl,oo:=oof w,σ:=fun _=>none}
theorem tA (n:Nat):∀(ts:List Ty) (cs:List C),Gk n (jx V.d ts cs)=[]
 | [],_=>by simp[Gk]
 |_::_,[]=>by simp[Gk]
 |t::ts,c::cs=>by simp[Gk,V.EH,tA (n+1) ts cs]
theorem yO (n:Nat):∀(ts:List Ty) (cs:List C),Db n (jx V.d ts cs)=jx V.d ts cs
 | [],_=>by simp[Db]
 |_::_,[]=>by simp[Db]
 |t::ts,c::cs=>by simp[Db,V.slot,yO (n+1) ts cs]
theorem F2 {w:World} {gl:Nat->Option (Ty × C)} (h:OA w gl) (ts:List Ty) (cs:List C):AY (G.start w gl) w (S.start (jx V.d ts cs) fun _=>none):=by refine⟨fun b l hb=>?_,fun b o hb=>hb,fun b o sz hb=>by simp[G.start]at hb,fun k o hk=>?_,fun k hk=>absurd rfl hk,fun k k' b τ τ' hk=>by simp[G.start]at hk,fun t L ht=>?_,fun t ht=>absurd rfl ht,h,rfl,fun b sz hb=>by simp[G.start]at hb⟩;{simp only[G.start,Hl]at hb;split at hb;{rename_i c T fr hc;cases hb;exact⟨c,T,fr,[],hc,by simp⟩};{cases hb}};{cases k <;> simp[S.start,jt,Cs,AZ]at hk};{simp[S.start,S.live,tA,Ed,look]at ht}
theorem fW {H:Type} {enc:TypeId × Value->H} {P:Program} {w:World} {base:Nat} {sp:Nat->Bool} {held:Bool}:∀{ts:List TypeId} {vs:List Value} {ds:List (DataW H)} {ps:List MemPlace},
  ko enc P w base sp held ts vs ds ps->vs.length=ts.length/\ds.length=ts.length
 | [],vs,ds,ps,h=>by obtain⟨rfl,rfl,rfl⟩:=trodAll_nil h;simp
 |t::ts,vs,ds,ps,h=>by obtain⟨v,vs,d,ds,p,q,rfl,rfl,rfl,h1,h2⟩:=trodAll_cons h;have:=fW h2;simp[this]
theorem zT {H:Type} {enc:TypeId × Value->H} {P:Program} {w:World} {base:Nat} {sp:Nat->Bool} {held:Bool}:∀{ts:List TypeId} {vs:List Value} {ds:List (DataW H)} {ps:List MemPlace} {i:Nat} {t:TypeId} {v:Value} {d:DataW H},
  ko enc P w base sp held ts vs ds ps->ts[i]? =some t->vs[i]? =some v->ds[i]? =some d->∃p,DataW.Trod enc P w base sp held t v d p
 | [],vs,ds,ps,i,t,v,d,h,ht,_,_=>by simp at ht
 |t::ts,vs,ds,ps,i,t',v',d',h,ht,hv,hd=>by
  obtain⟨v,vs,d,ds,p,q,rfl,rfl,rfl,h1,h2⟩:=trodAll_cons h;cases i with
  |zero=>simp at ht hv hd;subst ht;subst hv;subst hd;exact⟨p,h1⟩|succ i=>exact zT h2 (by simpa using ht) (by simpa using hv) (by simpa using hd)
theorem zU {H:Type} {enc:TypeId × Value->H} {P:Program} (hl:laidOutB P=true) (hm:mapsRowed P=true) (hz:eY P=true) {w w':World} (hh:∀b,b<w.heap.size->w'.heap[b]? =w.heap[b]?) {sp:Nat->Bool}:
  ∀{ts:List TypeId} {vs:List Value} {ds:List (DataW H)} {ps:List MemPlace},(∀t∈ts,t<P.types.size)->ko enc P w 0 (fun _=>true) true ts vs ds ps->(∀p∈ps,sp p.block=true)->ko enc P w' 0 sp true ts vs ds ps
 | [],vs,ds,ps,_,h,_=>by obtain⟨rfl,rfl,rfl⟩:=trodAll_nil h;exact trodAll_mk0
 |t::ts,vs,ds,ps,hts,h,hs=>by
  have hlt:=ss h;obtain⟨v,vs,d,ds,p,q,rfl,rfl,rfl,⟨n,h1⟩,h2⟩:=trodAll_cons h
  refine⟨p,q,⟨n,DataW.trod_stays (kids_rows hl hm) (fun{t e} ht hu=>?_) (fun h=>by cases h) (hts t (by simp)) h1 (fun x hx=>?_) (fun x hx=>hs x (by simp[hx]))⟩,
   zU hl hm hz hh (fun t ht=>hts t (by simp[ht])) h2 (fun x hx=>hs x (by simp[hx])),rfl⟩
  ·have:=dv.1 hz t (gp.2 ht);simp only[hu]at this;simpa using this
  ·have:=hlt x (by simp;exact .inl hx);cases x with|cell b off=>simp only[xn,mu];rw[hh b this]|map b=>simp only[xn];rw[hh b this]
theorem q5K {P:Program} {W:World} {base:Nat} {t:TypeId} {v:Value} (hd:(ty P t).dat=true) (h:uh P W .any base t v):Bi v=(ty P t).isAgg:=by
 unfold ty tyF at hd ⊢;split at hd
 ·rename_i ht;rw[if_pos ht];unfold uh at h;cases hu:P.underlying t with
  |none=>simp[hu,Ty.dat]at hd|some d=>
   rw[hu]at h;cases d <;> simp only[hu,Ty.dat,Ty.isAgg,fq]at hd h ⊢
   case struct=>obtain⟨cs,rfl,_⟩:=h;rfl
   case array=>obtain⟨cs,rfl,_⟩:=h;rfl
   all_goals
    unfold Cell.okWide at h;rw[hu]at h;cases v <;> simp[Cell.ok,hu]at h <;> rfl
 ·simp[Ty.dat]at hd
section
variable {H:Type} {enc:TypeId × Value->H} {P:Program}
theorem q3S (hP:BS P=true) (hl:laidOutB P=true) (hm:mapsRowed P=true) (hz:eY P=true) {f:FuncId} {fn:Func} {s:ChangeSpec} {W:World} {base:Nat} {args:Array Value} {ds gs:List (DataW H)} {before:List MemPlace} {apart fresh handsOn again:Bool}
  (hp:fn.params.toList.all (fun t=>decide (t<P.types.size)&&(ty P t).dat)=true) {tb:TypeId} (hr:fn.resultTypes=#[tb]) (hb:P.underlying tb=some .bool) (z81:s.vars=[])
  (z8M:∀(j:Nat) t v,fn.params[j]? =some t->args[j]? =some v->uh P W .any base t v)
  (hW:DataW.Whole enc P fn.params.toList s.vars apart W args.toList ds gs before)
  (hwt:(mn P fn.params.toList ds).all (·<=reachBytes)=true) {gl:Nat->Option (Ty × C)} (hgl:OA W gl)
  (hfr:(s.fn H (ds++gs)).results=[.lit (.bool true)]) (hfa:(s.fn H (ds++gs)).args=ds) (hfv:(s.fn H (ds++gs)).vars=[])
  (law:Cc ⟨P,gl⟩ f (jx V.d (fn.params.toList.map (ty P)) (ds.map cOf)) (fun _=>none) (.d .bool (.bool true)) []):
  Calls P f args W fun e W'=>∃v,e= .returned v/\s.post enc P fn apart fresh handsOn again W args v W':=by
 have hW':=hW;obtain⟨p,q,hA,hV,rfl,hfz,hnd⟩:=hW;rw[z81]at hV;obtain⟨rfl,rfl⟩:=trodVars_none hV;have z9D:=fW hA;have z9W:∀t∈fn.params.toList,t<P.types.size/\(ty P t).dat=true:=by intro t ht;have:=dv.1 hp t ht;simpa using this
 refine(law (fun _=>none) (G.start W gl) W args (fun _ _ h=>h) rfl ⟨F2 hgl _ _,fun _ _ h=>nomatch h⟩ ?_ ?_).mono ?_;{simp only[List.length_zipWith,List.length_map,z9D.2];have:=z9D.1;simp at this ⊢;omega}
 ·intro i x u hx hu;rw[yO,List.getElem?_zipWith]at hx;split at hx
  ·rename_i τ c hτ hc;cases hx;simp only[db,ed]at hτ hc;obtain⟨t,ht,rfl⟩:=hτ;obtain⟨d,hd,rfl⟩:=hc;have hu':args.toList[i]? =some u:=by simpa using hu
   obtain⟨ps,fuel,htr⟩:=zT hA ht hu' hd;have hm:=z9W t (fa ht);have hv:=z8M i t u (by simpa using ht) hu;refine(Ca rfl).2 ⟨?_,?_⟩;{simp only[AA];exact TG hP (fun _=>rfl) fuel 12 hm.1 hm.2 htr (gQ ht hd hwt)};{simp only[V.ty];exact q5K hm.2 hv}
  ·cases hx
 ·rintro e W' ⟨u,Γ',rfl,gle,c',hu⟩;have hu':u= .bool true:=(GL hu).1;subst hu';refine⟨_,rfl,?_⟩;have hold:∀b,b<W.heap.size->W'.heap[b]? =W.heap[b]?:=by
   intro b hb;have:Γ'.Z b=some W.heap[b]:=by rw[gle.Z];simp[G.start,hb]
   rw[c'.hZ b _ this];simp[hb]
  have hoo:oof W'=oof W:=by rw[c'.hoo,gle.oo];rfl
  have hpl:∀t∈fn.params.toList,t<P.types.size:=fun t ht=>(z9W t ht).1;have z9X:∀x∈p,x.block<W.heap.size:=ss hA;have z8D:∀(b:Nat) (sp:Nat->Bool) (hd:Bool),ko enc P W' b sp hd fn.resultTypes.toList ((Value.bool true).resultList fn.resultTypes.size) [.lit (.bool true)] []:=by intro b sp hd;rw[hr];exact trodAll_mk1 (shut_bool hb _)
  have z9E:∀sp:Nat->Bool,(∀x∈p,sp x.block=true)->ko enc P W' 0 sp true fn.params.toList args.toList ds p:=fun sp hs=>zU hl hm hz hold hpl hA hs;refine⟨ds,[],p++[],[],p,[],hW',?_,?_,?_,?_,fun _=>⟨?_,[.lit (.bool true)]++ds,[],([]++p)++[],⟨[]++p,[],trodAll_append (z9E _ (fun _ _=>rfl)) (z8D _ _ _),by rw[z81];rfl,rfl,?_,?_⟩,?_⟩⟩;{rw[hfr];exact z8D _ _ _};{rw[hfa];exact z9E _ (fun x hx=>by simpa using z9X x hx)};{rw[hfv,z81];rfl};{refine⟨congrArg Prod.fst hoo,congrArg Prod.snd hoo,fun i hi=>?_⟩;rw[hold i hi];cases hc:W.heap[i]? with|none=>rfl|some o=>cases o <;> simp}
  ·intro j t r hj hrr;rw[hr]at hj hrr;cases j with
   |zero=>
    simp at hj;subst hj;have:r= .bool true:=by simpa[Value.resultList]using hrr.symm
    subst this;exact okWide_bool_mk hb _
   |succ j=>simp at hj
  ·intro b off hx;have hx':MemPlace.cell b off∈p:=by simpa using hx
   have:=hfz b off (by simpa using hx');unfold World.frozen? at this ⊢;rw[hold b (z9X _ hx')];exact this
  ·intro ha;simpa using hnd ha
  ·intro x hx _;simpa using hx
end
end
def UZ {α:Type}:List (Nat × α)->Nat->List (Nat × α)
 | [],_=>[]|(j,x)::l,i=>if j=i then UZ l i else(j,x)::UZ l i
def UY {α:Type}:List (Key × α)->Key->List (Key × α)
 | [],_=>[]|(j,x)::l,i=>if j=i then UY l i else(j,x)::UY l i
def S.less (s:S) (t j:Nat):S:=⟨UZ s.env t,UY s.loc (.l j),s.A,s.tk⟩
attribute [go_sem] UZ UY S.less
section
section
variable {X:Cx} {md:List (Nat × Nat)} {ops:Array Oper} {Φ:S->Prop} {rest:List Oper} {ts:List Nat} {o:Oper} {base s:S}
end
end
def aP:Nat->List Nat->Bool
 |_,[]=>false|i,j::l=>if i=j then true else aP i l
def Zb {α:Type}:List (Nat × α)->List Nat->List (Nat × α)
 | [],_=>[]|(j,x)::l,ks=>if aP j ks then(j,x)::Zb l ks else Zb l ks
attribute [go_sem] aP Zb
mutual
def C.beq:C->C->Bool
 | .int a,.int b=>decide (a=b)| .bool a,.bool b=>a==b| .str a,.str b=>decide (a=b)| .agg a,.agg b=>C.HM a b| .slice a,.slice b=>C.HM a b| .nil,.nil=>true|_,_=>false
def C.HM:List C->List C->Bool
 | [],[]=>true|x::xs,y::ys=>C.beq x y&&C.HM xs ys|_,_=>false
end
mutual
theorem C.beq_iff:∀(a b:C),C.beq a b=true↔a=b
 | .int a,b=>by cases b <;> simp[C.beq]
 | .bool a,b=>by cases b <;> simp[C.beq]
 | .str a,b=>by cases b <;> simp[C.beq]
 | .agg a,b=>by cases b <;> simp[C.beq,C.OO a]
 | .slice a,b=>by cases b <;> simp[C.beq,C.OO a]
 | .nil,b=>by cases b <;> simp[C.beq]
theorem C.OO:∀(a b:List C),C.HM a b=true↔a=b
 | [],b=>by cases b <;> simp[C.HM]
 |x::xs,[]=>by simp[C.HM]
 |x::xs,y::ys=>by simp[C.HM,C.beq_iff x,C.OO xs]
end
instance:DecidableEq C:=fun a b=>decidable_of_iff _ (C.beq_iff a b)
theorem C.Uj (a b:C):C.eqb a b=C.beq a b:=by rw[Bool.eq_iff_iff,C.Gu,C.beq_iff]
def V.isAny:V->Bool
 | .any=>true|_=>false
theorem V.PM {x:V} (h:x.isAny=false):x≠.any:=by intro e;subst e;cases h
instance (k:IntKind) (x:V):Decidable (x.isInt k):=by unfold V.isInt;split <;> infer_instance
instance (x:V):Decidable x.isBool:=by unfold V.isBool;split <;> infer_instance
instance (x:V):Decidable x.isStr:=by unfold V.isStr;split <;> infer_instance
instance (x:V):Decidable x.Fv:=by unfold V.Fv;split <;> infer_instance
instance (τ:Ty) (x:V):Decidable (x.Dr τ):=by unfold V.Dr;split <;> infer_instance
def S.wA (s:S) (A:Key->Option O):S:={s with A:=A}
def leA (A A':Key->Option O):Prop:=∀k o,A k=some o->A' k=some o
theorem Dz {s:S} {A':Key->Option O} (hA:leA s.A A') {k:Key} {o:O} (h:s.obj k=some o):(s.wA A').obj k=some o:=by
 simp only[jt,Cs,S.wA]at h ⊢;cases hl:AZ s.loc k with
 |some x=>rw[hl]at h;exact h|none=>
  rw[hl]at h;cases k with
  |l n=>cases h
  |g k=>exact hA _ _ h
theorem KQ (s:S) (A':Key->Option O) (n:Nat):(s.wA A').obj (.l n)=s.obj (.l n):=rfl
theorem Fp (gl:Nat->Option (Ty × C)) (s:S) (A':Key->Option O):BL gl (s.wA A')=BL gl s:=by funext y;cases y <;> rfl
theorem gE {s:S} {A':Key->Option O} (hA:leA s.A A'):leA s.up (s.wA A').up:=by intro k o h;simp only[S.up,ed]at h ⊢;obtain⟨x,h1,h2⟩:=h;exact⟨x,Dz hA h1,h2⟩
theorem q33 (s:S) (A':Key->Option O) (t:Nat):(s.wA A').live t=s.live t:=rfl
theorem lZ {s:S} {A':Key->Option O} (hA:leA s.A A') {x:V} {r:Nat × Ty × List C} (h:FC s x=some r):FC (s.wA A') x=some r:=by
 cases x <;> simp only[FC]at h ⊢ <;> try exact h
 split at h;{rename_i y hy;rw[Dz hA hy];exact h};{cases h}
def UD (τ:Ty):V->List (Nat × V)->Bool
 |_,[]=>true|x,(i,v)::rest=>(τ.child i).isSome&&decide ((Cj (τ.get i) v).ty=τ.get i)&&(Cj (τ.get i) v).plain&& !(x.at [i]).isAny&&UD τ (x.setAt [i] (Cj (τ.get i) v)) rest
theorem jI {τ:Ty}:∀{l:List (Nat × V)} {x:V},UD τ x l=true->MV τ x l
 | [],_,_=>trivial|(i,v)::rest,x,h=>by simp only[UD,bg,decide_eq_true_eq,je]at h;exact⟨h.1.1.1.1,h.1.1.1.2,h.1.1.2,V.PM h.1.2,jI h.2⟩
abbrev RI:=V × List (Key × O) × List (Nat × Option Nat)
def Ge {α:Type}:List (C × α)->C->α->List (C × α)
 | [],c,v=>[(c,v)]|(k,u)::es,c,v=>if C.beq c k=true then(k,v)::es else(k,u)::Ge es c v
theorem vF {α:Type} (c:C) (v:α):∀(es:List (C × α)),Ge es c v=FF es c v
 | []=>rfl|(k,u)::es=>by simp only[Ge,FF,C.Uj,vF c v es]
theorem q9i {P:Program} {s:S} {A':Key->Option O} (hA:leA s.A A') {src dst:TypeId} {x:V} {ys:List C} (h:strOf P s src dst x=some ys):strOf P (s.wA A') src dst x=some ys:=by
 cases hel:FC s x with
 |some r=>
  rw[<-h];unfold strOf;rw[hel,lZ hA hel]
 |none=>
  unfold strOf at h ⊢;rw[hel]at h;split at h;{split at h;{rename_i h0;rw[if_pos h0];split at h;{exact h};{cases h}};{cases h}};{cases h}
theorem q9h {P:Program} {s:S} {src dst:TypeId} {x:V} {ys:List C} {K:V->Prop} (h:strOf P s src dst x=some ys):¬NU P src dst x K:=by unfold strOf at h;split at h;{rename_i ht hd;unfold NU;rw[ht,hd];exact id};{cases h}
theorem VI (A':Key->Option O):∀(σ:List (Nat × List Nat)) (s:S),Ev σ (s.wA A')=(Ev σ s).wA A'
 | [],_=>rfl|(t,_)::σ,s=>by simp only[Ev];exact VI A' σ (s.tok t none)
theorem vC (A':Key->Option O) (d:Nat):∀(L:List (Key × O)) (s:S),Gd d L (s.wA A')=(Gd d L s).wA A'
 | [],_=>rfl|(k,o)::L,s=>by simp only[Gd,vC A' d L s];rfl
theorem vG (A':Key->Option O) (d:Nat):∀(L:List (Nat × Option Nat)) (s:S),HV d L (s.wA A')=(HV d L s).wA A'
 | [],_=>rfl|(k,o)::L,s=>by simp only[HV,vG A' d L s];rfl
theorem kZ (A':Key->Option O):∀(L:List Nat) (s:S),Gr L (s.wA A')=(Gr L s).wA A'
 | [],_=>rfl|t::L,s=>by simp only[Gr,kZ A' L s];rfl
theorem Q6 (A':Key->Option O) (tip:Bool) (s:S) (x:V):DD tip (s.wA A') x=DD tip s x:=rfl
theorem cH (A':Key->Option O) (tip:Bool) (s:S):∀(ys:List V),DQ tip (s.wA A') ys=DQ tip s ys
 | []=>rfl|y::ys=>by simp only[DQ,cH A' tip s ys,Q6]
theorem iQ (A':Key->Option O) (P:Program) (tip:Bool) (s:S):∀(Ts:List TypeId) (ys:List V),DU P tip (s.wA A') Ts ys=DU P tip s Ts ys
 | [],_=>rfl|_::_,[]=>rfl|T::Ts,y::ys=>by simp only[DU,iQ A' P tip s Ts ys];rfl
theorem dZ (A':Key->Option O) (s:S) (tip:Bool) (ys:List V) (d:Nat) (v:V) (L:List (Key × O)):(s.wA A').ret tip ys d v L=(s.ret tip ys d v L).wA A':=by simp only[S.ret,cH,vC,kZ,vG]
def Hj (s:S) (d:Nat):List (Key × O)->Bool
 | []=>true|(.g k,_)::L=>(s.obj k).isSome&&Hj s d L|(.l j,_)::L=>(s.obj (.l (rk d j))).isNone&&Hj s d L
theorem Uz {s:S} {A':Key->Option O} (hA:leA s.A A') {d:Nat}:∀{L:List (Key × O)},Hj s d L=true->gOk (s.wA A') d L
 | [],_=>trivial|(.g k,_)::L,h=>by simp only[Hj,bg]at h;obtain⟨o,ho⟩:=Option.isSome_iff_exists.1 h.1;exact⟨by rw[Dz hA ho];rfl,Uz hA h.2⟩
 |(.l j,_)::L,h=>by simp only[Hj,bg]at h;exact⟨by rw[KQ];simpa using h.1,Uz hA h.2⟩
def JG (s:S) (d:Nat):List (Nat × Option Nat)->Bool
 | []=>true|(m,_)::l=> !s.known (rk d m)&&JG s d l
theorem fH {s:S} {A':Key->Option O} {d:Nat}:∀{L:List (Nat × Option Nat)},JG s d L=true->tOk (s.wA A') d L
 | [],_=>trivial|(m,_)::L,h=>by simp only[JG,bg,je]at h;exact⟨h.1,fH h.2⟩
def Fs (s:S):List (Key × O)->Bool
 | []=>true|(.l n,_)::l=>(s.obj (.l n)).isNone&&Fs s l|(.g _,_)::_=>false
theorem Rg {s:S} {A':Key->Option O}:∀{L:List (Key × O)},Fs s L=true->GD (s.wA A') L
 | [],_=>trivial|(.l n,_)::L,h=>by simp only[Fs,bg]at h;exact⟨by rw[KQ];simpa using h.1,Rg h.2⟩
 |(.g _,_)::_,h=>by simp[Fs]at h
def LM (s:S):List (Nat × Option Nat)->Bool
 | []=>true|(t,_)::l=> !s.known t&&LM s l
theorem Rh {s:S} {A':Key->Option O}:∀{L:List (Nat × Option Nat)},LM s L=true->GG (s.wA A') L
 | [],_=>trivial|(t,_)::L,h=>by simp only[LM,bg,je]at h;exact⟨h.1,Rh h.2⟩
abbrev Kp:=FuncId->List V->(Key->Option O)->Option (V × List (Key × O))
abbrev Kq:=FuncId->List V->Option V
def Nw (X:Cx) (call:Kp):Prop:=∀f xs A v L,call f xs A=some (v,L)->Cc X f xs A v L
def Nz (X:Cx) (ext:Kq):Prop:=∀f xs v,ext f xs=some v->Ny X f xs v
section
def z0M (ext:Kq) (o:Oper) (ρ:Operand->V):Option V:=
 match o.op with
 | .call c=>(match c.callee with| .value fo=>(match ρ fo with| .fn f []=>ext f (c.args.toList.map ρ)|_=>none)|_=>none)|_=>none
def z0L (X:Cx) (call:Kp) (o:Oper) (ρ:Operand->V) (s:S):Option (V × List (Key × O)):=
 match o.op with
 | .call c=>(match c.callee with
  | .value fo=>(match ρ fo with
   | .fn f yg=>if JR X.P f=true/\c.argTypes.toList.length=c.args.toList.length then
      call f (DU X.P false s (Ju c.argTypes.toList yg) (FA (c.args.toList.map ρ) yg)) s.up else none
   |_=>none)
  |_=>none)
 |_=>none
def Fl (o:Oper) (ρ:Operand->V):List V:=
 match o.op with
 | .call c=>(match c.callee with| .value fo=>(match ρ fo with| .fn _ yg=>FA (c.args.toList.map ρ) yg|_=>[])|_=>[])|_=>[]
def Tv:List Oper->List Nat
 | []=>[]|o::l=>(match o.op with| .call c=>(match c.callee,c.args.toList with| .builtin .append,(.tmp t)::_=>[t]|_,_=>[])|_=>[])++Tv l
def SF:Nat->List Nat->Bool
 |_,[]=>false|i,j::l=>df i j||SF i l
def DP (yh:List Nat) (tbl:List (Nat × Nat)) (o:Oper) (ρ:Operand->V) (s:S):Nat:=
 match look tbl (BH o)with
 |some m=>m
 |none=>(match o.op with| .load _ x=>if SF (BH o) yh=true then(match ρ x with| .ptr k q _=>(match s.obj k with|some (.box y)=>(match y.at q with| .ts _ _ _=>1|_=>0)|_=>0)|_=>0)else 0|_=>0)
def ZY (o:Oper):Bool:=
 match o.op with
 | .call c=>(match c.callee with| .value _=>true|_=>false)|_=>false
section
variable {X:Cx} {call:Kp} {ext:Kq} (hc:Nw X call) (he:Nz X ext)
include hc he
end
theorem ZR (ops:Array Oper) (s:S) (A':Key->Option O) (j:Nat):gv ops (s.wA A') j=gv ops s j:=by unfold gv;split <;> rfl
theorem JE (s:S) (A':Key->Option O) (d:Option Nat) (v:V):(s.wA A').set d v=(s.set d v).wA A':=by cases d <;> rfl
theorem Dh (s:S) (d:Option Nat) (v:V):(s.set d v).A=s.A:=by cases d <;> rfl
section
variable {X:Cx} {call:Kp} {ext:Kq} (hc:Nw X call) (he:Nz X ext)
include hc he
end
end
section
def Li {α β:Type} (l:List α) (l':List β):Bool:=l.isEmpty&&l'.isEmpty
inductive RD where
 |k0 (v:V)|k1 (v:V) (lo:List (Key × O)) (tn:List (Nat × Option Nat))|k2 (v:V) (s:S)
def RD.kind:RD->Nat
 | .k0 _=>0| .k1 _ _ _=>1| .k2 _ _=>2
def RD.post (s:S) (A':Key->Option O) (K0:V->Prop) (K1:V->List (Key × O)->List (Nat × Option Nat)->Prop) (K2:V->S->Prop):RD->Prop
 | .k0 v=>K0 v| .k1 v lo tn=>GD (s.wA A') lo->GG (s.wA A') tn->Fs s lo=true->K1 v lo tn| .k2 v s1=>K2 v (s1.wA A')
theorem IM (s:S) (d:Option Nat) (v:V) (k:Key):(s.set d v).obj k=s.obj k:=by cases d <;> rfl
theorem bR {s:S} {lo:List (Key × O)} {tn:List (Nat × Option Nat)} (h:Fs s lo=true) {k:Key} {o:O} (hk:s.obj k=some o):(s.add lo tn).obj k=some o:=by
 have key:∀{lo:List (Key × O)},Fs s lo=true->AZ lo k=none:=by
  intro lo
  induction lo with
  |nil=>intro _;rfl|cons x lo ih=>
   obtain⟨j,y⟩:=x;cases j with
   |g j=>intro h;simp[Fs]at h|l n=>
    intro h;simp only[Fs,bg]at h;simp only[AZ];rw[if_neg,ih h.2];intro e;rw[e,hk]at h;simp at h
 have e:=key h;simp only[jt,Cs,S.add]at hk ⊢;rw[LZ,e];exact hk
section
variable {X:Cx} {call:Kp} {ext:Kq} (hc:Nw X call) (he:Nz X ext)
include hc he
end
end
section
mutual
theorem V.Ms:∀(x:V),V.BZ x x
 | .d _ _=>by simp[V.BZ,Cl,V.ty]
 | .emp _ _=>.inl rfl| .agg _ vs=>⟨rfl,V.pD vs⟩| .any=>trivial| .sl _ _ _ _| .ts _ _ _| .ye| .ptr _ _ _| .yf _ _| .sr _ _ _ _ _ _ _| .mp _| .fn _ _| .tup _| .top _=>by simp[V.BZ]
theorem V.pD:∀(xs:List V),V.GW xs xs
 | []=>trivial|x::xs=>⟨V.Ms x,rfl,V.pD xs⟩
end
def O.Za:O->Bool
 | .box y=>y.plain&&y.BW| .map _ _ _=>true| .it _ _| .dead _=>true
theorem O.Ms {o:O} (h:o.Za=true):O.BZ o o:=by
 cases o with
 |box y=>
  simp only[O.Za,bg]at h;exact⟨V.Ms y,rfl,h.1,h.2⟩
 |map=>exact⟨rfl,rfl,rfl⟩|it=>exact⟨rfl,rfl⟩|dead=>exact(rfl:_=_)
mutual
def V.keys:V->List Nat
 | .ptr (.l k) _ _| .mp (.l k)| .sr (.l k) _ _ _ _ _ _=>[k]| .agg _ vs| .fn _ vs| .tup vs=>V.KK vs|_=>[]
def V.KK:List V->List Nat
 | []=>[]|x::xs=>x.keys++V.KK xs
end
mutual
def V.zR:V->List Nat
 | .sl _ _ _ t=>[t]| .agg _ vs| .fn _ vs| .tup vs=>V.zS vs|_=>[]
def V.zS:List V->List Nat
 | []=>[]|x::xs=>x.zR++V.zS xs
end
def O.keys:O->List Nat
 | .box x=>x.keys| .map _ _ _=>[]| .it _ _| .dead _=>[]
def reach (loc:List (Key × O)):Nat->List Nat->List Nat->List Nat
 |0,_,acc=>acc|_,[],acc=>acc|f+1,k::ks,acc=>if SF k acc=true then reach loc f ks acc else match AZ loc (.l k)with|some o=>reach loc f (o.keys++ks) (k::acc)|none=>reach loc f ks acc
def Jb:List (Key × O)->List Nat
 | []=>[]|(.g _,o)::l=>o.keys++Jb l|(.l _,_)::l=>Jb l
def Gy (loc:List (Key × O)) (ks:List Nat):List (Key × O)
 ->List (Key × O)
 | []=>[]|(.g k,_)::l=>(match AZ loc (.g k)with|some o=>[(.g k,o)] |none=>[])++Gy loc ks l|(.l k,_)::l=>(if SF k ks=true then(match AZ loc (.l k)with|some o=>[(.l k,o)] |none=>[])else[])++Gy loc ks l
def Kw:List (Key × O)->Bool
 | []=>true|(_,o)::l=>o.Za&&Kw l
def Ik (L:List (Key × O)):List (Key × O)->Bool
 | []=>true|(.g k,_)::l=>(AZ L (.g k)).isSome&&Ik L l|(.l _,_)::l=>Ik L l
theorem OD {L:List (Key × O)} {A:Key->Option O}:∀{l:List (Key × O)},Ik L l=true->Ij L A l
 | [],_=>trivial|(.g k,_)::l,h=>by simp only[Ik,bg]at h;exact⟨.inl h.1,OD h.2⟩
 |(.l _,_)::l,h=>OD (l:=l) h
theorem Vv {s:S} {k:Key} {o:O} (h:AZ s.loc k=some o):s.obj k=some o:=by simp only[jt,Cs,h]
theorem LY {s:S} (ks:List Nat):∀{l:List (Key × O)},Kw (Gy s.loc ks l)=true->GZ s (Gy s.loc ks l)
 | [],_=>trivial|(.g k,_)::l,h=>by
  simp only[Gy]at h ⊢;cases hl:AZ s.loc (.g k)with
  |none=>rw[hl]at h;exact LY ks h|some o=>
   rw[hl]at h;simp only[ow,jr,Kw,bg]at h ⊢;refine⟨?_,LY ks h.2⟩;rw[Vv hl];exact O.Ms h.1
 |(.l k,_)::l,h=>by
  simp only[Gy]at h ⊢;by_cases hk:SF k ks=true
  ·rw[if_pos hk]at h ⊢;cases hl:AZ s.loc (.l k)with
   |none=>rw[hl]at h;exact LY ks h|some o=>
    rw[hl]at h;simp only[ow,jr,Kw,bg]at h ⊢;refine⟨?_,LY ks h.2⟩;rw[Vv hl];exact O.Ms h.1
  ·rw[if_neg hk]at h ⊢;exact LY ks h
def Fo (s:S):List Nat->List (Nat × V)
 | []=>[]|i::l=>(i,s.get i)::Fo s l
def JO (f g:Nat->Bool):List (Nat × V)->Bool
 | []=>true|(_,x)::l=>x.ok f g&&JO f g l
theorem Ym {s:S} {f g:Nat->Bool}:∀{l:List Nat},JO f g (Fo s l)=true->IB f g s (Fo s l)
 | [],_=>trivial|i::l,h=>by simp only[Fo,JO,bg]at h;exact⟨V.Ms _,h.1,.inr rfl,Ym h.2⟩
def EH (s:S):List Nat->List (Nat × Option Nat)
 | []=>[]|t::l=>(match look s.tk t with|some x=>[(t,x)] |none=>[])++EH s l
theorem XH {s:S}:∀{l:List Nat},tkW s (EH s l)
 | []=>trivial|t::l=>by
  simp only[EH];cases hl:look s.tk t with
  |none=>exact XH|some x=>
   refine⟨?_,XH⟩;cases x with
   |none=>simp[S.known,hl]|some L=>simp[S.live,Ed,hl]
def mH:List (Nat × V)->List Nat
 | []=>[]|(_,x)::l=>x.keys++mH l
def Yk:List (Nat × V)->List Nat
 | []=>[]|(_,x)::l=>x.zR++Yk l
def gcS (Cn:List Nat) (s:S):S:=
 ⟨Fo s Cn,Gy s.loc (reach s.loc 100000 (mH (Fo s Cn)++Jb s.loc) []) s.loc,s.A,EH s (Yk (Fo s Cn))⟩
def gcB (Cn:List Nat) (s:S):Bool:=
 Kw (gcS Cn s).loc&&Fy (Cd (gcS Cn s).loc) (DW (gcS Cn s).tk) (gcS Cn s).loc&&Ik (gcS Cn s).loc s.loc&&JO (Cd (gcS Cn s).loc) (DW (gcS Cn s).tk) (Fo s Cn)
theorem q2e {X:Cx} {n:Nat} {Cn:List Nat} {s:S} (A':Key->Option O) (h:gcB Cn s=true):EI X n (s.wA A') ((gcS Cn s).wA A'):=by
 simp only[gcB,bg]at h;obtain⟨⟨⟨h1,h2⟩,h3⟩,h4⟩:=h;refine y8 rfl ?_ h2 (OD h3) ?_ ?_;{exact LY (s:=s.wA A') _ h1}
 ·have:∀l,EH (s.wA A') l=EH s l:=by
   intro l
   induction l with
   |nil=>rfl|cons i l ih=>simp only[EH,ih];rfl
  show tkW (s.wA A') (EH s (Yk (Fo s Cn)));rw[<-this];exact XH
 ·have:Fo (s.wA A') Cn=Fo s Cn:=by
   generalize Cn=l
   induction l with
   |nil=>rfl|cons i l ih=>simp only[Fo,ih];rfl
  show IB _ _ (s.wA A') (Fo s Cn);rw[<-this]at h4 ⊢;exact Ym h4
def Pc (ml:List (Nat × Nat)):List (Nat × Nat)->Bool
 | []=>true|(d,m)::l=>df (Ck ml d) m&&Pc ml l
theorem Vn {ml:List (Nat × Nat)}:∀{l:List (Nat × Nat)},Pc ml l=true->∀p∈l,Ck ml p.1=p.2
 |(d,m)::l,h,p,hp=>by simp only[Pc,bg]at h;rcases List.mem_cons.1 hp with rfl|hp;{exact ei h.1};{exact Vn h.2 p hp}
def slotsOf:List (Nat × V)->List Nat
 | []=>[]|(i,_)::l=>i::slotsOf l
section
variable {X:Cx} {call:Kp} {ext:Kq} (hP:BS X.P=true) (hmo:X.P.follows .mixedOrders=true) (hc:Nw X call) (he:Nz X ext)
include hP hmo hc he
end
end
section
section
variable {X:Cx} {call:Kp} {ext:Kq} (hP:BS X.P=true) (hmo:X.P.follows .mixedOrders=true) (hc:Nw X call) (he:Nz X ext)
include hP hmo hc he
end
mutual
def V.GI:V->V
 | .sl eb e cs _=>.d (.slice eb e) (.slice cs)| .agg τ vs=>.agg τ (V.cB vs)|x=>x
def V.cB:List V->List V
 | []=>[]|x::xs=>x.GI::V.cB xs
end
theorem V.uG (x:V):x.GI.ty=x.ty:=by cases x <;> rfl
mutual
theorem V.uF:∀(x:V),V.BZ x x.GI
 | .sl _ _ cs _=>by simp[V.GI,V.BZ,Cl,V.ty]
 | .agg τ vs=>⟨rfl,V.uH vs⟩| .d _ _=>by simp[V.GI,V.BZ,Cl,V.ty]
 | .emp _ _=>.inl rfl| .any=>trivial| .ts _ _ _| .ye| .ptr _ _ _| .yf _ _| .sr _ _ _ _ _ _ _| .mp _| .fn _ _| .tup _| .top _=>by simp[V.GI,V.BZ]
theorem V.uH:∀(xs:List V),V.GW xs (V.cB xs)
 | []=>trivial|x::xs=>⟨V.uF x,V.uG x,V.uH xs⟩
end
def NS (s:S) (x:V):V:=
 match x with
 | .sl eb e cs t=>if s.live t=some cs.length then .ts eb e cs else .d (.slice eb e) (.slice cs)|x=>x.GI
def JA (s:S):List V->List V
 | []=>[]|x::xs=>NS s x::JA s xs
def Gb (f:Nat->Bool):List V->Bool
 | []=>true|v::vs=>(match v with| .ts _ _ _=>true|v=>v.ok f CQ&&v.plain)&&Gb f vs
def SL:List V->Bool
 | []=>true|v::vs=>v.Lj&&SL vs
theorem q5W {s:S} {f:Nat->Bool} {x:V} (hx:x.Lj=true) (h:(match NS s x with| .ts _ _ _=>true|v=>v.ok f CQ&&v.plain)=true):HW s f x (NS s x):=by
 have gen:∀{x:V},x.GI.Lj=true->(x.GI.ok f CQ&&x.GI.plain)=true->HW s f x x.GI:=by
  intro x hn h;have:V.BZ x x.GI/\x.GI.ok f CQ=true/\x.GI.plain=true/\x.GI.ty.isAgg=x.ty.isAgg:=by simp only[bg]at h;exact⟨V.uF x,h.1,h.2,by rw[V.uG]⟩
  unfold HW;split;{rename_i e1;rw[e1]at hn;cases hn};{exact this}
 cases x with
 |sl eb e cs t=>
  simp only[NS]at h ⊢;by_cases hl:s.live t=some cs.length;{rw[if_pos hl];exact⟨rfl,rfl,rfl,hl⟩};{rw[if_neg hl]at h ⊢;exact gen (x:=.sl eb e cs t) rfl h}
 |ts=>cases hx
 |agg τ vs=>exact gen (x:=.agg τ vs) rfl h|d|emp|any|ye|ptr|yf|sr|mp|fn|tup|top=>exact gen rfl h
theorem uE {s:S} {f:Nat->Bool}:∀{xs:List V},SL xs=true->Gb f (JA s xs)=true->IV s f xs (JA s xs)
 | [],_,_=>trivial|x::xs,h1,h2=>by simp only[SL,bg]at h1;simp only[JA,Gb,bg]at h2;exact⟨q5W h1.1 h2.1,uE h1.2 h2.2⟩
def dY (X:Cx) (s:S) (r:ResultVar):Bool:=
 match r with
 | .tmp _=>true| .cell a t=>(match s.get a with| .ptr k q τ=>(match s.obj k with|some (.box y)=>decide (τ=ty X.P t)&&τ.known&& !(y.at q).isAny|_=>false)|_=>false)
def TI (X:Cx) (s:S):List ResultVar->Bool
 | []=>true|r::rs=>dY X s r&&TI X s rs
theorem q79 {X:Cx} {s:S} {A':Key->Option O} (hA:leA s.A A') {r:ResultVar} (h:dY X s r=true):QM X (s.wA A') r/\Nd X (s.wA A') r=Nd X s r:=by
 cases r with
 |tmp t=>exact⟨trivial,rfl⟩|cell a t=>
  have hg:(s.wA A').get a=s.get a:=rfl;simp only[dY]at h;simp only[QM,Nd,hg];split at h;{rename_i e0;split at h;{rename_i e1;simp only[bg,decide_eq_true_eq,je]at h;simp only[e0,Dz hA e1,e1];exact⟨⟨h.1.1,h.1.2,V.PM h.2⟩,by first|rfl|trivial⟩};{cases h}};{cases h}
theorem xE {X:Cx} {s:S} {A':Key->Option O} (hA:leA s.A A'):∀{rs:List ResultVar},TI X s rs=true->QO X (s.wA A') rs/\Fh X (s.wA A') rs=Fh X s rs
 | [],_=>⟨trivial,rfl⟩|r::rs,h=>by simp only[TI,bg]at h;obtain⟨h1,h2⟩:=q79 hA h.1;obtain⟨h3,h4⟩:=xE hA h.2;exact⟨⟨h1,h3⟩,by simp only[Fh,h2,h4]⟩
def cD:List V->V
 | [x]=>x|xs=>.tup xs
theorem q8d {xs:List V} {vs:List V} (h:xs.length=vs.length):Kc xs (cD vs)=some vs:=by
 match xs,vs,h with
 | [],[],_=>rfl| [_],[_],_=>rfl|_::_::_,_::_::_,_=>rfl
theorem uD (s:S):∀(xs:List V),(JA s xs).length=xs.length
 | []=>rfl|x::xs=>by simp[JA,uD s xs]
def Yp (X:Cx) (fn:Func) (s:S):Option (V × List (Key × O)):=
 let rs:=Fh X s fn.results.toList
 let vs:=JA s rs
 let L:=Gy s.loc (reach s.loc 100000 (V.KK vs++Jb s.loc) []) s.loc
 if TI X s fn.results.toList=true/\SL rs=true/\Gb (Cd L) vs=true/\HB (JF (GN 2000 rs vs))=true/\Kw L=true/\Fy (Cd L) CQ L=true/\Ik L s.loc=true then some (cD vs,L)else none
theorem q1S {X:Cx} {fn:Func} {s:S} {v:V} {L:List (Key × O)} {A':Key->Option O} (hA:leA s.A A') (h:Yp X fn s=some (v,L)):Ez X fn A' v L (s.wA A'):=by
 simp only[Yp,az,ee,fw]at h;obtain⟨⟨h1,h2,h3,h4,h5,h6,h7⟩,rfl,rfl⟩:=h;obtain⟨c1,c2⟩:=xE hA h1;have hL:∀(x:S) (xs vs:List V) f,IV x f xs vs->IV (x.wA A') f xs vs:=by
  intro x xs
  induction xs with
  |nil=>intro vs f h;cases vs <;> exact h
  |cons y ys ih=>
   intro vs f h;cases vs with
   |nil=>exact h|cons v vs=>exact⟨h.1,ih vs f h.2⟩
 refine⟨rfl,LY (s:=s.wA A') _ h5,h6,OD h7,c1,?_⟩;rw[c2,q8d (uD s _).symm];exact⟨hL _ _ _ _ (uE h2 h3),h4⟩
section
variable {X:Cx} {ov:Kp} {ext:Kq} (hP:BS X.P=true) (hmo:X.P.follows .mixedOrders=true) (hov:Nw X ov) (he:Nz X ext)
include hP hmo hov he
end
def A0:Key->Option O:=fun _=>none
theorem Cc.any {X:Cx} {f:FuncId} {xs:List V} {v:V} {L:List (Key × O)} (h:Cc X f xs A0 v L) (A:Key->Option O):Cc X f xs A v L:=h.mono fun _ _ h=>by cases h
end
def Oq {R:Type} (op:BinOp) (k:IntKind) (a b:Int) (K:V->Option R):Option R:=
 match op with
 | .add=>K (.d (.int k) (.int (k.wrap (a+b))))| .sub=>K (.d (.int k) (.int (k.wrap (a-b))))| .mul=>K (.d (.int k) (.int (k.wrap (a*b))))| .quo=>if b≠0 then K (.d (.int k) (.int (k.wrap (a.tdiv b))))else none| .rem=>if b≠0 then K (.d (.int k) (.int (a.tmod b)))else none| .and| .or| .xor| .andNot=>K (.d (.int k) (.int (BV op k a b)))| .eql=>K (.d .bool (.bool (decide (a=b))))| .neq=>K (.d .bool (.bool (!decide (a=b))))| .lss=>K (.d .bool (.bool (decide (a<b))))| .leq=>K (.d .bool (.bool (decide (a<=b))))| .gtr=>K (.d .bool (.bool (decide (b<a))))| .geq=>K (.d .bool (.bool (decide (b<=a))))|_=>none
theorem q1q {R:Type} {r:R} {Kr:V->Option R} {op:BinOp} {k:IntKind} {a b:Int} {K:V->Prop} (h:Oq op k a b Kr=some r) (hK:∀v,Kr v=some r->K v):KJ op k a b K:=by
 cases op <;> simp only[Oq,KJ,ee,az,reduceCtorEq]at h ⊢ <;>
  first|exact hK _ h|(obtain⟨h1,h⟩:=h;exact⟨h1,hK _ h⟩)
def Ov {R:Type} (op:BinOp) (k:IntKind) (a b:Int) (K:V->Option R):Option R:=
 match op with
 | .shl=>if 0<=b then K (.d (.int k) (.int (k.wrap (a*2^(min b.toNat k.bits)))))else none| .shr=>if 0<=b then K (.d (.int k) (.int (a.fdiv (2^(min b.toNat k.bits)))))else none|_=>none
theorem q1z {R:Type} {r:R} {Kr:V->Option R} {op:BinOp} {k:IntKind} {a b:Int} {K:V->Prop} (h:Ov op k a b Kr=some r) (hK:∀v,Kr v=some r->K v):Ni op k a b K:=by
 cases op <;> simp only[Ov,Ni,ee,az,reduceCtorEq]at h ⊢ <;>
  (obtain⟨h1,h⟩:=h;exact⟨h1,hK _ h⟩)
def Oy {R:Type} (op:BinOp) (a b:List UInt8) (K:V->Option R):Option R:=
 match op with
 | .add=>if a.length+b.length<=140737488355328 then K (.d .str (.str (a++b)))else none| .eql=>K (.d .bool (.bool (a==b)))| .neq=>K (.d .bool (.bool (!(a==b))))| .lss=>K (.d .bool (.bool (lx a b)))| .leq=>K (.d .bool (.bool (lx a b||a==b)))| .gtr=>K (.d .bool (.bool (!(lx a b||a==b))))| .geq=>K (.d .bool (.bool (!lx a b)))|_=>none
theorem q1G {R:Type} {r:R} {Kr:V->Option R} {op:BinOp} {a b:List UInt8} {K:V->Prop} (h:Oy op a b Kr=some r) (hK:∀v,Kr v=some r->K v):MB op a b K:=by
 cases op <;> simp only[Oy,MB,ee,az,reduceCtorEq]at h ⊢ <;>
  first|exact hK _ h|(obtain⟨h1,h⟩:=h;exact⟨h1,hK _ h⟩)
def Mh {R:Type} (op:BinOp) (b:Bool) (K:V->Option R):Option R:=
 match op with
 | .eql=>K (.d .bool (.bool b))| .neq=>K (.d .bool (.bool (!b)))|_=>none
theorem lM {R:Type} {r:R} {Kr:V->Option R} {op:BinOp} {b:Bool} {K:V->Prop} (h:Mh op b Kr=some r) (hK:∀v,Kr v=some r->K v):JN op b K:=by cases op <;> simp only[Mh,JN,reduceCtorEq]at h ⊢ <;> exact hK _ h
def RL {R:Type} (op:BinOp) (x y:Bool) (K:V->Option R):Option R:=
 match op with
 | .eql=>K (.d .bool (.bool (x==y)))| .neq=>K (.d .bool (.bool (!(x==y))))|_=>none
def RP {R:Type} (op:BinOp) (x y:Option Bool) (K:V->Option R):Option R:=
 match op,x,y with
 | .eql,some a,some true=>K (.d .bool (.bool a))| .neq,some a,some true=>K (.d .bool (.bool (!a)))| .eql,some true,some b=>K (.d .bool (.bool b))| .neq,some true,some b=>K (.d .bool (.bool (!b)))|_,_,_=>none
def RR {R:Type} (op:BinOp) (x:Option (Option Bool)) (y:V) (K:V->Option R):Option R:=
 match op,x,y with
 | .eql,some r,.ye=>K (Iy r)| .neq,some r,.ye=>K (Iy (r.map (!·)))|_,_,_=>none
def Oi {R:Type} (P:Program) (op:BinOp) (T:TypeId) (x y:V) (K:V->Option R):Option R:=
 match ty P T with
 | .int k=>if x.isInt k then(if BinOp.LU op then(if y.Fv then Ov op k x.toInt y.toInt K else none)else(if y.isInt k then Oq op k x.toInt y.toInt K else none))else none| .bool=>if x.isBool/\y.isBool then RL op x.toBool y.toBool K else none| .str=>if x.isStr/\y.isStr then Oy op x.toStr y.toStr K else none| .ptr=>RP op x.Hv y.Hv K| .arr n e=>if Cr P T=true/\x.Dr (.arr n e)/\y.Dr (.arr n e)then Mh op (C.beq x.toC y.toC) K else none| .struct sz os fs=>if Cr P T=true/\x.Dr (.struct sz os fs)/\y.Dr (.struct sz os fs)then Mh op (C.beq x.toC y.toC) K else none| .slice _ _=>RR op x.SK y K|_=>none
theorem q1d {R:Type} {r:R} {Kr:V->Option R} {P:Program} {op:BinOp} {T:TypeId} {x y:V} {K:V->Prop} (h:Oi P op T x y Kr=some r) (hK:∀v,Kr v=some r->K v):Pp P op T x y K:=by unfold Oi at h;unfold Pp;generalize ty P T=τ at h ⊢;split at h;{simp only[az]at h;obtain⟨h1,h2⟩:=h;refine⟨h1,?_⟩;split at h2;{rename_i hs;rw[if_pos hs];simp only[az]at h2;exact⟨h2.1,q1z h2.2 hK⟩};{rename_i hs;rw[if_neg hs];simp only[az]at h2;exact⟨h2.1,q1q h2.2 hK⟩}};{simp only[az]at h;obtain⟨⟨h1,h2⟩,h3⟩:=h;refine⟨h1,h2,?_⟩;cases op <;> simp only[RL,reduceCtorEq]at h3 ⊢ <;> exact hK _ h3};{simp only[az]at h;exact⟨h.1.1,h.1.2,q1G h.2 hK⟩};{simp only[RP]at h;split at h <;> (try (cases h)) <;> simp_all};{simp only[az]at h;exact⟨h.1.1,h.1.2.1,h.1.2.2,by rw[C.Uj];exact lM h.2 hK⟩};{simp only[az]at h;exact⟨h.1.1,h.1.2.1,h.1.2.2,by rw[C.Uj];exact lM h.2 hK⟩};{simp only[RR]at h;split at h <;> (try (cases h)) <;> simp_all};{cases h}
def Ow {R:Type} (P:Program) (T:TypeId) (x:V) (lo hi mx:Option V) (K:V->Option R):Option R:=
 match ty P T with
 | .str=>(match DA lo 0,DA hi x.toStr.length with|some l,some h=>if x.isStr/\mx.isNone then(if 0<=l/\l<=h/\h<=x.toStr.length then K (.d .str (.str ((x.toStr.take h.toNat).drop l.toNat)))else none)else none|_,_=>none)
 | .slice eb e=>(match x with
   | .sr k q lo0 n cp eb' e'=>if eb'=eb/\e'=e then(match DA lo 0,DA hi n,mx with|some l,some h,none=>if 0<=l/\l<=h/\h<=n then K (.sr k q (lo0+l.toNat) (h-l).toNat (cp.map (· -l.toNat)) eb e)else none|some l,some h,some m=>if hi.isSome=true then(match DA (some m) 0 with|some m=>if 0<=l/\l=h/\h=m/\m<=n then K (.emp eb e)else none|none=>none)else none|_,_,_=>none)else none
   |x=>(match x.Fk with|some (eb',e',cs)=>if eb'=eb/\e'=e then(match DA lo 0,DA hi cs.length,mx with|some l,some h,none=>if 0<=l/\l<=h/\h<=cs.length then K (.d (.slice eb e) (.slice (cut cs l h)))else none|some l,some h,some m=>if hi.isSome=true then(match DA (some m) 0 with|some m=>if 0<=l/\l=h/\h=m/\m<=cs.length then K (.emp eb e)else none|none=>none)else none|_,_,_=>none)else none|none=>none))
 |_=>(match WJ P T with|some (n,eb,e)=>if n*eb<=140737488355328/\n<=maxLen/\mx.isNone then(match DA lo 0,DA hi n with|some l,some h=>if 0<=l/\l<=h/\h<=n then(match x with| .ptr k q τ=>if τ= .arr n e then K (.sr k q l.toNat (h-l).toNat (some (n-l.toNat)) eb e)else none| .yf τ c=>if τ= .arr n e then K (.d (.slice eb e) (.slice (cut c.elems l h)))else none|_=>none)else none|_,_=>none)else none|none=>none)
theorem q1D {R:Type} {r:R} {Kr:V->Option R} {P:Program} {T:TypeId} {x:V} {lo hi mx:Option V} {K:V->Prop} (h:Ow P T x lo hi mx Kr=some r) (hK:∀v,Kr v=some r->K v):Pt P T x lo hi mx K:=by
 unfold Ow at h;unfold Pt;generalize ty P T=τ at h ⊢;split at h;{split at h;{rename_i l hh e1 e2;simp only[az]at h;obtain⟨⟨h1,h2⟩,h3,h⟩:=h;refine⟨h1,by simpa using h2,?_⟩;rw[e1,e2];exact⟨h3.1,h3.2.1,h3.2.2,hK _ h⟩};{cases h}}
 ·split at h;{simp only[az]at h;obtain⟨⟨h1,h2⟩,h⟩:=h;refine⟨h1,h2,?_⟩;split at h;{rename_i e1 e2;simp only[az]at h;obtain⟨h3,h⟩:=h;rw[e1,e2];exact⟨h3.1,h3.2.1,h3.2.2,hK _ h⟩};{rename_i e1 e2;simp only[az]at h;obtain⟨h3,h⟩:=h;rw[e1,e2];refine⟨h3,?_⟩;split at h;{rename_i e3;simp only[az]at h;obtain⟨h4,h⟩:=h;rw[e3];exact⟨h4.1,h4.2.1,h4.2.2.1,h4.2.2.2,hK _ h⟩};{cases h}};{cases h}}
  ·rename_i x' hx'
   cases x <;> (try exact(hx' _ _ _ _ _ _ _ rfl).elim) <;> (
    split at h;{rename_i e0;simp only[e0];simp only[az]at h;obtain⟨⟨h1,h2⟩,h⟩:=h;refine⟨h1,h2,?_⟩;split at h;{rename_i e1 e2;simp only[az]at h;obtain⟨h3,h⟩:=h;rw[e1,e2];exact⟨h3.1,h3.2.1,h3.2.2,hK _ h⟩};{rename_i e1 e2;simp only[az]at h;obtain⟨h3,h⟩:=h;rw[e1,e2];refine⟨h3,?_⟩;split at h;{rename_i e3;simp only[az]at h;obtain⟨h4,h⟩:=h;rw[e3];exact⟨h4.1,h4.2.1,h4.2.2.1,h4.2.2.2,hK _ h⟩};{cases h}};{cases h}}
    ·cases h)
 ·rename_i hn1 hn2;split at h
  ·rename_i e0;split <;> first|exact(hn1 rfl).elim|exact(hn2 _ _ rfl).elim|skip
   rw[e0];simp only[az]at h;obtain⟨⟨h1,h2,h3⟩,h⟩:=h;refine⟨h1,h2,by simpa using h3,?_⟩;split at h;{rename_i e1 e2;rw[e1,e2];simp only[az]at h;obtain⟨h4,h⟩:=h;refine⟨h4.1,h4.2.1,h4.2.2,?_⟩;split at h;{simp only[az]at h;obtain⟨h5,h⟩:=h;exact⟨h5,hK _ h⟩};{simp only[az]at h;obtain⟨h5,h⟩:=h;exact⟨h5,hK _ h⟩};{cases h}};{cases h}
  ·cases h
def Ot {R:Type} (P:Program) (T:TypeId) (x:V) (K:V->Option R):Option R:=
 match ty P T,x with
 | .str,.d τ c=>if τ= .str then K (.d (.int .i64) (.int c.toStr.length))else none| .slice _ _,.ye=>K (.d (.int .i64) (.int 0))| .slice _ _,.sr _ _ _ n _ _ _=>K (.d (.int .i64) (.int n))| .slice eb e,x=>(match x.Fk with|some (eb',e',cs)=>if eb'=eb/\e'=e then K (.d (.int .i64) (.int cs.length))else none|none=>none)| .arr n _,_=>if(n:Int)<=9223372036854775807 then K (.d (.int .i64) (.int n))else none|_,_=>none
theorem q1t {R:Type} {r:R} {Kr:V->Option R} {P:Program} {T:TypeId} {x:V} {K:V->Prop} (h:Ot P T x Kr=some r) (hK:∀v,Kr v=some r->K v):Ps P T x K:=by
 unfold Ot at h;unfold Ps;generalize ty P T=τ at h ⊢
 cases τ <;> (try (cases h;done)) <;> cases x <;> (try (cases h;done)) <;> simp only[az]at h ⊢ <;>
  first
  |exact hK _ h|(obtain⟨h1,h⟩:=h;exact⟨h1,hK _ h⟩)
  |(split at h
    ·rename_i e0;simp only[az]at h;obtain⟨h1,h⟩:=h;rw[e0];exact⟨h1.1,h1.2,hK _ h⟩
    ·cases h)
def Oo {R:Type} (P:Program) (T:TypeId) (x i:V) (K:V->Option R):Option R:=
 if i.Fv then
 match ty P T,x with
 | .slice eb e,.sr k q lo n _ eb' e'=>if eb'=eb/\e'=e then(if 0<=i.toInt/\i.toInt<n then K (.ptr k (q++[lo+i.toInt.toNat]) e)else none)else none| .slice eb e,x=>(match x.Fk with|some (eb',e',cs)=>if eb'=eb/\e'=e then(if 0<=i.toInt/\i.toInt<cs.length then K (.yf e (cs.getD i.toInt.toNat .nil))else none)else none|none=>none)| .arr n e,.ptr k q τ=>if τ= .arr n e then(if 0<=i.toInt/\i.toInt<n then K (.ptr k (q++[i.toInt.toNat]) e)else none)else none| .arr n e,.yf τ c=>if τ= .arr n e then(if 0<=i.toInt/\i.toInt<n then K (.yf e (c.get i.toInt.toNat))else none)else none|_,_=>none
 else none
theorem q1o {R:Type} {r:R} {Kr:V->Option R} {P:Program} {T:TypeId} {x i:V} {K:V->Prop} (h:Oo P T x i Kr=some r) (hK:∀v,Kr v=some r->K v):Pr P T x i K:=by
 unfold Oo at h;unfold Pr;simp only[az]at h;obtain⟨h0,h⟩:=h;refine⟨h0,?_⟩;generalize ty P T=τ at h ⊢
 cases τ <;> (try (cases h;done)) <;> cases x <;> (try (cases h;done)) <;> simp only[az]at h ⊢ <;>
  first
  |(obtain⟨h1,h2,h⟩:=h;exact⟨h1.1,h1.2,h2.1,h2.2,hK _ h⟩)|(obtain⟨h1,h2,h⟩:=h;exact⟨h1,h2.1,h2.2,hK _ h⟩)
  |(split at h
    ·rename_i e0;simp only[az]at h;obtain⟨h1,h2,h⟩:=h;rw[e0];exact⟨h1.1,h1.2,h2.1,h2.2,hK _ h⟩
    ·cases h)
def Om {R:Type} (P:Program) (T:TypeId) (x:V) (i:Nat) (K:V->Option R):Option R:=
 match x with
 | .ptr k q τ=>if τ=ty P T/\τ.DF=true/\(τ.child i).isSome=true/\(τ.get i).size≠0 then K (.ptr k (q++[i]) (τ.get i))else none| .yf τ c=>if τ=ty P T/\τ.DF=true/\(τ.child i).isSome=true/\(τ.get i).size≠0 then K (.yf (τ.get i) (c.get i))else none|_=>none
theorem q1k {R:Type} {r:R} {Kr:V->Option R} {P:Program} {T:TypeId} {x:V} {i:Nat} {K:V->Prop} (h:Om P T x i Kr=some r) (hK:∀v,Kr v=some r->K v):Pq P T x i K:=by unfold Om at h;unfold Pq;split at h;{simp only[az]at h;obtain⟨h1,h⟩:=h;exact⟨h1.1,h1.2.1,h1.2.2.1,h1.2.2.2,hK _ h⟩};{simp only[az]at h;obtain⟨h1,h⟩:=h;exact⟨h1.1,h1.2.1,h1.2.2.1,h1.2.2.2,hK _ h⟩};{cases h}
def Oz {R:Type} (P:Program) (op:UnOp) (T:TypeId) (x:V) (K:V->Option R):Option R:=
 match ty P T,op with
 | .bool,.not=>if x.isBool then K (.d .bool (.bool (!x.toBool)))else none| .int k,.neg=>if x.isInt k then K (.d (.int k) (.int (k.wrap (0-x.toInt))))else none|_,_=>none
theorem q1L {R:Type} {r:R} {Kr:V->Option R} {P:Program} {op:UnOp} {T:TypeId} {x:V} {K:V->Prop} (h:Oz P op T x Kr=some r) (hK:∀v,Kr v=some r->K v):Sg P op T x K:=by unfold Oz at h;unfold Sg;generalize ty P T=τ at h ⊢;split at h;{simp only[az]at h;obtain⟨h1,h⟩:=h;exact⟨h1,hK _ h⟩};{simp only[az]at h;obtain⟨h1,h⟩:=h;exact⟨h1,hK _ h⟩};{cases h}
def Ol {R:Type} (P:Program) (src dst:TypeId) (x:V) (K:V->Option R):Option R:=
 match ty P src,ty P dst with
 | .int k,.int k2=>if x.isInt k then K (.d (.int k2) (.int (k2.wrap x.toInt)))else none| .str,.str=>if x.isStr then K x else none|_,_=>none
theorem q1i {R:Type} {r:R} {Kr:V->Option R} {P:Program} {src dst:TypeId} {x:V} {K:V->Prop} (h:Ol P src dst x Kr=some r) (hK:∀v,Kr v=some r->K v):NU P src dst x K:=by unfold Ol at h;unfold NU;generalize ty P src=τ at h ⊢;generalize ty P dst=τ2 at h ⊢;split at h;{simp only[az]at h;obtain⟨h1,h⟩:=h;exact⟨h1,hK _ h⟩};{simp only[az]at h;obtain⟨h1,h⟩:=h;exact⟨h1,hK _ h⟩};{cases h}
def Oj {R:Type} (P:Program) (b:Builtin) (ts:Array TypeId) (xs:List V) (K:V->Option R):Option R:=
 match b,xs with
 | .len,[x]=>if 0<ts.size then Ot P (ts.getD 0 0) x K else none| .min,[x,y]=>(match x with| .d (.int k) _=>if y.isInt k then K (.d (.int k) (.int (if y.toInt<x.toInt then y.toInt else x.toInt)))else none|_=>none)| .max,[x,y]=>(match x with| .d (.int k) _=>if y.isInt k then K (.d (.int k) (.int (if x.toInt<y.toInt then y.toInt else x.toInt)))else none|_=>none)|_,_=>none
theorem q1g {R:Type} {r:R} {Kr:V->Option R} {P:Program} {b:Builtin} {ts:Array TypeId} {xs:List V} {K:V->Prop} (h:Oj P b ts xs Kr=some r) (hK:∀v,Kr v=some r->K v):Sf P b ts xs K:=by unfold Oj at h;unfold Sf;split at h;{simp only[az]at h;exact⟨h.1,q1t h.2 hK⟩};{split at h;{simp only[az]at h;obtain⟨h1,h⟩:=h;exact⟨h1,hK _ h⟩};{cases h}};{split at h;{simp only[az]at h;obtain⟨h1,h⟩:=h;exact⟨h1,hK _ h⟩};{cases h}};{cases h}
def Hd {R:Type} (P:Program) (op:Op) (ρ:Operand->V) (K:V->Option R):Option R:=
 match op with
 | .move x=>K (ρ x)| .assign x=>K (ρ x)| .pick c a b=>if(ρ c).isBool then(bif (ρ c).toBool then K (ρ a)else K (ρ b))else none| .nilCheck x=>if(ρ x).Hv=some false then K (ρ x)else none| .binOp op T x y _=>Oi P op T (ρ x) (ρ y) K| .unOp op T x=>Oz P op T (ρ x) K| .convert src dst x=>Ol P src dst (ρ x) K| .fieldAddr T x i=>Om P T (ρ x) i K| .field T x i=>if(ρ x).ty=ty P T/\(ρ x).ty.DF=true/\((ρ x).ty.child i).isSome=true/\((ρ x).ty.get i).known=true/\(ρ x).plain=true/\((ρ x).get i).isAny=false then K ((ρ x).get i)else none| .indexAddr T x i=>Oo P T (ρ x) (ρ i) K| .index T x i=>if(ρ i).Fv then(match ty P T with| .arr n e=>if(ρ x).ty= .arr n e/\(ρ x).plain=true/\e.known=true then(if 0<=(ρ i).toInt/\(ρ i).toInt<n then(if((ρ x).get (ρ i).toInt.toNat).isAny=false then K ((ρ x).get (ρ i).toInt.toNat)else none)else none)else none| .str=>if(ρ x).isStr then(if 0<=(ρ i).toInt/\(ρ i).toInt<(ρ x).toStr.length then K (.d (.int .u8) (.int ((ρ x).toStr.getD (ρ i).toInt.toNat 0).toNat))else none)else none|_=>none)else none| .slice T x lo hi mx=>Ow P T (ρ x) (lo.map ρ) (hi.map ρ) (mx.map ρ) K| .extract x i=>(match ρ x with| .tup xs=>(match xs[i]? with|some y=>K y|none=>none)|_=>none)| .sliceToArrayPointer T x=>(match ρ x with| .sr k q lo n (some _) _ e=>(match ty P T with| .arr m e'=>if e'=e/\0<m then(if m<=n then K (.ptr k (q++[lo]) e)else none)else none|_=>none)|_=>(match ty P T,(ρ x).Fk with| .arr n e,some (_,e',cs)=>if e'=e/\0<n then(if n<=cs.length then K (.yf (.arr n e) (.agg (cs.take n)))else none)else none|_,_=>none))| .makeFunc fn first yg=>(match fn,first.toList with| .func f,[]=>if(yg.toList.map ρ).all V.plain=true then K (.fn f (yg.toList.map ρ))else none|_,_=>none)
 | .call c=>(match c.callee with| .builtin b=>Oj P b c.argTypes (c.args.toList.map ρ) K|_=>none)|_=>none
theorem RQ {R:Type} {r:R} {Kr:V->Option R} {P:Program} {op:Op} {ρ:Operand->V} {K:V->Prop} (h:Hd P op ρ Kr=some r) (hK:∀v,Kr v=some r->K v):pv P op ρ K:=by
 unfold Hd at h;unfold pv;split at h;{exact hK _ h};{exact hK _ h};{simp only[az]at h;obtain⟨h1,h⟩:=h;refine⟨h1,fun e=>?_,fun e=>?_⟩ <;> rw[e]at h <;> exact hK _ h};{simp only[az]at h;obtain⟨h1,h⟩:=h;exact⟨h1,hK _ h⟩};{exact q1d h hK};{exact q1L h hK};{exact q1i h hK};{exact q1k h hK};{simp only[az]at h;obtain⟨h1,h⟩:=h;exact⟨h1.1,h1.2.1,h1.2.2.1,h1.2.2.2.1,h1.2.2.2.2.1,V.PM h1.2.2.2.2.2,hK _ h⟩};{exact q1o h hK};{simp only[az]at h;obtain⟨h0,h⟩:=h;refine⟨h0,?_⟩;rename_i T _ _;generalize ty P T=τ at h ⊢;split at h;{simp only[az]at h;obtain⟨h1,h2,h3,h⟩:=h;exact⟨h1.1,h1.2.1,h1.2.2,h2.1,h2.2,V.PM h3,hK _ h⟩};{simp only[az]at h;obtain⟨h1,h2,h⟩:=h;exact⟨h1,h2.1,h2.2,hK _ h⟩};{cases h}};{exact q1D h hK};{split at h;{rename_i e0;simp only[e0];split at h;{rename_i e1;simp only[e1];exact hK _ h};{cases h}};{cases h}};{split at h;{rename_i e0;dsimp only;split at h;{rename_i e1;simp only[e0,e1];simp only[az]at h;obtain⟨h1,h2,h⟩:=h;exact⟨h1.1,h1.2,h2,hK _ h⟩};{cases h}};{rename_i hno;split at h;{rename_i e0 e1;simp only[az]at h;obtain⟨h1,h2,h⟩:=h;dsimp only;split;{rename_i e2;exact absurd e2 (hno _ _ _ _ _ _ _)};{simp only[e0,e1];exact⟨h1.1,h1.2,h2,hK _ h⟩}};{cases h}}};{split at h;{rename_i e0;simp only[e0];simp only[az]at h;obtain⟨h1,h⟩:=h;exact⟨h1,hK _ h⟩};{cases h}};{split at h;{rename_i e0;simp only[e0];exact q1g h hK};{cases h}};{cases h}
def Io {R:Type} (P:Program) (s:S) (t':TypeId) (eb:Nat) (e:Ty) (Y:V) (K:List C->Option R):Option R:=
 match ty P t' with
 | .slice _ _=>(match Y with| .ye=>K []|Y=>match FC s Y with|some (eb',e',ys)=>if eb'=eb/\e'=e then K ys else none|none=>none)| .str=>if e= .int .u8/\eb=1/\Y.isStr then K (Y.toStr.map fun b=>C.int b.toNat)else none|_=>none
theorem Ud {R:Type} {r:R} {Kr:List C->Option R} {P:Program} {s:S} {A':Key->Option O} (hA:leA s.A A') {t':TypeId} {eb:Nat} {e:Ty} {Y:V} {K:List C->Prop} (h:Io P s t' eb e Y Kr=some r) (hK:∀ys,Kr ys=some r->K ys):Ib P (s.wA A') t' eb e Y K:=by
 unfold Io at h;unfold Ib;generalize ty P t'=τ at h ⊢;cases τ <;> (try (cases h;done));{simp only[az]at h;obtain⟨h1,h⟩:=h;exact⟨h1.1,h1.2.1,h1.2.2,hK _ h⟩}
 ·cases Y <;> simp only at h ⊢ <;> first
   |exact hK _ h
   |(split at h
     ·rename_i e0;simp only[az]at h;obtain⟨h1,h⟩:=h;rw[lZ hA e0];exact⟨h1.1,h1.2,hK _ h⟩
     ·cases h)
abbrev K3 (R:Type):=V->List (Key × O)->List (Nat × Option Nat)->Option R
def Oh {R:Type} (P:Program) (m:Nat) (dst:Nat) (s:S) (t t':TypeId) (x y:V) (K:K3 R):Option R:=
 if Cb P (BK P t)=true then
 match ty P t with
 | .slice eb e=>(match x with
  | .emp _ _| .ye=>Io P s t' eb e y fun ys=>
    if m=3 then(if ys.isEmpty=false then K (.sr (.l dst) [] 0 ys.length none eb e) [(.l dst,.box (.d (.arr ys.length e) (.agg ys)))] []else none)else K (.sl eb e ys dst) [] [(dst,some ys.length)]
  |_=>none)
 |_=>none
 else none
def RN {R:Type} (P:Program) (s:S) (T:TypeId) (k:Key) (K:V->Option R):Option R:=
 match Ht P T,s.obj k with
 |some _,some (.map _ _ es)=>if es.length<=9223372036854775807 then K (.d (.int .i64) (.int es.length))else none|_,_=>none
def Iv:List (C × V)->C->Bool
 | [],_=>false|(k,_)::l,c=>bif C.beq c k then true else Iv l c
def LN:List (C × V)->C->C
 | [],_=>.nil|(k,v)::l,c=>bif C.beq c k then(match v with| .d _ x=>x|_=>.nil)else LN l c
theorem oE {τ:Ty} {c:C}:∀{es:List (C × V)},EJ τ es=true->Fz es c=bif Iv es c then some (.d τ (LN es c))else none
 | [],_=>rfl|(k,v)::l,h=>by
  simp only[EJ,bg]at h;simp only[Fz,C.Uj,Iv,LN];cases hb:C.beq c k with
  |true=>
   simp only[cond_true,if_true];obtain⟨h1,_⟩:=h;split at h1;{rw[Ty.beq_iff]at h1;subst h1;rfl};{cases h1}
  |false=>
   simp only[cond_false,fq,if_false];exact oE h.2
def Ou {R:Type} (τ:Ty) (es:List (C × V)) (c:C) (K:Option V->Option R):Option R:=
 bif EJ τ es then(bif Iv es c then K (some (.d τ (LN es c)))else K none)else none
theorem q1u {R:Type} {r:R} {τ:Ty} {c:C} {Kr:Option V->Option R} {es:List (C × V)} (h:Ou τ es c Kr=some r):Kr (Fz es c)=some r:=by
 unfold Ou at h;cases ha:EJ τ es with
 |false=>rw[ha]at h;cases h
 |true=>
  rw[ha]at h;rw[oE ha];cases hb:Iv es c <;> rw[hb]at h <;> exact h
def Yf {R:Type} (y:V) (q:List Nat) (t τ:Ty) (K:V->Option R):Option R:=
 match y,t with
 | .d (.arr M e) c,.arr m e'=>if q≠[]/\e'=e/\τ=e/\(Ty.arr m e).known=true/\q.getLastD 0+m<=M then K (.d (.arr m e) (.agg ((c.elems.drop (q.getLastD 0)).take m)))else none|_,_=>none
def ekI {R:Type} (X:Cx) (m:Nat) (dst:Nat) (o:Oper) (ρ:Operand->V) (s:S) (K:K3 R):Option R:=
 match o.op with
 | .load T x=>if df m 18=true then(match ρ x with| .ptr k q τ=>(match s.obj k with|some (.box y)=>Yf (y.at q.dropLast) q (ty X.P T) τ fun v=>K v [] []|_=>none)|_=>none)
  else(match ρ x with| .ptr k q τ=>(match s.obj k with|some (.box y)=>if(y.at q).isAny=false/\τ=ty X.P T/\τ.known=true then K (view (y.at q)) [] []else none|_=>none)| .yf τ c=>if τ=ty X.P T/\τ.known=true then K (.d τ c) [] []else none|_=>none)
 | .alloc T=>if Cb X.P T=true then K (.ptr (.l dst) [] (ty X.P T)) [(.l dst,SS (ty X.P T) T)] []else none
 | .box _ x=>if m=5 then(if(ρ x).plain=true then(match Cl (ρ x)with|some cc=>K (.yf (ρ x).ty cc) [] []|none=>none)else none)
   else if(ρ x).plain=true/\(ρ x).BW=true then K (.ptr (.l dst) [] (ρ x).ty) [(.l dst,.box (ρ x))] []else none
 | .buildSlice t len parts=>(match ty X.P t with
   | .slice eb e=>(match len with
    |0=>if parts.toList.length=0 then K (.emp eb e) [] []else none
    |len+1=>if Cb X.P (BK X.P t)=true/\e.size≠0/\(len+1)*e.size<=16777216/\(len+1)*eb<=140737488355328/\parts.toList.map (·.1)=gf (len+1)then
      (if df m 20=true then(if(parts.toList.map (fun x=>ρ x.2)).all (fun x=>decide (x.ty=e)&&x.plain)=true/\V.DB (parts.toList.map fun x=>ρ x.2)=true then K (.sr (.l dst) [] 0 (len+1) (some (len+1)) eb e) [(.l dst,.box (.agg (.arr (len+1) e) (parts.toList.map fun x=>ρ x.2)))] []else none)else match Eo (parts.toList.map fun x=>ρ x.2)with|some cs=>if(parts.toList.map (fun x=>ρ x.2)).all (fun x=>decide (x.ty=e)&&x.plain)=true then(if m=4 then K (.sl eb e cs dst) [] [(dst,some cs.length)]else K (.d (.slice eb e) (.slice cs)) [] [])else none|none=>none)else none)
   |_=>none)
 | .build T parts=>if Cb X.P T=true/\(ty X.P T).CP=true/\(ty X.P T).isAgg=true/\UD (ty X.P T) (BI (ty X.P T)) (parts.toList.map fun p=>(p.1,ρ p.2))=true then
   K (Js (ty X.P T) (BI (ty X.P T)) (parts.toList.map fun p=>(p.1,ρ p.2))) [] []else none
 | .makeSlice t l c=>(match ty X.P t with
   | .slice eb e=>if Cb X.P (BK X.P t)=true/\(ρ l).Fv/\(ρ c).Fv/\e.size≠0 then(if 0<=(ρ l).toInt/\(ρ l).toInt<=(ρ c).toInt/\(ρ c).toInt<=9223372036854775807/\(ρ c).toInt.toNat*eb<=140737488355328 then
     K (.sr (.l dst) [] 0 (ρ l).toInt.toNat (if m=9 then none else some (ρ c).toInt.toNat) eb e) [(.l dst,.box (.d (.arr (ρ l).toInt.toNat e) (.agg (List.replicate (ρ l).toInt.toNat (AI e)))))] []else none)else none
   |_=>none)
 | .makeMap T r=>(match r,Ht X.P T with|none,some (kt,et)=>K (.mp (.l dst)) [(.l dst,.map (ty X.P kt) (ty X.P et) [])] []|_,_=>none)
 | .lookup T x i ok=>(match Ht X.P T,ρ x with
   |some (kt,et),.mp k=>(match s.obj k with
     |some (.map kτ _ es)=>if kτ=ty X.P kt/\Cr X.P kt=true/\Cb X.P et=true/\(ρ i).Dr kτ then
       Ou (ty X.P et) es (ρ i).toC (fun r=>K (if ok then .tup [r.getD (BI (ty X.P et)),.d .bool (.bool r.isSome)]else r.getD (BI (ty X.P et))) [] [])else none
     |_=>none)
   |_,_=>none)
 | .call c=>(match c.callee with| .value _=>none| .builtin .append=>(match c.args.toList,c.argTypes.toList with| [x,y],[t,t']=>Oh X.P m dst s t t' (ρ x) (ρ y) K|_,_=>none)| .builtin .len=>(match c.args.toList,c.argTypes.toList with| [x],[T]=>(match ρ x with| .mp k=>RN X.P s T k fun v=>K v [] []|_=>Hd X.P o.op ρ fun v=>K v [] [])|_,_=>Hd X.P o.op ρ fun v=>K v [] [])|_=>Hd X.P o.op ρ fun v=>K v [] [])| .convert src z8k x=>(match strOf X.P s src z8k (ρ x)with|some ys=>K (.d .str (.str (ys.map Kz))) [] []|none=>Hd X.P o.op ρ fun v=>K v [] [])|_=>Hd X.P o.op ρ fun v=>K v [] []
theorem q1b {P:Program} {md:List (Nat × Nat)} {m dst:Nat} (hm:Ck md dst=m) {s:S} {A':Key->Option O} (hA:leA s.A A') {t t':TypeId} {x y:V} {R:Type} {r:R} {Kr:K3 R} {K:V->List (Key × O)->List (Nat × Option Nat)->Prop}:
  Oh P m dst s t t' x y Kr=some r->(∀v lo tn,Kr v lo tn=some r->K v lo tn)->Cb P (BK P t)=true/\(match ty P t,x with| .slice eb e,.emp _ _=>Ib P (s.wA A') t' eb e y fun ys=>if Ck md dst=3 then ys≠[]/\K (.sr (.l dst) [] 0 ys.length none eb e) [(.l dst,.box (.d (.arr ys.length e) (.agg ys)))] []else K (.sl eb e ys dst) [] [(dst,some ys.length)]| .slice eb e,.ye=>Ib P (s.wA A') t' eb e y fun ys=>if Ck md dst=3 then ys≠[]/\K (.sr (.l dst) [] 0 ys.length none eb e) [(.l dst,.box (.d (.arr ys.length e) (.agg ys)))] []else K (.sl eb e ys dst) [] [(dst,some ys.length)]|_,_=>False):=by
 intro h hK;unfold Oh at h;simp only[az]at h;obtain⟨h0,h⟩:=h;refine⟨h0,?_⟩;generalize ty P t=τ at h ⊢;cases τ <;> (try (cases h;done))
 cases x <;> (try (cases h;done)) <;> simp only at h ⊢ <;>
  (refine Ud hA h fun ys h=>?_
   split at h;{rename_i hm3;rw[if_pos (hm.trans hm3)];simp only[az]at h;obtain⟨h1,h⟩:=h;exact⟨by intro e1;subst e1;simp at h1,hK _ _ _ h⟩}
   ·rename_i hm3;rw[if_neg (by rw[hm];exact hm3)];exact hK _ _ _ h)
theorem q1m {X:Cx} {md:List (Nat × Nat)} {m dst:Nat} (hm:Ck md dst=m) {o:Oper} {ρ:Operand->V} {s base:S} {A':Key->Option O} (hA:leA s.A A') {R:Type} {r:R} {Kr:K3 R} {K:V->List (Key × O)->List (Nat × Option Nat)->Prop} (h:ekI X m dst o ρ s Kr=some r) (hK:∀v lo tn,Kr v lo tn=some r->K v lo tn):
  iop X md base dst o ρ (s.wA A') K:=by
 unfold ekI at h;unfold iop;generalize o.op=op at h ⊢;split at h
 ·dsimp only;split at h;{rename_i z9r;rw[if_pos (by rw[hm];exact ei z9r)];split at h;{rename_i e0;simp only[e0];split at h;{rename_i e1;simp only[Dz hA e1];unfold Yf at h;unfold fF;split at h;{rename_i e2 e3;simp only[e2,e3];simp only[az]at h;obtain⟨h1,h⟩:=h;exact⟨h1.1,h1.2.1,h1.2.2.1,h1.2.2.2.1,h1.2.2.2.2,hK _ _ _ h⟩};{cases h}};{cases h}};{cases h}};rename_i z9r;rw[if_neg fun e=>z9r (by rw[<-hm,e];rfl)];split at h;{rename_i e0;simp only[e0];split at h;{rename_i e1;simp only[Dz hA e1];simp only[az]at h;obtain⟨h1,h⟩:=h;exact⟨V.PM h1.1,h1.2.1,h1.2.2,hK _ _ _ h⟩};{cases h}};{rename_i e0;simp only[e0];simp only[az]at h;obtain⟨h1,h⟩:=h;exact⟨h1.1,h1.2,hK _ _ _ h⟩};{cases h}
 ·simp only[az]at h;obtain⟨h1,h⟩:=h;exact⟨h1,hK _ _ _ h⟩
 ·dsimp only;split at h;{rename_i hm5;rw[if_pos (hm.trans hm5)];simp only[az]at h;obtain⟨h1,h⟩:=h;split at h;{rename_i cc hcc;rw[hcc];exact⟨h1,hK _ _ _ h⟩};{cases h}};{rename_i hm5;rw[if_neg (by rw[hm];exact hm5)];simp only[az]at h;obtain⟨h1,h⟩:=h;exact⟨h1.1,h1.2,hK _ _ _ h⟩}
 ·rename_i t len parts;dsimp only;generalize ty X.P t=τ at h ⊢;cases τ <;> (try (cases h;done));cases len with
  |zero=>
   simp only[az]at h;obtain⟨h1,h⟩:=h;exact⟨h1,hK _ _ _ h⟩
  |succ len=>
   simp only[az]at h;obtain⟨h1,h⟩:=h;refine⟨h1.1,h1.2.1,h1.2.2.1,h1.2.2.2.1,h1.2.2.2.2,?_⟩;split at h;{rename_i h20;rw[if_pos (by rw[hm];exact ei h20)];simp only[az]at h;obtain⟨h2,h⟩:=h;exact⟨fun x hx=>by have:=dv.1 h2.1 x hx;simpa using this,h2.2,hK _ _ _ h⟩};rename_i h20;rw[if_neg fun e=>h20 (by rw[<-hm,e];rfl)];split at h;{rename_i e0;rw[e0];simp only[az]at h;obtain⟨h2,h⟩:=h;refine⟨fun x hx=>?_,?_⟩;{have:=dv.1 h2 x hx;simpa using this};{rw[hm];split at h;{rename_i e4;rw[if_pos e4];exact hK _ _ _ h};{rename_i e4;rw[if_neg e4];exact hK _ _ _ h}}};{cases h}
 ·simp only[az]at h;obtain⟨h1,h⟩:=h;exact⟨h1.1,h1.2.1,h1.2.2.1,jI h1.2.2.2,hK _ _ _ h⟩
 ·rename_i t _ _;dsimp only;generalize ty X.P t=τ at h ⊢;cases τ <;> (try (cases h;done));simp only[az]at h;obtain⟨h1,h⟩:=h;obtain⟨h2,h⟩:=h;exact⟨h1.1,h1.2.1,h1.2.2.1,h2.1,h2.2.1,h2.2.2.1,h2.2.2.2,h1.2.2.2,by rw[hm];exact hK _ _ _ h⟩
 ·split at h;{rename_i e0;simp only[e0];exact hK _ _ _ h};{cases h}
 ·split at h;{rename_i e0 e1;simp only[e0,e1];split at h;{rename_i e2;simp only[Dz hA e2];simp only[az]at h;obtain⟨h1,h⟩:=h;refine⟨h1.1,h1.2.1,h1.2.2.1,h1.2.2.2,?_⟩;exact hK _ _ _ (q1u h)};{cases h}};{cases h}
 ·split at h;{cases h};{rename_i e0;simp only[e0];split at h;{rename_i e1 e2;simp only[e1,e2];exact q1b hm hA h hK};{cases h}};{rename_i e0;simp only[e0];split at h;{rename_i e1 e2;simp only[e1,e2];split at h;{rename_i e3;simp only[e3];unfold RN at h;split at h;{rename_i e4 e5;simp only[az]at h;obtain⟨h2,h⟩:=h;simp only[e4,Dz hA e5];exact⟨h2,hK _ _ _ h⟩};{cases h}};{rename_i hx;split;{rename_i k hk;exact(hx k hk).elim};{exact RQ h (fun v h=>hK _ _ _ h)}}};{rename_i hx;split;{rename_i a b hk hk2;exact(hx _ _ hk hk2).elim};{exact RQ h (fun v h=>hK _ _ _ h)}}};{rename_i h1 h2 h3;dsimp only;split;{rename_i e;exact(h1 _ e).elim};{rename_i e;exact(h2 e).elim};{rename_i e;exact(h3 e).elim};{exact RQ h (fun v h=>hK _ _ _ h)}}
 ·split at h;{rename_i e0;simp only[q9i hA e0];exact hK _ _ _ h};{have hp:=RQ (K:=fun y=>K y [] []) h (fun v h=>hK _ _ _ h);dsimp only;split;{rename_i e1;exact(q9h (K:=fun y=>K y [] []) e1 hp).elim};{exact hp}}
 ·split <;> first
   |exact RQ h (fun v h=>hK _ _ _ h)|(rename_i hx;exact(hx _ rfl).elim)|(rename_i hx _;exact(hx _ _ rfl).elim)|(rename_i hx _ _ _ _;exact(hx _ _ _ _ rfl).elim)|(rename_i hx _ _ _ _ _;exact(hx _ _ _ _ rfl).elim)|(exfalso;simp[Hd]at h;done)|simp_all
abbrev KS (R:Type):=V->S->Option R
def LX (s:S) (t n:Nat):Option Bool:=
 match s.live t with
 |some m=>some (df m n)|none=>none
mutual
def V.Kh (lv:Nat->Option Nat):List Nat->V->List (Nat × List Nat)
 |p,.sl _ _ _ t=>(match lv t with|some _=>[(t,p)]|none=>[])|p,.agg _ vs=>V.Wy lv p 0 vs|_,_=>[]
def V.Wy (lv:Nat->Option Nat):List Nat->Nat->List V->List (Nat × List Nat)
 |_,_,[]=>[]|p,i,x::xs=>V.Kh lv (p++[i]) x++V.Wy lv p (i+1) xs
end
mutual
def V.Mq (σ:List (Nat × List Nat)) (lv:Nat->Option Nat):List Nat->V->V
 |p,.sl eb e cs t=>(match lv t with|some _=>if look σ t=some p then .ts eb e cs else .d (.slice eb e) (.slice cs)|none=>.d (.slice eb e) (.slice cs))|p,.agg τ vs=>.agg τ (V.VD σ lv p 0 vs)|_,x=>x
def V.VD (σ:List (Nat × List Nat)) (lv:Nat->Option Nat):List Nat->Nat->List V->List V
 |_,_,[]=>[]|p,i,x::xs=>V.Mq σ lv (p++[i]) x::V.VD σ lv p (i+1) xs
end
mutual
def V.HT (lv:Nat->Option Nat):V->Bool
 | .sl _ _ cs t=>(match lv t with|some m=>df m cs.length|none=>true)| .agg _ vs=>V.KP lv vs|_=>true
def V.KP (lv:Nat->Option Nat):List V->Bool
 | []=>true|x::xs=>(match x with| .sl _ _ _ _| .agg _ _=>x.HT lv&&V.KP lv xs|_=>V.KP lv xs)
end
mutual
theorem V.eU {lv:Nat->Option Nat}:∀(x:V) (p:List Nat),x.HT lv=true->x.sites lv p=x.Kh lv p
 | .sl _ _ cs t,p,h=>by simp only[V.HT]at h;simp only[tj,V.Kh];split at h;{rename_i m e;rw[e,ei h];simp};{rename_i e;rw[e];simp}
 | .agg _ vs,p,h=>by simp only[V.HT]at h;simp only[tj,V.Kh,V.yJ vs p 0 h]
 | .d _ _,_,_| .ts _ _ _,_,_| .emp _ _,_,_| .ye,_,_| .ptr _ _ _,_,_| .yf _ _,_,_| .sr _ _ _ _ _ _ _,_,_| .mp _,_,_| .fn _ _,_,_| .tup _,_,_| .top _,_,_| .any,_,_=>by simp[tj,V.Kh]
theorem V.yJ {lv:Nat->Option Nat}:∀(xs:List V) (p:List Nat) (i:Nat),V.KP lv xs=true->V.TN lv p i xs=V.Wy lv p i xs
 | [],_,_,_=>rfl|x::xs,p,i,h=>by
  have hx:x.HT lv=true/\V.KP lv xs=true:=by simp only[V.KP]at h;split at h;{simpa using h};{simpa using h};{rename_i h1 h2;refine⟨?_,h⟩;cases x <;> first|rfl|exact absurd rfl (h1 _ _ _ _)|exact absurd rfl (h2 _ _)}
  simp only[V.TN,V.Wy,V.eU x _ hx.1,V.yJ xs p (i+1) hx.2]
end
mutual
theorem V.ZU {lv:Nat->Option Nat} {σ:List (Nat × List Nat)}:∀(x:V) (p:List Nat),x.HT lv=true->x.Cf σ lv p=x.Mq σ lv p
 | .sl _ _ cs t,p,h=>by simp only[V.HT]at h;simp only[V.Cf,V.Mq];split at h;{rename_i m e;rw[e,ei h];simp};{rename_i e;rw[e];simp}
 | .agg _ vs,p,h=>by simp only[V.HT]at h;simp only[V.Cf,V.Mq,V.oV vs p 0 h]
 | .d _ _,_,_| .ts _ _ _,_,_| .emp _ _,_,_| .ye,_,_| .ptr _ _ _,_,_| .yf _ _,_,_| .sr _ _ _ _ _ _ _,_,_| .mp _,_,_| .fn _ _,_,_| .tup _,_,_| .top _,_,_| .any,_,_=>by simp[V.Cf,V.Mq]
theorem V.oV {lv:Nat->Option Nat} {σ:List (Nat × List Nat)}:∀(xs:List V) (p:List Nat) (i:Nat),V.KP lv xs=true->V.IG σ lv p i xs=V.VD σ lv p i xs
 | [],_,_,_=>rfl|x::xs,p,i,h=>by
  have hx:x.HT lv=true/\V.KP lv xs=true:=by simp only[V.KP]at h;split at h;{simpa using h};{simpa using h};{rename_i h1 h2;refine⟨?_,h⟩;cases x <;> first|rfl|exact absurd rfl (h1 _ _ _ _)|exact absurd rfl (h2 _ _)}
  simp only[V.IG,V.VD,V.ZU x _ hx.1,V.oV xs p (i+1) hx.2]
end
def XP (s:S):Nat->Nat->Nat
 |0,d=>d|f+1,d=>if(s.obj (.l d)).isNone=true then d else XP s f (d+100000000)
def ekT {R:Type} (X:Cx) (m:Nat) (dst:Nat) (o:Oper) (ρ:Operand->V) (s:S) (K:KS R):Option R:=
 match o.op with
 | .store T p y=>(match ρ p with
   | .ptr k q τ=>(match s.obj k with
     |some (.box x)=>if τ=ty X.P T/\τ.known=true/\(Cj τ (ρ y)).ty=τ/\(Cj τ (ρ y)).plain=true/\(x.at q).isAny=false/\x.ty.CP=true/\(Cj τ (ρ y)).okH=true then
       (match Cj τ (ρ y)with
       | .sl eb e cs t=>(match LX s t cs.length with|some b=>(bif b then K .any ((s.put k (.box (x.setAt q (.ts eb e cs)))).tok t none)else none)|none=>K .any (s.put k (.box (x.setAt q (.d (.slice eb e) (.slice cs))))))|z=>(bif z.HT s.live then K .any (Ev (z.Kh s.live q) (s.put k (.box (x.setAt q (z.Mq (z.Kh s.live q) s.live q)))))else none))else none
     |_=>none)
   |_=>none)
 | .box _ x=>if(ρ x).plain=true/\(ρ x).okH=true/\(s.obj (.l dst)).isNone then
   (bif (ρ x).HT s.live then K (.ptr (.l dst) [] (ρ x).ty) (Ev ((ρ x).Kh s.live []) (s.put (.l dst) (.box ((ρ x).Mq ((ρ x).Kh s.live []) s.live []))))else none)else none
 | .load T x=>(match ρ x with| .ptr k q τ=>(match s.obj k with|some (.box y)=>(match y.at q with| .ts eb e cs=>if m=1/\τ=ty X.P T/\τ= .slice eb e/\y.ty.CP=true/\s.known dst=false then K (.sl eb e cs dst) ((s.put k (.box (y.setAt q (.d (.slice eb e) (.slice cs))))).tok dst (some cs.length))else none|_=>none)|_=>none)|_=>none)
 | .mapUpdate T x i y=>(match Ht X.P T,ρ x with
   |some (kt,et),.mp k=>(match s.obj k with
     |some (.map kτ vτ es)=>if kτ=ty X.P kt/\vτ=ty X.P et/\Cr X.P kt=true/\kτ.flat=true/\(ρ i).Dr kτ/\(Cj vτ (ρ y).Cg).ty=vτ/\(Cj vτ (ρ y).Cg).plain=true/\(Cj vτ (ρ y).Cg).BW=true then
       K .any (s.put k (.map kτ vτ (Ge es (ρ i).toC (Cj vτ (ρ y).Cg))))else none
     |_=>none)
   |_,_=>none)
 | .call c=>(match c.callee with
   | .builtin .append=>(match c.args.toList,c.argTypes.toList with
     | [x,y],[t,t']=>if Cb X.P (BK X.P t)=true then(match ty X.P t,ρ x with
       | .slice eb e,.sl eb' e' cs tk=>if eb'=eb/\e'=e then(match LX s tk cs.length with|some b=>(bif b then(Io X.P s t' eb e (ρ y) fun ys=>if(cs.length+ys.length)*eb<=140737488355328/\cs.length+ys.length<=maxLen then K (.sl eb e (cs++ys) tk) (s.tok tk (some (cs.length+ys.length)))else none)else none)|none=>none)else none
       | .slice eb e,.sr k q lo n cp eb' e'=>if q=[]/\lo=0/\cp.isNone=true/\eb'=eb/\e'=e then(match s.obj k with
         |some (.box (.d τ cc))=>(match τ with
          | .arr M e2=>if e2=e/\(s.obj (.l (XP s 8 dst))).isNone then
            Io X.P s t' eb e (ρ y) (fun ys=>if(n+ys.length)*eb<=140737488355328/\n+ys.length<=maxLen then
             K (.sr (.l (XP s 8 dst)) [] 0 (n+ys.length) none eb e) ((s.put k (.dead (.arr M e))).put (.l (XP s 8 dst)) (.box (.d (.arr (n+ys.length) e) (.agg (cc.elems.take n++ys)))))else none)else none
          |_=>none)
         |_=>none)else none
       |_,_=>none)else none
     |_,_=>none)
   | .builtin .copy=>(match c.args.toList,c.argTypes.toList with
     | [x,y],[t,t']=>if Cb X.P (BK X.P t)=true then(match ty X.P t,ρ x with
       | .slice eb e,.sr k q lo n cp eb' e'=>if cp.isSome=true/\eb'=eb/\e'=e then(match s.obj k with
         |some (.box Z)=>(match Z.at q with
          | .d τ cc=>(match τ with
           | .arr m e2=>if e2=e/\Z.ty.CP=true then(if 0<n then
             Io X.P s t' eb e (ρ y) (fun ys=>K (.d (.int .i64) (.int (min ys.length n:Nat))) (s.put k (.box (Z.setAt q (.d (.arr m e) (.agg (Dk cc.elems lo n ys)))))))else none)else none
           |_=>none)
          |_=>none)
         |_=>none)else none
       |_,_=>none)else none
     |_,_=>none)
   |_=>none)
 |_=>none
theorem q2E {lv:Nat->Option Nat} {σ:List (Nat × List Nat)} {p:List Nat} {eb:Nat} {e:Ty} {cs:List C} {t:Nat} (h:look σ t=some p) (hl:lv t=some cs.length):V.Cf σ lv p (.sl eb e cs t)= .ts eb e cs:=by simp only[V.Cf];exact if_pos ⟨h,hl⟩
theorem q2D {lv:Nat->Option Nat} {σ:List (Nat × List Nat)} {p:List Nat} {eb:Nat} {e:Ty} {cs:List C} {t:Nat} (hl:lv t=none):V.Cf σ lv p (.sl eb e cs t)= .d (.slice eb e) (.slice cs):=by simp only[V.Cf];exact if_neg (by rw[hl];simp)
theorem Zx {s:S} {t n:Nat} (h:LX s t n=some true):s.live t=some n:=by unfold LX at h;split at h;{rename_i m e;rw[e,ei (oz h)]};{cases h}
theorem q1I {X:Cx} {md:List (Nat × Nat)} {m dst:Nat} (hm:Ck md dst=m) {o:Oper} {ρ:Operand->V} {s:S} {A':Key->Option O} (hA:leA s.A A') {R:Type} {r:R} {Kr:KS R} {K:V->S->Prop} (h:ekT X m dst o ρ s Kr=some r) (hK:∀v s1,Kr v s1=some r->K v (s1.wA A')):
  top X md dst o ρ (s.wA A') K:=by
 unfold ekT at h;unfold top;generalize o.op=op at h ⊢;split at h
 ·split at h
  ·rename_i e0;simp only[e0];split at h
   ·rename_i e1;simp only[Dz hA e1];simp only[az]at h;obtain⟨h1,h⟩:=h;refine⟨h1.1,h1.2.1,h1.2.2.1,h1.2.2.2.1,V.PM h1.2.2.2.2.1,h1.2.2.2.2.2.1,h1.2.2.2.2.2.2,?_⟩;split at h
    ·rename_i eb e cs t e2;rw[e2];split at h
     ·rename_i b e3;cases b with
      |false=>cases h
      |true=>
       have hl:=Zx (s:=s) e3;have hK:=hK _ _ h;have e4:∀p,tj (s.wA A').live p (V.sl eb e cs t)=[(t,p)]:=by intro p;simp only[tj];exact if_pos hl
       rw[e4,q2E (lv:=(s.wA A').live) (σ:=[(t,_)]) (by simp[look]) hl];exact hK
     ·rename_i e3;have hl:s.live t=none:=by unfold LX at e3;split at e3;{cases e3};{rename_i e5;exact e5}
      have hK:=hK _ _ h;have e4:∀p,tj (s.wA A').live p (V.sl eb e cs t)=[]:=by intro p;simp only[tj];exact if_neg (by rw[q33,hl];simp)
      rw[e4,q2D (lv:=(s.wA A').live) hl];exact hK
    ·rename_i z hz;generalize Cj _ (ρ _)=z at h ⊢;cases hn:z.HT s.live with
     |false=>rw[hn]at h;cases h
     |true=>
     rw[hn,cond_true,<-V.eU z _ hn,<-V.ZU z _ hn]at h;have hK:=hK _ _ h;rw[<-VI]at hK;exact hK
   ·cases h
  ·cases h
 ·simp only[az]at h;obtain⟨h1,h⟩:=h;rename_i _ x;cases hn:(ρ x).HT s.live with
  |false=>rw[hn]at h;cases h
  |true=>
  rw[hn,cond_true,<-V.eU (ρ x) _ hn,<-V.ZU (ρ x) _ hn]at h;have hK:=hK _ _ h;rw[<-VI]at hK;exact⟨h1.1,h1.2.1,by rw[KQ];simpa using h1.2.2,hK⟩
 ·split at h;{rename_i e0;simp only[e0];split at h;{rename_i e1;simp only[Dz hA e1];split at h;{rename_i e2;simp only[e2];simp only[az]at h;obtain⟨h1,h⟩:=h;exact⟨hm.trans h1.1,h1.2.1,h1.2.2.1,h1.2.2.2.1,h1.2.2.2.2,hK _ _ h⟩};{cases h}};{cases h}};{cases h}
 ·split at h;{rename_i e0 e1;simp only[e0,e1];split at h;{rename_i e2;simp only[Dz hA e2];simp only[az]at h;obtain⟨h1,h⟩:=h;have hK:=hK _ _ h;rw[vF]at hK;exact⟨h1.1,h1.2.1,h1.2.2.1,h1.2.2.2.1,h1.2.2.2.2.1,h1.2.2.2.2.2.1,h1.2.2.2.2.2.2.1,h1.2.2.2.2.2.2.2,hK⟩};{cases h}};{cases h}
 ·split at h
  ·rename_i e0;simp only[e0];split at h
   ·rename_i e1 e2;simp only[e1,e2];simp only[az]at h;obtain⟨h0,h⟩:=h;refine⟨h0,?_⟩;split at h
    ·rename_i e3 e4;simp only[e3,e4];simp only[az]at h;obtain⟨h1,h⟩:=h;split at h
     ·rename_i b e5;cases b with
      |false=>cases h
      |true=>
       simp only[cond_true]at h;refine⟨h1.1,h1.2,Zx (s:=s) e5,?_⟩;refine Ud hA h fun ys h=>?_;simp only[az]at h;obtain⟨h2,h⟩:=h;exact⟨h2.1,h2.2,hK _ _ h⟩
     ·cases h
    ·rename_i e3 e4;simp only[e3,e4];simp only[az]at h;obtain⟨⟨rfl,rfl,hcp,h1⟩,h⟩:=h;rename_i cp _ _;cases cp with
     |some c=>cases hcp
     |none=>
      split at h;{rename_i e5;simp only[Dz hA e5];split at h;{simp only[az]at h;obtain⟨⟨h2,h3⟩,h⟩:=h;refine⟨h1.1,h1.2,h2,_,by rw[KQ];simpa using h3,?_⟩;refine Ud hA h fun ys h=>?_;simp only[az]at h;obtain⟨h4,h⟩:=h;exact⟨h4.1,h4.2,hK _ _ h⟩};{cases h}};{cases h}
    ·cases h
   ·cases h
  ·rename_i e0;simp only[e0];split at h
   ·rename_i e1 e2;simp only[e1,e2];simp only[az]at h;obtain⟨h0,h⟩:=h;refine⟨h0,?_⟩;split at h
    ·rename_i e3 e4;simp only[e3,e4];simp only[az]at h;obtain⟨⟨hcp,rfl,rfl⟩,h⟩:=h;rename_i cp _ _;cases cp with
     |none=>cases hcp
     |some c0=>
      split at h;{rename_i e5;simp only[Dz hA e5];split at h;{rename_i e6;split at h;{rename_i m e2';simp only[e6];simp only[az]at h;obtain⟨⟨rfl,h3⟩,h4,h⟩:=h;refine⟨by trivial,by trivial,by trivial,h3,h4,?_⟩;refine Ud hA h fun ys h=>?_;exact hK _ _ h};{cases h}};{cases h}};{cases h}
    ·cases h
   ·cases h
  ·cases h
 ·cases h
theorem q1p {R:Type} (op:BinOp) (k:IntKind) (a b:Int) (K:V->Option R):Oq op k a b K=(Oq op k a b some).bind K:=by unfold Oq;split <;> first|rfl|(split <;> rfl)
theorem q1y {R:Type} (op:BinOp) (k:IntKind) (a b:Int) (K:V->Option R):Ov op k a b K=(Ov op k a b some).bind K:=by unfold Ov;split <;> first|rfl|(split <;> rfl)
theorem q1F {R:Type} (op:BinOp) (a b:List UInt8) (K:V->Option R):Oy op a b K=(Oy op a b some).bind K:=by unfold Oy;split <;> first|rfl|(split <;> rfl)
theorem lL {R:Type} (op:BinOp) (b:Bool) (K:V->Option R):Mh op b K=(Mh op b some).bind K:=by unfold Mh;split <;> rfl
theorem q1e {R:Type} (op:BinOp) (a b:Bool) (K:V->Option R):RL op a b K=(RL op a b some).bind K:=by unfold RL;split <;> rfl
theorem q1v {R:Type} (op:BinOp) (a b:Option Bool) (K:V->Option R):RP op a b K=(RP op a b some).bind K:=by unfold RP;split <;> rfl
theorem q1B {R:Type} (op:BinOp) (a:Option (Option Bool)) (b:V) (K:V->Option R):RR op a b K=(RR op a b some).bind K:=by unfold RR;split <;> rfl
theorem q1c {R:Type} (P:Program) (op:BinOp) (T:TypeId) (x y:V) (K:V->Option R):Oi P op T x y K=(Oi P op T x y some).bind K:=by unfold Oi;split;{split;{split;{split;{exact q1y ..};{rfl}};{split;{exact q1p ..};{rfl}}};{rfl}};{split;{exact q1e ..};{rfl}};{split;{exact q1F ..};{rfl}};{exact q1v ..};{split;{exact lL ..};{rfl}};{split;{exact lL ..};{rfl}};{exact q1B ..};{rfl}
theorem q1C {R:Type} (P:Program) (T:TypeId) (x:V) (lo hi mx:Option V) (K:V->Option R):Ow P T x lo hi mx K=(Ow P T x lo hi mx some).bind K:=by
 unfold Ow
 repeat' (first|rfl|split)
theorem q1s {R:Type} (P:Program) (T:TypeId) (x:V) (K:V->Option R):Ot P T x K=(Ot P T x some).bind K:=by
 unfold Ot
 repeat' (first|rfl|split)
theorem q1n {R:Type} (P:Program) (T:TypeId) (x i:V) (K:V->Option R):Oo P T x i K=(Oo P T x i some).bind K:=by
 unfold Oo
 repeat' (first|rfl|split)
theorem q1j {R:Type} (P:Program) (T:TypeId) (x:V) (i:Nat) (K:V->Option R):Om P T x i K=(Om P T x i some).bind K:=by
 unfold Om
 repeat' (first|rfl|split)
theorem q1K {R:Type} (P:Program) (op:UnOp) (T:TypeId) (x:V) (K:V->Option R):Oz P op T x K=(Oz P op T x some).bind K:=by
 unfold Oz
 repeat' (first|rfl|split)
theorem q1h {R:Type} (P:Program) (a b:TypeId) (x:V) (K:V->Option R):Ol P a b x K=(Ol P a b x some).bind K:=by
 unfold Ol
 repeat' (first|rfl|split)
theorem q1f {R:Type} (P:Program) (b:Builtin) (ts:Array TypeId) (xs:List V) (K:V->Option R):Oj P b ts xs K=(Oj P b ts xs some).bind K:=by
 unfold Oj
 repeat' (first|rfl|exact q1s .. |split)
theorem lU {R:Type} (P:Program) (op:Op) (ρ:Operand->V) (K:V->Option R):Hd P op ρ K=(Hd P op ρ some).bind K:=by unfold Hd;split;{rfl};{rfl};{split;{cases(ρ _).toBool <;> rfl};{rfl}};{split <;> rfl};{exact q1c ..};{exact q1K ..};{exact q1h ..};{exact q1j ..};{split <;> rfl};{exact q1n ..};{repeat' (first|rfl|split)};{exact q1C ..};{repeat' (first|rfl|split)};{repeat' (first|rfl|split)};{repeat' (first|rfl|split)};{repeat' (first|rfl|exact q1f .. |split)};{rfl}
theorem LH {R:Type} (P:Program) (s:S) (t':TypeId) (eb:Nat) (e:Ty) (Y:V) (K:List C->Option R):Io P s t' eb e Y K=(Io P s t' eb e Y some).bind K:=by
 unfold Io
 repeat' (first|rfl|split)
def K3.run {R:Type} (K:K3 R) (r:RI):Option R:=K r.1 r.2.1 r.2.2
def ri:K3 RI:=fun v lo tn=>some (v,lo,tn)
theorem MU {α β γ:Type} (x:Option α) (f:α->Option β) (g:β->Option γ):(x.bind f).bind g=x.bind fun a=>(f a).bind g:=by cases x <;> rfl
theorem q1a {R:Type} (P:Program) (m dst:Nat) (s:S) (t t':TypeId) (x y:V) (K:K3 R):Oh P m dst s t t' x y K=(Oh P m dst s t t' x y ri).bind K.run:=by
 have key:∀eb e,(Io P s t' eb e y fun ys=>if m=3 then(if ys.isEmpty=false then K (.sr (.l dst) [] 0 ys.length none eb e) [(.l dst,.box (.d (.arr ys.length e) (.agg ys)))] []else none)else K (.sl eb e ys dst) [] [(dst,some ys.length)])=
   (Io P s t' eb e y fun ys=>if m=3 then(if ys.isEmpty=false then ri (.sr (.l dst) [] 0 ys.length none eb e) [(.l dst,.box (.d (.arr ys.length e) (.agg ys)))] []else none)else ri (.sl eb e ys dst) [] [(dst,some ys.length)]).bind K.run:=by
  intro eb e;rw[LH,LH P s t' eb e y (fun ys=>if m=3 then(if ys.isEmpty=false then ri _ _ _ else none)else ri _ _ _),MU];congr 1;funext ys
  repeat' (first|rfl|split)
 unfold Oh;split;{split;{split;{exact key _ _};{exact key _ _};{rfl}};{rfl}};{rfl}
theorem lR {R:Type} (P:Program) (s:S) (T:TypeId) (k:Key) (K:V->Option R):RN P s T k K=(RN P s T k some).bind K:=by
 unfold RN
 repeat' (first|rfl|split)
theorem lS {R:Type} (τ:Ty) (c:C) (K:Option V->Option R) (es:List (C × V)):Ou τ es c K=(Ou τ es c some).bind K:=by unfold Ou;cases EJ τ es <;> cases Iv es c <;> rfl
theorem q1l {R:Type} (X:Cx) (m dst:Nat) (o:Oper) (ρ:Operand->V) (s:S) (K:K3 R):ekI X m dst o ρ s K=(ekI X m dst o ρ s ri).bind K.run:=by
 have pv:∀op,Hd X.P op ρ (fun v=>K v [] [])=(Hd X.P op ρ fun v=>ri v [] []).bind K.run:=by intro op;rw[lU,lU X.P op ρ (fun v=>ri v [] []),MU];rfl
 unfold ekI;generalize o.op=op;split;{unfold Yf;repeat' (first|rfl|split)};{repeat' (first|rfl|split)};{repeat' (first|rfl|split)};{repeat' (first|rfl|split)};{repeat' (first|rfl|split)};{repeat' (first|rfl|split)};{repeat' (first|rfl|split)};{split;{split;{split;{rw[lS,lS _ _ (fun r=>ri _ [] []),MU];rfl};{rfl}};{rfl}};{rfl}};{split;{rfl};{split;{exact q1a ..};{rfl}};{split;{split;{rw[lR,lR X.P s _ _ (fun v=>ri v [] []),MU];rfl};{exact pv _}};{exact pv _}};{exact pv _}};{split;{rfl};{exact pv _}};{exact pv _}
def rs:KS (V × S):=fun v s=>some (v,s)
def KS.run {R:Type} (K:KS R) (r:V × S):Option R:=K r.1 r.2
theorem jD {α R:Type} (b:Bool) (x:Option α) (f:α->Option R):(bif b then x.bind f else none)=(bif b then x else none).bind f:=by cases b <;> rfl
theorem q1H {R:Type} (X:Cx) (m dst:Nat) (o:Oper) (ρ:Operand->V) (s:S) (K:KS R):ekT X m dst o ρ s K=(ekT X m dst o ρ s rs).bind K.run:=by
 unfold ekT;split;{repeat' (first|rfl|exact jD _ (rs _ _) K.run|split)};{repeat' (first|rfl|exact jD _ (rs _ _) K.run|split)};{repeat' (first|rfl|split)};{repeat' (first|rfl|split)}
 ·split
  ·split
   ·split
    ·split
     ·split
      ·split
       ·rename_i b _;cases b;{rfl}
        ·simp only[cond_true];rw[LH,LH X.P s _ _ _ _ (fun ys=>if(_+ys.length)*_<=140737488355328/\_ then rs _ _ else none),MU];congr 1;funext ys
         repeat' (first|rfl|split)
       ·rfl
      ·rfl
     ·split
      ·split
       ·split
        ·split
         ·rw[LH,LH X.P s _ _ _ _ (fun ys=>if _/\_ then rs _ _ else none),MU];congr 1;funext ys
          repeat' (first|rfl|split)
         ·rfl
        ·rfl
       ·rfl
      ·rfl
     ·rfl
    ·rfl
   ·rfl
  ·split
   ·split
    ·split
     ·split
      ·split
       ·split;{split;{split;{split;{rw[LH,LH X.P s _ _ _ _ (fun ys=>rs _ _),MU];rfl};{rfl}};{rfl}};{rfl}};{rfl}
       ·rfl
      ·rfl
     ·rfl
    ·rfl
   ·rfl
  ·rfl
 ·rfl
theorem Ub {X:Cx} {m dst:Nat} {o:Oper} {ρ:Operand->V} {s:S} {R:Type} {r:R} {Kr:K3 R} (h:ekI X m dst o ρ s Kr=some r):
  ∃v lo tn,Kr v lo tn=some r/\∀A',leA s.A A'->∀(md:List (Nat × Nat)) (base:S),Ck md dst=m->∀K:V->List (Key × O)->List (Nat × Option Nat)->Prop,K v lo tn->iop X md base dst o ρ (s.wA A') K:=by
 rw[q1l]at h;cases h1:ekI X m dst o ρ s ri with
 |none=>rw[h1]at h;cases h
 |some x=>
  obtain⟨v,lo,tn⟩:=x;rw[h1]at h;refine⟨v,lo,tn,h,fun A' hA md base hm K hK=>q1m hm hA h1 fun v' lo' tn' e=>?_⟩;simp only[ri,ee,fw]at e;obtain⟨rfl,rfl,rfl⟩:=e;exact hK
theorem Yg {X:Cx} {m dst:Nat} {o:Oper} {ρ:Operand->V} {s:S} {R:Type} {r:R} {Kr:KS R} (h:ekT X m dst o ρ s Kr=some r):
  ∃v s1,Kr v s1=some r/\∀A',leA s.A A'->∀(md:List (Nat × Nat)),Ck md dst=m->∀K:V->S->Prop,K v (s1.wA A')->top X md dst o ρ (s.wA A') K:=by
 rw[q1H]at h;cases h1:ekT X m dst o ρ s rs with
 |none=>rw[h1]at h;cases h
 |some x=>
  obtain⟨v,s1⟩:=x;rw[h1]at h;refine⟨v,s1,h,fun A' hA md hm K hK=>q1I hm hA h1 fun v' s' e=>?_⟩;simp only[rs,ee,fw]at e;obtain⟨rfl,rfl⟩:=e;exact hK
abbrev Ei (R:Type):=FuncId->List V->(Key->Option O)->(V->List (Key × O)->Option R)->Option R
def JM (X:Cx) {R:Type} (call:Ei R):Prop:=∀f xs A Kr r,call f xs A Kr=some r->∃v L,Cc X f xs A v L/\Kr v L=some r
def Lh {R:Type} (tip:Bool) (s:S):List V->Option R->Option R
 | [],r=>r|x::xs,r=>match x with| .sl _ _ cs t=>bif tip then(match s.live t with|some m=>bif df m cs.length then Lh tip s xs r else none|none=>Lh tip s xs r)else Lh tip s xs r|_=>Lh tip s xs r
def OJ (P:Program) (tip:Bool) (s:S) (T:TypeId) (x:V):V:=
 match x with
 | .sl eb e cs t=>bif tip then(match s.live t with|some _=>.ts eb e cs|none=>.d (.slice eb e) (.slice cs))else .d (.slice eb e) (.slice cs)|x=>EO P tip s T x
def Tx (P:Program) (tip:Bool) (s:S):List TypeId->List V->List V
 |T::Ts,x::xs=>OJ P tip s T x::Tx P tip s Ts xs|_,_=>[]
def OL (tip:Bool) (s:S) (x:V):Option (Option Nat):=
 match x with
 | .sl _ _ _ t=>bif tip then(match s.live t with|some _=>some (some t)|none=>none)else none|x=>DD tip s x
def SY (tip:Bool) (s:S):List V->List Nat
 | []=>[]|x::xs=>(match OL tip s x with|some (some t)=>[t] |_=>[])++SY tip s xs
def S.Wm (s:S) (tip:Bool) (ys:List V) (d:Nat) (v:V) (L:List (Key × O)):S:=HV d (v.tkR 2000) (Gr (SY tip s ys) (Gd d L s))
theorem bJ {R:Type} {P:Program} {tip:Bool} {s:S} {r0:Option R} {r:R}:∀{ys:List V},Lh tip s ys r0=some r->
  r0=some r/\SY tip s ys=DQ tip s ys/\∀Ts,Tx P tip s Ts ys=DU P tip s Ts ys
 | [],h=>⟨h,rfl,fun Ts=>by cases Ts <;> rfl⟩|x::xs,h=>by
  suffices hs:Lh tip s xs r0=some r/\OL tip s x=DD tip s x/\∀T,OJ P tip s T x=EO P tip s T x by
   obtain⟨h1,h2,h3⟩:=hs;obtain⟨g1,g2,g3⟩:=bJ (P:=P) h1;refine⟨g1,by simp only[SY,DQ,h2,g2];rfl,fun Ts=>?_⟩;cases Ts with
   |nil=>rfl|cons T Ts=>simp only[Tx,DU,h3,g3]
  unfold Lh at h;split at h
  ·rename_i eb e cs t;cases tip with
   |false=>exact⟨h,by simp[OL,DD],fun T=>by simp[OJ,EO]⟩|true=>
    simp only[cond_true]at h;split at h
    ·rename_i m hm;cases hb:df m cs.length with
     |false=>rw[hb]at h;cases h
     |true=>
      rw[hb]at h;have:=ei hb;subst this;exact⟨h,by simp[OL,DD,hm],fun T=>by simp[OJ,EO,hm]⟩
    ·rename_i hm;exact⟨h,by simp[OL,DD,hm],fun T=>by simp[OJ,EO,hm]⟩
  ·rename_i hx;refine⟨h,?_,fun T=>?_⟩;{unfold OL;split;{exact absurd rfl (hx _ _ _ _)};{rfl}};{unfold OJ;split;{exact absurd rfl (hx _ _ _ _)};{rfl}}
def KA {R:Type} (X:Cx) (call:Ei R) (tip:Bool) (o:Oper) (ρ:Operand->V) (s:S) (K:V->List (Key × O)->Option R):Option R:=
 match o.op with
 | .call c=>(match c.callee with
  | .value fo=>(match ρ fo with
   | .fn f yg=>Lh tip s (FA (c.args.toList.map ρ) yg) (if JR X.P f=true/\c.argTypes.toList.length=c.args.toList.length/\HB (SY tip s (FA (c.args.toList.map ρ) yg))=true then
      call f (Tx X.P tip s (Ju c.argTypes.toList yg) (FA (c.args.toList.map ρ) yg)) s.up K else none)
   |_=>none)
  |_=>none)
 |_=>none
theorem Yb {X:Cx} {R:Type} {call:Ei R} (hc:JM X call) {dst:Nat} {o:Oper} {ρ:Operand->V} {base s B:S} (hB:B=base\/B=base.see s (Fl o ρ)) {r:R} {Kr:V->List (Key × O)->Option R} (h:KA X call false o ρ B Kr=some r):
  ∃v L,Kr v L=some r/\∀A',leA B.A A'->∀(md:List (Nat × Nat)) (K:V->List (Key × O)->List (Nat × Option Nat)->Prop),(Hw L=true->K ((v.Da 2000).ren (dn dst) (rk dst)) (dnL dst L) (dnT dst (v.tkR 2000))->iop X md (base.wA A') dst o ρ (s.wA A') K)/\
   (Ck md dst=0->(∀k o,B.obj k=some o->s.obj k=some o)->leA s.A A'->Hj s dst L=true->JG s dst (v.tkR 2000)=true->∀K2:V->S->Prop,K2 ((v.Da 2000).ren (dn dst) (rk dst)) ((s.ret false (Fl o ρ) dst v L).wA A')->top X md dst o ρ (s.wA A') K2):=by
 unfold KA at h;unfold Fl at hB ⊢;unfold iop top;generalize o.op=op at h hB ⊢;split at h
 ·dsimp only;split at h
  ·rename_i e0;simp only[e0]at hB ⊢;split at h
   ·rename_i e1;simp only[e1]at hB ⊢;obtain⟨h,n1,n2⟩:=bJ (P:=X.P) h;rw[n1,n2]at h;simp only[az]at h;obtain⟨h1,h⟩:=h;obtain⟨v,L,hD,hr⟩:=hc _ _ _ _ _ h;refine⟨v,L,hr,fun A' hA md K=>⟨fun hl hK=>.inl ⟨h1.1,h1.2.1,B.wA A',v,L,hB.imp (congrArg (S.wA · A')) (congrArg (S.wA · A')),?_,hl,hK⟩,fun hm hb hA2 hg ht K2 hK=>?_⟩⟩;{rw[Tz (s.wA A') B];exact hD.mono (gE hA)}
    ·have hm1:(Ck md dst==1)=false:=by rw[hm];rfl
     rw[hm1];refine⟨h1.1,h1.2.1,by rw[WH];rfl,v,L,?_,Uz hA2 hg,fH ht,by rw[dZ];exact hK⟩;rw[Tz (s.wA A') B];refine hD.mono fun k x hk=>gE hA2 k x ?_;simp only[S.up,ed]at hk ⊢;obtain⟨y,h2,h3⟩:=hk;exact⟨y,hb _ _ h2,h3⟩
   ·cases h
  ·cases h
 ·cases h
theorem lN {X:Cx} {R:Type} {call:Ei R} (hc:JM X call) {tip:Bool} {dst:Nat} {o:Oper} {ρ:Operand->V} {s:S} {r:R} {Kr:V->List (Key × O)->Option R} (h:KA X call tip o ρ s Kr=some r):
  ∃v L,Kr v L=some r/\s.Wm tip (Fl o ρ) dst v L=s.ret tip (Fl o ρ) dst v L/\(Hj s dst L=true->JG s dst (v.tkR 2000)=true->∀A',leA s.A A'->∀md:List (Nat × Nat),(Ck md dst==1)=tip->∀K2:V->S->Prop,K2 ((v.Da 2000).ren (dn dst) (rk dst)) ((s.ret tip (Fl o ρ) dst v L).wA A')->top X md dst o ρ (s.wA A') K2):=by
 unfold KA at h;unfold Fl;unfold top;generalize o.op=op at h ⊢;split at h;{dsimp only;split at h;{rename_i e0;simp only[e0];split at h;{rename_i e1;simp only[e1];obtain⟨h,n1,n2⟩:=bJ (P:=X.P) h;rw[n1,n2]at h;simp only[az]at h;obtain⟨h1,h⟩:=h;obtain⟨v,L,hD,hr⟩:=hc _ _ _ _ _ h;refine⟨v,L,hr,by simp only[e0,S.Wm,S.ret,n1],fun hg ht A' hA md hm K2 hK=>?_⟩;rw[hm];refine⟨h1.1,h1.2.1,by rw[cH];exact h1.2.2,v,L,?_,Uz hA hg,fH ht,by rw[dZ];exact hK⟩;rw[iQ];exact hD.mono (gE hA)};{cases h}};{cases h}};{cases h}
section
abbrev EY:=FuncId->Option (List V->Option V)
def Ig (X:Cx) (ext:EY):Prop:=∀f g xs v,ext f=some g->g xs=some v->Ny X f xs v
def RV (ext:EY) (o:Oper) (ρ:Operand->V):Option (Option V):=
 match o.op with
 | .call c=>(match c.callee with| .value fo=>(match ρ fo with| .fn f []=>(match ext f with|some g=>some (g (c.args.toList.map ρ))|none=>none)|_=>none)|_=>none)|_=>none
theorem nA {X:Cx} {ext:EY} (he:Ig X ext) {md:List (Nat × Nat)} {dst:Nat} {o:Oper} {ρ:Operand->V} {s base:S} {v:V} (h:RV ext o ρ=some (some v)) {K:V->List (Key × O)->List (Nat × Option Nat)->Prop} (hK:K v [] []):
  iop X md base dst o ρ s K:=by
 unfold RV at h;unfold iop;generalize o.op=op at h ⊢;split at h;{dsimp only;split at h;{rename_i e0;simp only[e0];split at h;{rename_i e1;simp only[e1];split at h;{rename_i e2;exact .inr (.inl ⟨by first|rfl|trivial,_,he _ _ _ _ e2 (oz h),hK⟩)};{cases h}};{cases h}};{cases h}};{cases h}
def pK (m:Nat) (o:Oper) (ρ:Operand->V):Bool:=
 match o.op with
 | .store _ _ _| .mapUpdate _ _ _ _=>true| .load _ _=>df m 1| .box _ x=> !(df m 5)&& !(ρ x).BW| .call c=>(match c.callee,c.args.toList with| .builtin .copy,_=>true| .builtin .append,x::_=>(match ρ x with| .sl _ _ _ _=>true| .sr _ _ _ _ _ _ _=>true|_=>false)|_,_=>false)|_=>false
def q2V (o:Oper) (ρ:Operand->V):Bool:=
 match o.op with
 | .load _ x=>(match ρ x with| .yf _ _=>true|_=>false)| .convert _ _ x=>(match ρ x with| .sr _ _ _ _ _ _ _=>false|_=>true)| .alloc _| .box _ _| .makeSlice _ _ _| .makeMap _ _| .lookup _ _ _ _=>false| .call c=>(match c.callee,c.args.toList with| .builtin .append,_=>false| .builtin .copy,_=>false| .builtin .len,x::_=>(match ρ x with| .mp _=>false|_=>true)| .builtin _,_=>true|_,_=>false)|_=>true
def HR (c:C) (b:Bool):C:=match c with| .bool _=>.bool b|c=>c
theorem q3Z {c:C} {b:Bool} (h:c.toBool=b):HR c b=c:=by cases c <;> first|rfl|(simp only[C.toBool]at h;subst h;rfl)
def S.lit (s:S) (t:Nat) (c:C) (b:Bool):S:={s with env:=Lv s.env t (.d .bool (HR c b))}
theorem xC {α:Type}:∀{l:List (Nat × α)} {t:Nat} {x:α},look l t=some x->Lv l t x=l
 | [],t,x,h=>by simp[look]at h
 |(j,y)::l,t,x,h=>by simp only[look]at h;simp only[Lv];split;{rename_i e;rw[if_pos e]at h;cases h;rfl};{rename_i e;rw[if_neg e]at h;rw[xC h]}
theorem Zw {s:S} {t:Nat} {c:C} {b:Bool} (h:s.get t= .d .bool c) (hb:c.toBool=b):s.lit t c b=s:=by
 have:look s.env t=some (.d .bool c):=by
  unfold S.get at h;cases hl:look s.env t with
  |none=>rw[hl]at h;cases h
  |some x=>rw[hl]at h;simp at h;rw[h]
 rw[<-q3Z hb]at this;simp only[S.lit,xC this]
def PG (ops:Array Oper) (j:Nat):Nat:=(Gw ops j).getD 0
def Ri {R:Type} (ops:Array Oper) (s:S) (j:Nat) (want:Bool) (go skip:S->Option R):Option R:=
 match gv ops s j with
 | .d .bool c=>(match want with|true=>bif c.toBool then go (s.lit (PG ops j) c true)else skip (s.lit (PG ops j) c false)|false=>bif c.toBool then skip (s.lit (PG ops j) c true)else go (s.lit (PG ops j) c false))| .tup []=>skip s|_=>none
theorem q2w {ops:Array Oper} {s:S} {j:Nat} {c:C} {b:Bool} (h:gv ops s j= .d .bool c) (hb:c.toBool=b):s.lit (PG ops j) c b=s:=by unfold gv at h;unfold PG;split at h;{cases h};{rename_i t e;rw[e];exact Zw h hb}
theorem ZO {R:Type} {ops:Array Oper} {s:S} {j:Nat} {want:Bool} {go skip:S->Option R} {r:R} (h:Ri ops s j want go skip=some r):(go s=some r/\∀p q:Prop,p->gx (gv ops s j) want p q)\/(skip s=some r/\∀p q:Prop,q->gx (gv ops s j) want p q):=by unfold Ri at h;unfold gx;split at h;{rename_i c hb;simp only[hb];cases hc:c.toBool <;> rw[hc]at h <;> cases want <;> simp only[cond_true,cond_false]at h <;> rw[q2w hb hc]at h;{exact .inl ⟨h,fun p q hp=>⟨fun _=>hp,fun h=>absurd rfl h⟩⟩};{exact .inr ⟨h,fun p q hq=>⟨fun h=>(by cases h),fun _=>hq⟩⟩};{exact .inr ⟨h,fun p q hq=>⟨fun h=>(by cases h),fun _=>hq⟩⟩};{exact .inl ⟨h,fun p q hp=>⟨fun _=>hp,fun h=>absurd rfl h⟩⟩}};{rename_i hb;simp only[hb];exact .inr ⟨h,fun p q hq=>hq⟩};{cases h}
theorem qZ (s:S) (A':Key->Option O) (x:V):De (s.wA A') x=De s x:=by unfold De;split;{split;{rw[KQ]};{rfl}};{rfl}
theorem Zv (A':Key->Option O):∀(js:List Nat) (s:S),Ec js (s.wA A')=(Ec js s).wA A'
 | [],_=>rfl|j::l,s=>by simp only[Ec];rw[<-Zv A' l];congr 1;rw[KQ];split;{split <;> rfl};{rfl}
def Uc {R:Type} (X:Cx) (call:Ei R) (o:Oper) (ρ:Operand->V) (s:S) (K:V->Option R):Option R:=
 match o.op with
 | .call c=>(match c.callee with
  | .value fo=>(match ρ fo with
   | .fn f yg=>(match yg with
    | []=>if JR X.P f=true/\Gn (c.args.toList.map fun y=>Gh s (ρ y))=true then
      call f (c.args.toList.map fun y=>Gh s (ρ y)) (fun _=>none) (fun v L=>if L.isEmpty=true/\v.ER=true then K v else none)else none
    |_=>none)
   |_=>none)
  |_=>none)
 |_=>none
theorem fE {s:S} {A':Key->Option O} (hA:leA s.A A'):∀(f:Nat) {x:V} {τ:Ty} {c:C},GP f s x= .d τ c->GP f (s.wA A') x= .d τ c
 |0,_,_,_,h=>by cases h
 |f+1,x,τ,c,h=>by
  have ih:∀(xs:List V) (cs:List C),Eo (xs.map (GP f s))=some cs->Eo (xs.map (GP f (s.wA A')))=some cs:=by
   intro xs
   induction xs with
   |nil=>exact fun _ h=>h|cons x xs ih=>
    intro cs h;simp only[dt,Eo]at h ⊢;rcases yP s f x with e|⟨τ,c,e⟩;{rw[e]at h;simp[Cl]at h};{rw[fE hA f e];rw[e]at h;cases e2:Eo (xs.map (GP f s))with|none=>rw[e2]at h;simp[Cl]at h|some cs'=>rw[e2]at h;rw[ih _ e2];exact h}
  cases x <;> (try exact h)
  case agg τ0 xs=>
   simp only[GP]at h ⊢;split at h;{rename_i cs hcs;rw[ih _ _ hcs];exact h};{cases h}
  case sr k q lo n cp eb e=>
   simp only[GP]at h ⊢;split at h;{rename_i y ho;rw[Dz hA ho];dsimp only;split at h;{rename_i e2;rw[fE hA f e2];exact h};{cases h}};{cases h}
theorem q87 {s:S} {A':Key->Option O} (hA:leA s.A A') {x:V} {τ:Ty} {c:C} (h:Gh s x= .d τ c):Gh (s.wA A') x= .d τ c:=fE hA _ h
theorem yQ {s:S} {A':Key->Option O} (hA:leA s.A A'):∀{l:List V},Gn (l.map (Gh s))=true->l.map (Gh (s.wA A'))=l.map (Gh s)
 | [],_=>rfl|x::l,h=>by simp only[dt,Gn,bg]at h;simp only[dt];rw[yQ hA h.2];congr 1;cases hs:Gh s x <;> rw[hs]at h <;> simp at h;exact q87 hA hs
theorem lW {X:Cx} {R:Type} {call:Ei R} (hc:JM X call) {o:Oper} {ρ:Operand->V} {s:S} {r:R} {Kr:V->Option R} (h:Uc X call o ρ s Kr=some r):
  ∃v,Kr v=some r/\∀A',leA s.A A'->∀(md:List (Nat × Nat)) (base:S) (dst:Nat) (K:V->List (Key × O)->List (Nat × Option Nat)->Prop),K v [] []->iop X md base dst o ρ (s.wA A') K:=by
 unfold Uc at h;unfold iop;generalize o.op=op at h ⊢;split at h
 ·dsimp only;split at h
  ·rename_i c _ fo e0;simp only[e0];split at h
   ·rename_i f yg e1;simp only[e1];split at h
    ·simp only[az]at h;obtain⟨⟨h1,h2⟩,h⟩:=h;obtain⟨v,L,hD,hr⟩:=hc _ _ _ _ _ h;simp only[az]at hr;obtain⟨⟨h3,h4⟩,hr⟩:=hr;have hL:L=[]:=by simpa using h3
     subst hL;refine⟨v,hr,fun A' hA md base dst K hK=>.inr (.inr ⟨by first|rfl|trivial,h1,v,?_⟩)⟩;have e:(c.args.toList.map fun y=>Gh (s.wA A') (ρ y))=c.args.toList.map fun y=>Gh s (ρ y):=by
      have h2':Gn ((c.args.toList.map ρ).map (Gh s))=true:=by rw[px];exact h2
      have:=yQ (A':=A') hA h2';rw[px,px]at this;exact this
     rw[e];exact⟨h2,hD,h4,hK⟩
    ·cases h
   ·cases h
  ·cases h
 ·cases h
def pE (o:Oper) (ρ:Operand->V):Bool:=
 match o.op with
 | .makeInterface _ _=>true| .binOp _ _ _ y _=>LS y| .convert _ dst x=>(match ρ x with| .d τ _=>(match τ with| .str=> !(df dst 0)&&true|_=>false)|_=>false)|_=>false
def Ua {R:Type} (X:Cx) (o:Oper) (ρ:Operand->V) (K:V->Option R) (other:Option R):Option R:=
 match o.op with
 | .convert src dst x=>(match Jt X.P src dst (ρ x)with|some ys=>K (.d (.slice 1 (.int .u8)) (.slice ys))|none=>other)| .makeInterface T _=>if Qt X.P T=true then K (.d .iface (.bool true))else none| .binOp op T x y _=>if LS y=true/\ty X.P T= .iface then(match op,ρ x with| .eql,.d .iface c=>K (.d .bool (.bool c.isNil))| .neq,.d .iface c=>K (.d .bool (.bool (!c.isNil)))|_,_=>none)else none|_=>none
theorem lP {R:Type} {X:Cx} {o:Oper} {ρ:Operand->V} {r:R} {Kr:V->Option R} {other:Option R} (h:Ua X o ρ Kr other=some r):
  (∃v,Kr v=some r/\∀K:V->Prop,K v->fop X o ρ K)\/other=some r:=by
 unfold Ua at h;unfold fop;generalize o.op=op at h ⊢;split at h;{dsimp only;split at h;{rename_i e0;simp only[e0];exact .inl ⟨_,h,fun K hK=>hK⟩};{exact .inr h}};{simp only[az]at h;exact .inl ⟨_,h.2,fun K hK=>⟨h.1,hK⟩⟩};{simp only[az]at h;obtain⟨h1,h⟩:=h;split at h;{rename_i e0;simp only[e0];exact .inl ⟨_,h,fun K hK=>⟨h1.1,h1.2,hK⟩⟩};{rename_i e0;simp only[e0];exact .inl ⟨_,h,fun K hK=>⟨h1.1,h1.2,hK⟩⟩};{cases h}};{cases h}
def ZZ (m:Nat) (o:Oper):Bool:=
 match o.op with
 | .slice _ _ _ _ _=>df m 4| .convert _ _ _=>df m 9|_=>false
def Ye {R:Type} (X:Cx) (dst:Nat) (o:Oper) (ρ:Operand->V) (s:S) (K:KS R):Option R:=
 match o.op with
 | .slice T x lo hi mx=>if s.known dst=false/\hi.isSome=true/\mx.isSome=true then(match ty X.P T with| .slice eb e=>(match(ρ x).Fk with|some (eb',e',cs)=>(match DA (lo.map ρ) 0,DA (hi.map ρ) 0,DA (mx.map ρ) 0 with|some l,some h,some m=>if eb'=eb/\e'=e/\l=0 then(if 0<=h/\h=m/\m<=cs.length then K (.sl eb e (cs.take h.toNat) dst) {s with tk:=(dst,some (cs.take h.toNat).length)::s.tk} else none)else none|_,_,_=>none)|none=>none)|_=>none)else none| .convert src z8k x=>if(s.obj (.l dst)).isNone=true then(match Jt X.P src z8k (ρ x)with|some ys=>K (.sr (.l dst) [] 0 ys.length none 1 (.int .u8)) {s with loc:=(.l dst,.box (.d (.arr ys.length (.int .u8)) (.agg ys)))::s.loc}|none=>none)else none|_=>none
theorem q1A {R:Type} {X:Cx} {dst:Nat} {o:Oper} {ρ:Operand->V} {s:S} {r:R} {Kr:KS R} {m:Nat} (hm0:ZZ m o=true) (h:Ye X dst o ρ s Kr=some r):
  ∃v s1,Kr v s1=some r/\∀A',∀md:List (Nat × Nat),Ck md dst=m->∀K:V->S->Prop,K v (s1.wA A')->sl3 X md dst o ρ (s.wA A') K:=by
 unfold ZZ at hm0;unfold Ye at h;unfold sl3;generalize o.op=op at h hm0 ⊢;split at h;{simp only[az]at h;obtain⟨h1,h⟩:=h;have hm4:=ei hm0;subst hm4;dsimp only;split at h;{rename_i e0;simp only[e0];split at h;{rename_i e1;simp only[e1];split at h;{rename_i e2 e3 e4;simp only[e2,e3,e4];simp only[az]at h;obtain⟨h2,h3,h⟩:=h;exact⟨_,_,h,fun A' md hm K hK=>⟨hm,h1.1,h1.2.1,h1.2.2,h2.1,h2.2.1,h2.2.2,h3.1,h3.2.1,h3.2.2,hK⟩⟩};{cases h}};{cases h}};{cases h}};{simp only[az]at h;obtain⟨h1,h⟩:=h;have hm4:=ei hm0;subst hm4;dsimp only;split at h;{rename_i ys e0;refine⟨_,_,h,fun A' md hm K hK=>⟨hm,by rw[KQ];simpa using h1,?_⟩⟩;rw[e0];exact hK};{cases h}};{cases h}
def Ox {R:Type} (X:Cx) (call:Ei R) (ext:EY) (m:Nat) (o:Oper) (ρ:Operand->V) (s:S) (K:KS R):Option R:=
 if ZY o=true then
  (match RV ext o ρ with
  |some r=>(match r with|some v=>if m=0 then K v s else none|none=>none)|none=>if df m 8=true then Uc X call o ρ s (fun v=>K v s)else KA X call (m==1) o ρ s fun v L=>if Hj s (BH o) L=true/\JG s (BH o) (v.tkR 2000)=true then K ((v.Da 2000).ren (dn (BH o)) (rk (BH o))) (s.Wm (m==1) (Fl o ρ) (BH o) v L)else none)
 else if pK m o ρ=true then ekT X m (BH o) o ρ s K
 else ekI X m (BH o) o ρ s fun v lo tn=>if df m 1=false/\Fs s lo=true/\LM s tn=true then K v (s.add lo tn)else none
def RS {R:Type} (X:Cx) (call:Ei R) (ext:EY) (m:Nat) (o:Oper) (s:S) (K:KS R):Option R:=
 if df m 100=true then Ox X call ext 0 o (fun y=>De s (BL X.gl s y)) (Ec (Gx (o.op.operands.toList.map (BL X.gl s))) s) K
 else if ZZ m o=true then Ye X (BH o) o (BL X.gl s) s K
 else if pE o (BL X.gl s)=true then Ua X o (BL X.gl s) (fun v=>K v s) (Ox X call ext m o (BL X.gl s) s K)
 else Ox X call ext m o (BL X.gl s) s K
section
variable {X:Cx} {R:Type} {call:Ei R} {ext:EY} (hc:JM X call) (he:Ig X ext)
include hc he
theorem lX {m:Nat} {o:Oper} {ρ:Operand->V} {s:S} {Kr:KS R} {r:R} (h:Ox X call ext m o ρ s Kr=some r):
  ∃v s1,Kr v s1=some r/\∀A',leA s.A A'->∀md:List (Nat × Nat),Ck md (BH o)=m->∀K:V->S->Prop,K v (s1.wA A')->
   (m≠1/\iop X md (s.wA A') (BH o) o ρ (s.wA A') (fun v lo tn=>GD (s.wA A') lo/\GG (s.wA A') tn/\K v ((s.wA A').add lo tn)))\/top X md (BH o) o ρ (s.wA A') K:=by
 unfold Ox at h;split at h;{split at h;{rename_i x e0;split at h;{simp only[az]at h;obtain⟨h1,h⟩:=h;exact⟨_,_,h,fun A' hA md hm K hK=>.inl ⟨by rw[h1];decide,nA he e0 ⟨trivial,trivial,hK⟩⟩⟩};{cases h}};{split at h;{rename_i hm8;have hm8:m=8:=ei hm8;obtain⟨v,h1,h2⟩:=lW hc h;exact⟨_,_,h1,fun A' hA md hm K hK=>.inl ⟨by rw[hm8];decide,h2 A' hA md _ _ _ ⟨trivial,trivial,hK⟩⟩⟩};obtain⟨v,L,h1,hq,h2⟩:=lN (dst:=BH o) hc h;rw[hq]at h1;simp only[az]at h1;obtain⟨⟨h3,h4⟩,h1⟩:=h1;exact⟨_,_,h1,fun A' hA md hm K hK=>.inr (h2 h3 h4 A' hA md (by rw[hm]) K hK)⟩}};{split at h;{obtain⟨v,s1,h1,h2⟩:=Yg h;exact⟨v,s1,h1,fun A' hA md hm K hK=>.inr (h2 A' hA md hm K hK)⟩};{obtain⟨v,lo,tn,h1,h2⟩:=Ub h;simp only[az]at h1;obtain⟨⟨h3,h4,h5⟩,h1⟩:=h1;refine⟨v,_,h1,fun A' hA md hm K hK=>.inl ⟨?_,h2 A' hA md _ hm _ ⟨Rg h4,Rh h5,hK⟩⟩⟩;intro e;subst e;simp at h3}}
theorem q1E {m:Nat} {o:Oper} {s:S} {Kr:KS R} {r:R} (h:RS X call ext m o s Kr=some r):
  ∃v s1,Kr v s1=some r/\∀A',leA s.A A'->∀md:List (Nat × Nat),Ck md (BH o)=m->∀K:V->S->Prop,K v (s1.wA A')->sop X md (BH o) o (s.wA A') K:=by
 unfold RS at h;split at h
 ·rename_i z82;have z82:m=100:=ei z82;obtain⟨v,s1,h1,h2⟩:=lX hc he h;refine⟨v,s1,h1,fun A' hA md hm K hK=>.inl ⟨by rw[hm,z82],?_⟩⟩;have hA2:leA (Ec (Gx (o.op.operands.toList.map (BL X.gl s))) s).A A':=by rw[(Rx _ s).2];exact hA
  have:=h2 A' hA2 [] rfl K hK;unfold rZ;simp only[Fp,qZ,Zv];exact this.imp (fun h=>h.2) id
 ·have normal:Ox X call ext m o (BL X.gl s) s Kr=some r->∃v s1,Kr v s1=some r/\∀A',leA s.A A'->∀md:List (Nat × Nat),Ck md (BH o)=m->∀K:V->S->Prop,K v (s1.wA A')->sop X md (BH o) o (s.wA A') K:=by intro h;obtain⟨v,s1,h1,h2⟩:=lX hc he h;refine⟨v,s1,h1,fun A' hA md hm K hK=>.inr ?_⟩;have:=h2 A' hA md hm K hK;simp only[Fp];rw[hm];exact this.imp id .inl
  split at h;{rename_i hsl;obtain⟨v,s1,h1,h2⟩:=q1A hsl h;refine⟨v,s1,h1,fun A' hA md hm K hK=>.inr (.inr (.inr (.inr ?_)))⟩;rw[Fp];exact h2 A' md hm K hK};{split at h;{rcases lP h with⟨v,h1,h2⟩|h;{refine⟨v,s,h1,fun A' hA md hm K hK=>.inr (.inr (.inr ?_))⟩;rw[Fp];exact .inl (h2 _ hK)};{exact normal h}};{exact normal h}}
end
end
end Go.E
