/-
 A framework for runs of Go code over abstract data: what it needs, and that it is sound, part 6.
 Conditions: none.
-/
import Derived.Test.YtpemdagggddcfaaGreatDoorEe
import Derived.ProofKit
import Derived.LaidMore
import Derived.OpenShut
import Derived.Stop.Joined
import Derived.ChangeStays
import Derived.Deep.DeepHandedRow
import Derived.Lib.LaidTab
import Derived.LoopN
set_option linter.all false
set_option maxRecDepth 100000
set_option maxHeartbeats 4000000
open Bool renaming and_eq_true->bz,false_eq_true->fj,not_eq_true'->jg
open Go.Addr renaming add->na
open Go.DataW renaming TrodAll->kb,trod->ke,weights->oa,weightsAll->pe,weightsEach->lg
open Go.DataW.TrodAll renaming lt->qy
open Go.E.G renaming part->uo
open Go.E.S renaming obj->jo
open Go.E.V renaming sites->rq
open Go.Op renaming bytesLess->ku
open Go.Value renaming okWide->sg
open Go.World renaming cell?->lj,sameAt->vp
open List renaming all_cons->vo,all_eq_true->eh,cons_append->nf,getElem?_eq_getElem->cq,getElem?_eq_some_iff->cm,getElem?_map->dx,getElem?_range->iq,getElem?_take->fh,mapM_cons->sk,map_cons->ep,map_map->nu,mem_of_getElem?->fk,mem_range->gw,nil_append->jm,range->gq,zipWith->jr
open Nat renaming beq->dj,eq_of_beq_eq_true->ez
open Option renaming bind_eq_some_iff->lr,bind_some->gu,ite_none_right_eq_some->br,map_eq_some_iff->fa,map_map->qp,map_some->gr
open Option.some renaming inj->nh,injEq->eu
open Prod.mk renaming injEq->gb
namespace Go.E
open Go
theorem q75 {X:Cx} {n:Nat} {s s':S} {Γ0 Γ:G} {a:Act} {w:World} (g1:GLe Γ0 Γ) (g3:Γ.gl=X.gl) (c:AJ Γ w s) (hs:Fl Γ s a.tmps) (hn:a.tmps.size=n) (hf:a.defers=[]) (xo:AOk s.A) (hA:s'.A=s.A) (yt:Fb s s'.loc) (ze:FA (Bv s'.loc) (Cu s'.tk) s'.loc=true) (hg:IB s'.loc s.A s.loc)
  (htk:tkW s s'.tk) (xx:HY (Bv s'.loc) (Cu s'.tk) s s'.env):GLe Γ0 (Γ.part (Bv s'.loc) (Cu s'.tk))/\(Γ.part (Bv s'.loc) (Cu s'.tk)).gl=X.gl/\AJ (Γ.part (Bv s'.loc) (Cu s'.tk)) w s'/\Fl (Γ.part (Bv s'.loc) (Cu s'.tk)) s' a.tmps/\a.tmps.size=n/\a.defers=[]/\AOk s'.A:=by
 have sub:Sub Γ (Γ.part (Bv s'.loc) (Cu s'.tk)) (Bv s'.loc) (Cu s'.tk):=
  ⟨rfl,rfl,rfl,rfl,rfl,fun _=>rfl,fun n h=>by simp[uo,h],fun t h=>by simp[uo,h],fun _ _ _ _ _=>rfl⟩
 refine⟨⟨g1.H,g1.Z,g1.ZH,g1.g,g1.gl,g1.oo,g1.σ,g1.gn⟩,g3,c.sub sub rfl (fun n h=>by simp[uo,h]) hA xo yt ze hg (fun b o sz h=>⟨o,h,fun _ h=>h⟩) (fun t L h=>?_) (fun t h=>?_),fun i=>?_,hn,hf,by rw[hA];exact xo⟩
 ·unfold S.live Dt at h;cases hl:look s'.tk t with
  |none=>simp[hl]at h|some x=>
   cases x with
   |none=>simp[hl]at h|some M=>
    simp[hl]at h;subst h;have yp:s.live t=some M:=dY htk hl;obtain⟨x,a1,a2⟩:=c.tok t M yp;exact⟨x,by simp[uo,Cu,hl,a1],fun b pos sz hx=>a2 b pos sz hx⟩
 ·cases hh:Cu s'.tk t with|true=>exact hh|false=>simp[uo,hh]at h
 ·cases hl:look s'.env i with
  |none=>simp[S.get,hl,AE]|some x=>
   obtain⟨e1,e2,e3⟩:=Xy xx hl;have yq:s'.get i=x:=by simp[S.get,hl]
   rw[yq];by_cases hx:x= .any;{subst hx;trivial}
   ·have hr:=hs i;have e3:=e3.resolve_left hx;refine AE.sub sub e2 ?_;cases hsi:s.get i with
    |any=>
     rw[hsi]at e1;cases x <;> simp[V.BQ,CF]at e1 hx
    |tup us=>
     rw[hsi]at e1 hr;cases x <;> simp[V.BQ,CF]at e1 hx;subst e1;exact hr
    |_=>
     rw[hsi]at e1 hr e3;have hpl:AA Γ none [] _ (a.tmps.getD i undef).cells.toList/\_:=hr;obtain⟨r1,r2⟩:=AA.BQ x _ e1 hpl.1;have hxp:=V.Rv r1 hx;exact(Bt hxp).2 ⟨r1,by rw[e3];exact hpl.2⟩
theorem q8q {X:Cx} {n:Nat} {s s':S} {t j:Nat} {τ:Ty} {x:V} {cc:C} (z5d:s.get t= .ptr (.l j) [] τ) (wy:s.obj (.l j)=some (.box x)) (hcl:CF x=some cc) (hτ:x.ty=τ) (hj:Bv s'.loc j=false)
  (hA:s'.A=s.A) (yt:Fb s s'.loc) (ze:FA (Bv s'.loc) (Cu s'.tk) s'.loc=true) (hg:IB s'.loc s.A s.loc)
  (htk:tkW s s'.tk) (xx:HY (Bv s'.loc) (Cu s'.tk) s s'.env):Dd X n s (s'.set (some t) (.wm τ cc)):=by
 rintro Γ0 a w ⟨Γ,g1,g3,c,hs,hn,hf,xo⟩;obtain⟨p1,p2,p3,p4,p5,p6,p7⟩:=q75 (X:=X) (n:=n) (s':=s') g1 g3 c hs hn hf xo hA yt ze hg htk xx;have hst:=hs t;rw[z5d]at hst;obtain⟨b,τ0,off,e1,i2,hv⟩:=GD hst;obtain⟨b2,cells,T,i1,e2,e3,e4,e5,e6,e7,e8⟩:=c.own e1 wy;obtain⟨fr0,e4,xk⟩:=e4;rw[e1]at i1;cases i1;simp only[Ty.walk,eu,gb]at i2;obtain⟨rfl,_⟩:=i2;have hdl:∀k o,s'.obj k=some o->s.Br k=true->o.EV=true:=by
  intro k o ho hd;unfold jo CR at ho;cases hl:AK s'.loc k with
  |some o1=>
   rw[hl]at ho;cases ho;obtain⟨o0,h1,h2⟩:=Ue yt hl;rw[Ea h1]at hd;exact O.nG h2 hd
  |none=>
   cases k with
   |l n=>rw[hl]at ho;cases ho
   |g k=>
    have:=VE hA hg hl;unfold S.Br at hd;rw[<-this]at hd;have h2:jo s' (.g k)=some o:=by unfold jo CR;exact ho
    rw[h2]at hd;exact hd
 have hno:∀k τ o,(Γ.part (Bv s'.loc) (Cu s'.tk)).ι k=some (b,τ)->s'.obj k=some o->o.EV=true:=by
  intro k τ' o hk hko;have hk':Γ.ι k=some (b,τ')/\k≠.l j:=by
   cases k with
   |g k=>exact⟨hk,by simp⟩|l m=>
    simp only[uo]at hk;split at hk;{rename_i hm;refine⟨hk,fun e=>?_⟩;cases e;rw[hj]at hm;cases hm};{cases hk}
  rcases c.inj k (.l j) b _ _ hk'.1 e1 with e|⟨e|e,_⟩;{exact absurd e hk'.2};{exact hdl k o hko e};{rw[Ea wy]at e;cases e}
 obtain⟨q1,q2,q3⟩:=p3.freeze e4 e2 hno;have hrc:AH Γ.H x.ty (chunk cells.toList 0 x.ty.size) cc:=KU _ e6 hcl;refine⟨_,⟨Hp.le_trans p1.H q3,p1.Z,fun b' hb'=>?_,p1.g,p1.gl,p1.oo,p1.σ,p1.gn⟩,p2,Pf q1 _ _,fun i=>?_,p5,p6,p7⟩;{refine(Eg _ _ fun e=>?_).trans (p1.ZH b' hb');subst e;exact hb' (by rw[<-g1.Z];exact e3)};{rw[Jl];split;{rename_i e;cases e;rw[hv];refine MS (l:=cells.toList) (DD _ _ _) (by rw[<-hτ];simpa using e5) ?_;rw[<-hτ];exact hrc.mono q3};{exact(p4 i).Bd q2}}
theorem C.q3z:∀(cs:List C) (n:Nat),cs.length=n->cs=(gq n).map fun i=>cs.getD i .nil:=by intro cs n h;subst h;refine List.ext_getElem (by simp) fun i h1 h2=>?_;simp[cq h1]
theorem C.Sm {sz:Nat} {os:List Nat} {fs:List Ty} {c:C} (h:C.wf (.struct sz os fs) c): .agg ((gq fs.length).map c.get)=c:=by simp only[C.wf]at h;obtain⟨h1,h2⟩:=h;have hl:=C.zC h2;rw[h1];congr 1;rw[<-hl];exact(C.q3z c.elems _ rfl).symm
section
open Go Go.ChangeShapes Go.WideShapes
def Gk (w:World):Hp:=fun b=>match w.heap[b]? with|some (.cells c _ _)=>some c.toList|_=>none
theorem Yj {w:World} {a:Addr} {v:Value} (h:w.cell? a=some v):∃l,Gk w a.block=some l/\l[a.off]? =some v/\a.spot=none:=by unfold lj at h;unfold Gk;split at h;{rename_i c _ _ hc;split at h;{cases h};{rename_i hs;refine⟨c.toList,by simp[hc],by simpa using h,?_⟩;cases hh:a.spot <;> simp_all}};{cases h}
mutual
def Ty.dat:Ty->Bool
 | .int _| .bool| .str=>true| .slice _ e=>e.dat&&decide (0<e.size)| .arr _ e=>e.dat&&decide (0<e.size)| .struct sz os fs=>Ty.Ps fs&&decide (os.length=fs.length)&&(gq sz).all fun i=>(gq fs.length).any fun j=>match os[j]?,fs[j]? with|some o,some f=>decide (o<=i)&&decide (i<o+f.size)|_,_=>false
 |_=>false
def Ty.Ps:List Ty->Bool
 | []=>true|f::fs=>f.dat&&Ty.Ps fs
end
theorem iW:∀{fs:List Ty} {i:Nat} {f:Ty},Ty.Ps fs=true->fs[i]? =some f->f.dat=true
 | [],_,_,_,h=>by simp at h
 |g::fs,0,f,hd,h=>by simp[Ty.Ps]at hd h;rw[<-h];exact hd.1
 |g::fs,i+1,f,hd,h=>by simp[Ty.Ps]at hd;exact iW hd.2 (by simpa using h)
theorem OG {α β:Type} {f:α->Option β}:∀{l:List α} {r:List β},l.mapM f=some r->∀i:Nat,l[i]?.bind f=r[i]?
 | [],r,h,i=>by simp at h;subst h;simp
 |x::l,r,h,i=>by
  rw[sk]at h;cases hx:f x with
  |none=>simp[hx]at h|some y=>
   cases hl:l.mapM f with
   |none=>simp[hx,hl]at h|some ys=>
    simp[hx,hl]at h;subst h;cases i with
    |zero=>simp[hx]|succ i=>simpa using OG hl i
theorem RC {α β:Type} {f:α->Option β}:∀{l:List α} {r:List β},l.mapM f=some r->r.length=l.length
 | [],r,h=>by simp at h;subst h;rfl
 |x::l,r,h=>by
  rw[sk]at h;cases hx:f x with
  |none=>simp[hx]at h|some y=>
   cases hl:l.mapM f with
   |none=>simp[hx,hl]at h|some ys=>
    simp[hx,hl]at h;subst h;simp[RC hl]
theorem hC {w:World} {base:Nat} {a:Addr} {n:Nat} {cs:List Value} (h:w.cells? base a n=some cs) (hn:0<n):
  ∃l,Gk w a.block=some l/\a.spot=none/\a.off+n<=l.length/\cs=chunk l a.off n:=by
 unfold World.cells? at h;split at h
 ·have hl:=RC h;simp at hl;have hg:=OG h;have h0:=hg 0;cases hc:cs[0]? with
  |none=>simp at hc;subst hc;simp at hl;omega|some v0=>
   rw[hc]at h0;simp[iq hn]at h0;have e0:a.add 0=a:=by simp[na]
   rw[e0]at h0;obtain⟨l,h1,h2,h3⟩:=Yj h0;refine⟨l,h1,h3,?_,?_⟩
   ·have z34:=hg (n-1);cases hc':cs[n-1]? with
    |none=>simp at hc';omega|some v1=>
     rw[hc']at z34;simp[iq (show n-1<n by omega)]at z34;obtain⟨l',g1,g2,_⟩:=Yj z34;have eb:(a.add (n-1)).block=a.block:=by unfold na;split <;> rfl
     have eo:(a.add (n-1)).off=a.off+(n-1):=by unfold na;split <;> simp_all
     rw[eb,h1]at g1;cases g1;rw[eo]at g2;have:=(cm.1 g2).1;omega
   ·apply List.ext_getElem?;intro i;by_cases hi:i<n
    ·have:=hg i;simp[iq hi]at this;cases hc':cs[i]? with
     |none=>simp at hc';omega|some v1=>
      rw[hc']at this;obtain⟨l',g1,g2,_⟩:=Yj this;have eb:(a.add i).block=a.block:=by unfold na;split <;> rfl
      have eo:(a.add i).off=a.off+i:=by unfold na;split <;> simp_all
      rw[eb,h1]at g1;cases g1;rw[eo]at g2;simp[chunk,fh,hi,g2]
    ·rw[List.getElem?_eq_none (by omega)];simp[chunk,fh,hi]
 ·cases h
theorem PT {a b:List Nat} (h:(a++b).all (·<=reachBytes)=true):a.all (·<=reachBytes)=true/\b.all (·<=reachBytes)=true:=by simpa[List.all_append]using h
theorem eR {H:Type} {P:Program} {e:TypeId}:∀{l:List (DataW H)} {i:Nat} {d:DataW H},l[i]? =some d->(pe P e l).all (·<=reachBytes)=true->(d.weights P e).all (·<=reachBytes)=true
 | [],i,d,h,_=>by simp at h
 |x::l,0,d,h,hw=>by simp at h;subst h;simp only[pe]at hw;exact(PT hw).1
 |x::l,i+1,d,h,hw=>by simp only[pe]at hw;exact eR (by simpa using h) (PT hw).2
theorem eS {H:Type} {P:Program}:∀{ts:List TypeId} {l:List (DataW H)} {i:Nat} {t:TypeId} {d:DataW H},ts[i]? =some t->l[i]? =some d->(lg P ts l).all (·<=reachBytes)=true->(d.weights P t).all (·<=reachBytes)=true
 | [],_,i,t,d,h,_,_=>by simp at h
 |_::_,[],i,t,d,_,h,_=>by simp at h
 |t::ts,x::l,0,t',d,ht,h,hw=>by simp at ht h;subst ht;subst h;simp only[lg]at hw;exact(PT hw).1
 |t::ts,x::l,i+1,t',d,ht,h,hw=>by simp only[lg]at hw;exact eS (by simpa using ht) (by simpa using h) (PT hw).2
theorem sT {vs:List Value} (h:∀i:Nat,i<vs.length->∃o m,o<=i/\i<o+m/\DR (chunk vs o m)):DR vs:=by intro v hv;obtain⟨i,hi,rfl⟩:=List.getElem_of_mem hv;obtain⟨o,m,h1,h2,h3⟩:=h i hi;refine h3 _ ?_;refine fk (i:=i-o) ?_;simp only[chunk,fh,List.getElem?_drop];rw[if_pos (by omega),show o+(i-o)=i by omega,cq hi]
mutual
def cOf {H:Type}:DataW H->C
 | .lit (.bool b)=>.bool b| .lit (.int _ n)=>.int n| .lit (.string l)=>.str l| .nil=>.slice []| .slice es _=>.slice (Ir es)| .agg ps=>.agg (Ir ps)|_=>.nil
def Ir {H:Type}:List (DataW H)->List C
 | []=>[]|d::ds=>cOf d::Ir ds
end
theorem TJ {H:Type}:∀{ds:List (DataW H)} {i:Nat},(Ir ds)[i]? =(ds[i]?).map cOf
 | [],i=>by simp[Ir]
 |d::ds,0=>by simp[Ir]
 |d::ds,i+1=>by simp[Ir,TJ]
theorem TK {H:Type}:∀{ds:List (DataW H)},(Ir ds).length=ds.length
 | []=>rfl|d::ds=>by simp[Ir,TK]
section
variable {H:Type} {enc:TypeId × Value->H} {P:Program} {w:World}
theorem SL (hP:Al P=true) {base:Nat} {held:Bool} {sp:Nat->Bool} (hsp:∀b,sp b=true):∀(fuel f:Nat) {t:TypeId} {cs:List Value} {d:DataW H} {ps:List MemPlace},t<P.types.size->(tyF P f t).dat=true->
  ke enc P w base sp held fuel t cs=some (d,ps)->(d.weights P t).all (·<=reachBytes)=true->AH (Gk w) (tyF P f t) cs (cOf d)
 |0,f,t,cs,d,ps,_,_,h,_=>by simp[ke]at h
 |fuel+1,0,t,cs,d,ps,_,hf,h,_=>by simp[tyF,Ty.dat]at hf
 |fuel+1,f+1,t,cs,d,ps,ht,hf,h,hw=>by
  have hok:=IX hP ht;unfold okT at hok;unfold tyF at hf ⊢;rw[if_pos ht]at hf ⊢;cases hu:P.underlying t with
  |none=>simp[hu,Ty.dat]at hf|some desc=>
   simp only[hu]at hf hok ⊢;cases desc with
   |bool=>
    unfold ke at h;simp only[hu]at h;split at h <;> simp_all;rw[<-h.1];simp[AH,cOf]
   |int k=>
    unfold ke at h;simp only[hu]at h;split at h <;> simp_all;obtain⟨⟨rfl,hh⟩,hd,_⟩:=h;simp[Lit.wf]at hh;rw[<-hd];simp[AH,cOf];omega
   |string=>
    unfold ke at h;simp only[hu]at h;split at h <;> simp_all;obtain⟨hh,rfl,_⟩:=h;simp[oa,reachBytes]at hw;simp only[AH,cOf];exact⟨_,rfl,by simp,by simp;omega⟩
   |slice e=>
    simp only[Ty.dat,bz,decide_eq_true_eq]at hf;simp only[bz,beq_iff_eq,decide_eq_true_eq]at hok;have hsz:(tyF P f e).size=P.cellsOf e:=DJ hP f e;unfold ke at h;simp only[hu]at h;split at h <;> try (simp_all;done)
    ·simp only[eu,gb]at h;rw[<-h.1];simp only[AH,cOf];exact⟨none,0,0,[],rfl,rfl,rfl,Nat.le_refl _,by simp[maxLen],by simp,.inl rfl⟩
    ·rename_i e' a len cap he;simp at he;subst he;split at h
     ·rename_i hc;simp only[lr,fa]at h;obtain⟨elems,he1,rest,he2,he3⟩:=h;simp only[gb]at he3;obtain⟨rfl,_⟩:=he3;simp only[oa,hu,vo,bz,decide_eq_true_eq]at hw;obtain⟨hw1,hw2⟩:=hw;obtain⟨hw2,hw3⟩:=PT hw2;have hl:=RC he1;simp at hl;have hbound:len*P.bytesOf e<=140737488355328:=by have:len*P.bytesOf e<=(elems.length+rest.length)*P.bytesOf e:=Nat.mul_le_mul_right _ (by omega);simp[reachBytes]at hw1;omega
      by_cases hz:len=0
      ·subst hz;have:elems=[]:=by cases elems <;> simp_all
       subst this;simp only[AH,cOf,List.map_nil,Ir];exact⟨some a,0,cap,[],rfl,rfl,rfl,Nat.zero_le _,hc.2.2,by simp,.inl rfl⟩
      ·have key:∀i,i<len->∃l,Gk w a.block=some l/\a.spot=none/\(a.off+i*P.cellsOf e)+P.cellsOf e<=l.length/\∀x,elems[i]? =some x->AH (Gk w) (tyF P f e) (chunk l (a.off+i*P.cellsOf e) (P.cellsOf e)) (cOf x.1):=by
        intro i hi;have hg:=OG he1 i;rw[iq hi]at hg;have hi':i<elems.length:=by omega
        rw[cq hi']at hg;simp only[gu,lr]at hg;obtain⟨cs,hc1,hc2⟩:=hg;obtain⟨l,q1,q2,q3,q4⟩:=hC hc1 (by rw[<-hsz];exact hf.2);have eb:(a.add (i*P.cellsOf e)).block=a.block:=by unfold na;split <;> rfl
        have eo:(a.add (i*P.cellsOf e)).off=a.off+i*P.cellsOf e:=by unfold na;split <;> simp_all
        have h0:a.spot=none:=by have hg0:=OG he1 0;rw[iq (by omega),cq (by omega)]at hg0;simp only[gu,lr]at hg0;obtain⟨cs0,z5E,_⟩:=hg0;obtain⟨_,_,q,_⟩:=hC z5E (by rw[<-hsz];exact hf.2);simpa[na]using q
        rw[eb]at q1;rw[eo]at q3 q4;subst q4;have hcr:=SL hP hsp fuel f hok.2 hf.1 hc2 (eR (i:=i) (by simp[dx,cq hi']) hw2);exact⟨l,q1,h0,q3,fun x hx=>by rw[cq hi']at hx;cases hx;exact hcr⟩
       obtain⟨l,hl1,hl2,_,_⟩:=key 0 (by omega);simp only[AH,cOf];refine⟨some a,len,cap,_,rfl,rfl,by simp[TK,hl],hc.2.1,hc.2.2,hbound,.inr ⟨a.block,a.off,l,?_,hl1,?_,fun i c hi=>?_⟩⟩;{cases a;simp_all}
       ·rw[hsz];obtain⟨l',q1,_,q3,_⟩:=key (len-1) (by omega);rw[hl1]at q1;cases q1;have:len*P.cellsOf e=(len-1)*P.cellsOf e+P.cellsOf e:=by rw[<-Nat.succ_mul];congr 1;omega
        omega
       ·simp only[TJ,dx,qp,fa]at hi;obtain⟨x,hx,rfl⟩:=hi;have hi':i<len:=by have:=(cm.1 hx).1;omega
        rw[hsz];obtain⟨l',q1,_,_,q4⟩:=key i hi';rw[hl1]at q1;cases q1;exact q4 x hx
     ·cases h
   |array n e=>
    simp only[Ty.dat,bz,decide_eq_true_eq]at hf;simp only[bz,beq_iff_eq,decide_eq_true_eq]at hok;have hsz:(tyF P f e).size=P.cellsOf e:=DJ hP f e;unfold ke at h;simp only[hu]at h;split at h
    ·rename_i hlen;simp only[fa]at h;obtain⟨elems,he1,he3⟩:=h;simp only[gb]at he3;obtain⟨rfl,_⟩:=he3;simp only[oa,hu]at hw;have hl:=RC he1;simp at hl;have key:∀i x,elems[i]? =some x->AH (Gk w) (tyF P f e) (chunk cs (i*P.cellsOf e) (P.cellsOf e)) (cOf x.1):=by
      intro i x hx;have hg:=OG he1 i;have hi:i<n:=by have:=(cm.1 hx).1;omega
      rw[iq hi,hx]at hg;simp only[gu]at hg;exact SL hP hsp fuel f hok.2 hf.1 hg (eR (i:=i) (by simp[dx,hx]) hw)
     simp only[AH,cOf];refine⟨_,rfl,by simp[TK,hl],by rw[hsz,hlen,hok.1],sT fun i hi=>?_,fun i c hi=>?_⟩
     ·have hi2:i / P.cellsOf e<n:=by rw[Nat.div_lt_iff_lt_mul (by omega)];omega
      have hc:=key (i / P.cellsOf e) _ (cq (by omega));refine⟨_,_,?_,?_,hc.one⟩;{exact Nat.div_mul_le_self _ _};{have:=Nat.lt_div_mul_add (a:=i) (b:=P.cellsOf e) (by omega);omega}
     ·simp only[TJ,dx,qp,fa]at hi;obtain⟨x,hx,rfl⟩:=hi;rw[hsz];exact key i x hx
    ·cases h
   |struct fs=>
    simp only[Ty.dat,bz,decide_eq_true_eq,eh,List.any_eq_true,gw]at hf;simp only[eh,bz,decide_eq_true_eq]at hok;obtain⟨⟨hf1,hf2⟩,hf3⟩:=hf;unfold ke at h;simp only[hu]at h;split at h
    ·rename_i hlen;simp only[fa]at h;obtain⟨elems,he1,he3⟩:=h;simp only[gb]at he3;obtain⟨rfl,_⟩:=he3;simp only[oa,hu]at hw;have hl:=RC he1;have key:∀(i:Nat) g x,fs.toList[i]? =some g->elems[i]? =some x->AH (Gk w) (tyF P f g.type) (chunk cs g.offset (P.cellsOf g.type)) (cOf x.1):=by
      intro i g x hi he;have hg:=OG he1 i;rw[hi,he]at hg;simp only[gu]at hg
      exact SL hP hsp fuel f (hok g (fk hi)).1 (iW (i:=i) hf1 (by simp only[dx,hi,gr])) hg
        (eS (i:=i) (by simp only[dx,hi,gr]) (by simp only[dx,he,gr]) hw)
     simp only[AH,cOf];refine⟨_,rfl,hlen,sT fun i hi=>?_,Bj.Kx (by simp[TK,hl]) fun i F c hF hc=>?_⟩;{obtain⟨j,hj,hj2⟩:=hf3 i (by omega);split at hj2;{rename_i o F ho hF;simp at hj2;simp only[dx,fa]at ho hF;obtain⟨g,hg,rfl⟩:=ho;obtain⟨g',hg',rfl⟩:=hF;rw[hg]at hg';cases hg';have hjl:=(cm.1 hg).1;have hc:=key j g _ hg (cq (by omega));rw[DJ hP]at hj2;exact⟨_,_,hj2.1,hj2.2,hc.one⟩};{cases hj2}};{simp only[dx,TJ,qp,fa]at hF hc;obtain⟨g,hg,rfl⟩:=hF;obtain⟨x,hx,rfl⟩:=hc;refine⟨g.offset,by simp only[dx,hg,gr],?_,?_⟩;{rw[DJ hP,hlen];exact(hok g (fk hg)).2};{rw[DJ hP];exact key i g x hg hx}}
    ·cases h
   |_=>simp[Ty.dat]at hf
end
end
section
open Go Go.ChangeShapes Go.WideShapes Go.RowKit
def cW (P:Program):Bool:=(gq P.types.size).all fun t=>match P.underlying t with|some (.slice e)=>decide (0<P.cellsOf e)|_=>true
def Mq (w:World) (gl:Nat->Option (Ty × C)):Prop:=∀g τ c,gl g=some (τ,c)->∃l,Gk w g=some l/\τ.size<=l.length/\AH (Gk w) τ (chunk l 0 τ.size) c
def Qe (P:Program):List (String × DataW Unit)->Nat->Option (Ty × C)
 | [],_=>none|(n,d)::r,g=>if P.globalNamed n=some g then(match(P.globals[g]?).map (·.type)with|some t=>some (ty P t,cOf d)|none=>none)else Qe P r g
def UQ (P:Program) (l:List (String × DataW Unit)):Bool:=l.all fun x=>match P.globalNamed x.1 with
 |some g=>match(P.globals[g]?).map (·.type)with|some t=>decide (t<P.types.size)&&(ty P t).dat&&(x.2.weights P t).all (·<=reachBytes)|none=>false
 |none=>false
theorem mR {P:Program} (hP:Al P=true) {w:World}:∀{l:List (String × DataW Unit)} {ps:List MemPlace},UQ P l=true->DataW.LaidVars P w l ps->Mq w (Qe P l)
 | [],_,_,_=>fun g τ c h=>by simp[Qe]at h
 |(n,d)::r,ps,hk,h=>by
  obtain⟨g0,t,cs,fuel,p,q,hg,ht,hv,hd,hr,_⟩:=h;simp only[UQ,vo,bz,hg,ht,decide_eq_true_eq]at hk;obtain⟨⟨⟨k1,k2⟩,k3⟩,k4⟩:=hk;intro g τ c h;simp only[Qe]at h;split at h
  ·rename_i e;rw[hg]at e;cases e;rw[ht]at h;simp at h;obtain⟨rfl,rfl⟩:=h;have xd:=SL hP (fun _=>rfl) fuel 12 k1 k2 hd k3;simp only[World.var?,hg,gu]at hv;split at hv
   ·rename_i c T fr hc;cases hv;have hl:=xd.length;refine⟨cs.toList,by simp[Gk,hc],by show(tyF P 12 t).size<=_;omega,?_⟩;have:chunk cs.toList 0 (ty P t).size=cs.toList:=by show chunk cs.toList 0 (tyF P 12 t).size=_;rw[<-hl];exact Le _
    rw[this];exact xd
   ·cases hv
  ·exact mR hP k4 hr g τ c h
theorem q12 {P:Program} (hP:Al P=true) {w:World} {l:List (String × DataW Unit)} (hk:UQ P l=true) (hn:(l.all fun x=>x.2.handleName?.isNone)=true) (h:laidMetH P l w):Mq w (Qe P l):=by rw[MakeChecks.laidMetH_plain _ _ _ hn]at h;obtain⟨ps,h1,_⟩:=h;exact mR hP hk h1
def G.start (w:World) (gl:Nat->Option (Ty × C)):G:=
 {H:=Gk w,Z:=fun b=>w.heap[b]?,ι:=fun _=>none,τ:=fun _=>none,κ:=fun _=>none,gl:=gl,oo:=oof w,σ:=fun _=>none}
theorem rR (n:Nat):∀(ts:List Ty) (cs:List C),Fj n (jr V.d ts cs)=[]
 | [],_=>by simp[Fj]
 |_::_,[]=>by simp[Fj]
 |t::ts,c::cs=>by simp[Fj,V.Dc,rR (n+1) ts cs]
theorem wX (n:Nat):∀(ts:List Ty) (cs:List C),DB n (jr V.d ts cs)=jr V.d ts cs
 | [],_=>by simp[DB]
 |_::_,[]=>by simp[DB]
 |t::ts,c::cs=>by simp[DB,V.slot,wX (n+1) ts cs]
theorem X5 {w:World} {gl:Nat->Option (Ty × C)} (h:Mq w gl) (ts:List Ty) (cs:List C):AJ (G.start w gl) w (S.start (jr V.d ts cs) fun _=>none):=by refine⟨fun b l hb=>?_,fun b o hb=>hb,fun b o sz hb=>by simp[G.start]at hb,fun k o hk=>?_,fun k hk=>absurd rfl hk,fun k k' b τ τ' hk=>by simp[G.start]at hk,fun t L ht=>?_,fun t ht=>absurd rfl ht,h,rfl,fun b sz hb=>by simp[G.start]at hb⟩;{simp only[G.start,Gk]at hb;split at hb;{rename_i c T fr hc;cases hb;exact⟨c,T,fr,[],hc,by simp⟩};{cases hb}};{cases k <;> simp[S.start,jo,CR,AK]at hk};{simp[S.start,S.live,rR,Dt,look]at ht}
theorem eA {H:Type} {enc:TypeId × Value->H} {P:Program} {w:World} {base:Nat} {sp:Nat->Bool} {held:Bool}:∀{ts:List TypeId} {vs:List Value} {ds:List (DataW H)} {ps:List MemPlace},
  kb enc P w base sp held ts vs ds ps->vs.length=ts.length/\ds.length=ts.length
 | [],vs,ds,ps,h=>by obtain⟨rfl,rfl,rfl⟩:=trodAll_nil h;simp
 |t::ts,vs,ds,ps,h=>by obtain⟨v,vs,d,ds,p,q,rfl,rfl,rfl,h1,h2⟩:=trodAll_cons h;have:=eA h2;simp[this]
theorem yD {H:Type} {enc:TypeId × Value->H} {P:Program} {w:World} {base:Nat} {sp:Nat->Bool} {held:Bool}:∀{ts:List TypeId} {vs:List Value} {ds:List (DataW H)} {ps:List MemPlace} {i:Nat} {t:TypeId} {v:Value} {d:DataW H},
  kb enc P w base sp held ts vs ds ps->ts[i]? =some t->vs[i]? =some v->ds[i]? =some d->∃p,DataW.Trod enc P w base sp held t v d p
 | [],vs,ds,ps,i,t,v,d,h,ht,_,_=>by simp at ht
 |t::ts,vs,ds,ps,i,t',v',d',h,ht,hv,hd=>by
  obtain⟨v,vs,d,ds,p,q,rfl,rfl,rfl,h1,h2⟩:=trodAll_cons h;cases i with
  |zero=>simp at ht hv hd;subst ht;subst hv;subst hd;exact⟨p,h1⟩|succ i=>exact yD h2 (by simpa using ht) (by simpa using hv) (by simpa using hd)
theorem yE {H:Type} {enc:TypeId × Value->H} {P:Program} (hl:laidOutB P=true) (hm:mapsRowed P=true) (hz:cW P=true) {w w':World} (hh:∀b,b<w.heap.size->w'.heap[b]? =w.heap[b]?) {sp:Nat->Bool}:
  ∀{ts:List TypeId} {vs:List Value} {ds:List (DataW H)} {ps:List MemPlace},(∀t∈ts,t<P.types.size)->kb enc P w 0 (fun _=>true) true ts vs ds ps->(∀p∈ps,sp p.block=true)->kb enc P w' 0 sp true ts vs ds ps
 | [],vs,ds,ps,_,h,_=>by obtain⟨rfl,rfl,rfl⟩:=trodAll_nil h;exact trodAll_mk0
 |t::ts,vs,ds,ps,hts,h,hs=>by
  have hlt:=qy h;obtain⟨v,vs,d,ds,p,q,rfl,rfl,rfl,⟨n,h1⟩,h2⟩:=trodAll_cons h
  refine⟨p,q,⟨n,DataW.trod_stays (kids_rows hl hm) (fun{t e} ht hu=>?_) (fun h=>by cases h) (hts t (by simp)) h1 (fun x hx=>?_) (fun x hx=>hs x (by simp[hx]))⟩,
   yE hl hm hz hh (fun t ht=>hts t (by simp[ht])) h2 (fun x hx=>hs x (by simp[hx])),rfl⟩
  ·have:=eh.1 hz t (gw.2 ht);simp only[hu]at this;simpa using this
  ·have:=hlt x (by simp;exact .inl hx);cases x with|cell b off=>simp only[vp,lj];rw[hh b this]|map b=>simp only[vp];rw[hh b this]
theorem q5h {P:Program} {W:World} {base:Nat} {t:TypeId} {v:Value} (hd:(ty P t).dat=true) (h:sg P W .any base t v):Ba v=(ty P t).isAgg:=by
 unfold ty tyF at hd ⊢;split at hd
 ·rename_i ht;rw[if_pos ht];unfold sg at h;cases hu:P.underlying t with
  |none=>simp[hu,Ty.dat]at hd|some d=>
   rw[hu]at h;cases d <;> simp only[hu,Ty.dat,Ty.isAgg,fj]at hd h ⊢
   case struct=>obtain⟨cs,rfl,_⟩:=h;rfl
   case array=>obtain⟨cs,rfl,_⟩:=h;rfl
   all_goals
    unfold Cell.okWide at h;rw[hu]at h;cases v <;> simp[Cell.ok,hu]at h <;> rfl
 ·simp[Ty.dat]at hd
section
variable {H:Type} {enc:TypeId × Value->H} {P:Program}
theorem q3r (hP:Al P=true) (hl:laidOutB P=true) (hm:mapsRowed P=true) (hz:cW P=true) {f:FuncId} {fn:Func} {s:ChangeSpec} {W:World} {base:Nat} {args:Array Value} {ds gs:List (DataW H)} {before:List MemPlace} {apart fresh handsOn again:Bool}
  (hp:fn.params.toList.all (fun t=>decide (t<P.types.size)&&(ty P t).dat)=true) {tb:TypeId} (hr:fn.resultTypes=#[tb]) (hb:P.underlying tb=some .bool) (z35:s.vars=[])
  (zt:∀(j:Nat) t v,fn.params[j]? =some t->args[j]? =some v->sg P W .any base t v)
  (hW:DataW.Whole enc P fn.params.toList s.vars apart W args.toList ds gs before)
  (hwt:(lg P fn.params.toList ds).all (·<=reachBytes)=true) {gl:Nat->Option (Ty × C)} (hgl:Mq W gl)
  (hfr:(s.fn H (ds++gs)).results=[.lit (.bool true)]) (hfa:(s.fn H (ds++gs)).args=ds) (hfv:(s.fn H (ds++gs)).vars=[])
  (law:Bu ⟨P,gl⟩ f (jr V.d (fn.params.toList.map (ty P)) (ds.map cOf)) (fun _=>none) (.d .bool (.bool true)) []):
  Calls P f args W fun e W'=>∃v,e= .returned v/\s.post enc P fn apart fresh handsOn again W args v W':=by
 have hW':=hW;obtain⟨p,q,hA,hV,rfl,hfz,hnd⟩:=hW;rw[z35]at hV;obtain⟨rfl,rfl⟩:=trodVars_none hV;have z4D:=eA hA;have z4W:∀t∈fn.params.toList,t<P.types.size/\(ty P t).dat=true:=by intro t ht;have:=eh.1 hp t ht;simpa using this
 refine(law (fun _=>none) (G.start W gl) W args (fun _ _ h=>h) rfl ⟨X5 hgl _ _,fun _ _ h=>nomatch h⟩ ?_ ?_).mono ?_;{simp only[List.length_zipWith,List.length_map,z4D.2];have:=z4D.1;simp at this ⊢;omega}
 ·intro i x u hx hu;rw[wX,List.getElem?_zipWith]at hx;split at hx
  ·rename_i τ c hτ hc;cases hx;simp only[dx,fa]at hτ hc;obtain⟨t,ht,rfl⟩:=hτ;obtain⟨d,hd,rfl⟩:=hc;have hu':args.toList[i]? =some u:=by simpa using hu
   obtain⟨ps,fuel,htr⟩:=yD hA ht hu' hd;have hm:=z4W t (fk ht);have hv:=zt i t u (by simpa using ht) hu;refine(Bt rfl).2 ⟨?_,?_⟩;{simp only[AA];exact SL hP (fun _=>rfl) fuel 12 hm.1 hm.2 htr (eS ht hd hwt)};{simp only[V.ty];exact q5h hm.2 hv}
  ·cases hx
 ·rintro e W' ⟨u,Γ',rfl,gle,c',hu⟩;have hu':u= .bool true:=(FM hu).1;subst hu';refine⟨_,rfl,?_⟩;have hold:∀b,b<W.heap.size->W'.heap[b]? =W.heap[b]?:=by
   intro b hb;have:Γ'.Z b=some W.heap[b]:=by rw[gle.Z];simp[G.start,hb]
   rw[c'.hZ b _ this];simp[hb]
  have hoo:oof W'=oof W:=by rw[c'.hoo,gle.oo];rfl
  have hpl:∀t∈fn.params.toList,t<P.types.size:=fun t ht=>(z4W t ht).1;have z4X:∀x∈p,x.block<W.heap.size:=qy hA;have zn:∀(b:Nat) (sp:Nat->Bool) (hd:Bool),kb enc P W' b sp hd fn.resultTypes.toList ((Value.bool true).resultList fn.resultTypes.size) [.lit (.bool true)] []:=by intro b sp hd;rw[hr];exact trodAll_mk1 (shut_bool hb _)
  have z4E:∀sp:Nat->Bool,(∀x∈p,sp x.block=true)->kb enc P W' 0 sp true fn.params.toList args.toList ds p:=fun sp hs=>yE hl hm hz hold hpl hA hs;refine⟨ds,[],p++[],[],p,[],hW',?_,?_,?_,?_,fun _=>⟨?_,[.lit (.bool true)]++ds,[],([]++p)++[],⟨[]++p,[],trodAll_append (z4E _ (fun _ _=>rfl)) (zn _ _ _),by rw[z35];rfl,rfl,?_,?_⟩,?_⟩⟩;{rw[hfr];exact zn _ _ _};{rw[hfa];exact z4E _ (fun x hx=>by simpa using z4X x hx)};{rw[hfv,z35];rfl};{refine⟨congrArg Prod.fst hoo,congrArg Prod.snd hoo,fun i hi=>?_⟩;rw[hold i hi];cases hc:W.heap[i]? with|none=>rfl|some o=>cases o <;> simp}
  ·intro j t r hj hrr;rw[hr]at hj hrr;cases j with
   |zero=>
    simp at hj;subst hj;have:r= .bool true:=by simpa[Value.resultList]using hrr.symm
    subst this;exact okWide_bool_mk hb _
   |succ j=>simp at hj
  ·intro b off hx;have hx':MemPlace.cell b off∈p:=by simpa using hx
   have:=hfz b off (by simpa using hx');unfold World.frozen? at this ⊢;rw[hold b (z4X _ hx')];exact this
  ·intro ha;simpa using hnd ha
  ·intro x hx _;simpa using hx
end
end
def Te {α:Type}:List (Nat × α)->Nat->List (Nat × α)
 | [],_=>[]|(j,x)::l,i=>if j=i then Te l i else(j,x)::Te l i
def Td {α:Type}:List (Key × α)->Key->List (Key × α)
 | [],_=>[]|(j,x)::l,i=>if j=i then Td l i else(j,x)::Td l i
def S.less (s:S) (t j:Nat):S:=⟨Te s.env t,Td s.loc (.l j),s.A,s.tk⟩
attribute [go_sem] Te Td S.less
section
section
variable {X:Cx} {md:List (Nat × Nat)} {ops:Array Oper} {Φ:S->Prop} {rest:List Oper} {ts:List Nat} {o:Oper} {base s:S}
end
end
def Zf:Nat->List Nat->Bool
 |_,[]=>false|i,j::l=>if i=j then true else Zf i l
def Yo {α:Type}:List (Nat × α)->List Nat->List (Nat × α)
 | [],_=>[]|(j,x)::l,ks=>if Zf j ks then(j,x)::Yo l ks else Yo l ks
attribute [go_sem] Zf Yo
mutual
def C.beq:C->C->Bool
 | .int a,.int b=>decide (a=b)| .bool a,.bool b=>a==b| .str a,.str b=>decide (a=b)| .agg a,.agg b=>C.GK a b| .slice a,.slice b=>C.GK a b| .nil,.nil=>true|_,_=>false
def C.GK:List C->List C->Bool
 | [],[]=>true|x::xs,y::ys=>C.beq x y&&C.GK xs ys|_,_=>false
end
mutual
theorem C.beq_iff:∀(a b:C),C.beq a b=true↔a=b
 | .int a,b=>by cases b <;> simp[C.beq]
 | .bool a,b=>by cases b <;> simp[C.beq]
 | .str a,b=>by cases b <;> simp[C.beq]
 | .agg a,b=>by cases b <;> simp[C.beq,C.NC a]
 | .slice a,b=>by cases b <;> simp[C.beq,C.NC a]
 | .nil,b=>by cases b <;> simp[C.beq]
theorem C.NC:∀(a b:List C),C.GK a b=true↔a=b
 | [],b=>by cases b <;> simp[C.GK]
 |x::xs,[]=>by simp[C.GK]
 |x::xs,y::ys=>by simp[C.GK,C.beq_iff x,C.NC xs]
end
instance:DecidableEq C:=fun a b=>decidable_of_iff _ (C.beq_iff a b)
theorem C.Tp (a b:C):C.eqb a b=C.beq a b:=by rw[Bool.eq_iff_iff,C.Fv,C.beq_iff]
def V.isAny:V->Bool
 | .any=>true|_=>false
theorem V.Nv {x:V} (h:x.isAny=false):x≠.any:=by intro e;subst e;cases h
instance (k:IntKind) (x:V):Decidable (x.isInt k):=by unfold V.isInt;split <;> infer_instance
instance (x:V):Decidable x.isBool:=by unfold V.isBool;split <;> infer_instance
instance (x:V):Decidable x.isStr:=by unfold V.isStr;split <;> infer_instance
instance (x:V):Decidable x.Ew:=by unfold V.Ew;split <;> infer_instance
instance (τ:Ty) (x:V):Decidable (x.DK τ):=by unfold V.DK;split <;> infer_instance
def S.wA (s:S) (A:Key->Option O):S:={s with A:=A}
def leA (A A':Key->Option O):Prop:=∀k o,A k=some o->A' k=some o
theorem DT {s:S} {A':Key->Option O} (hA:leA s.A A') {k:Key} {o:O} (h:s.obj k=some o):(s.wA A').obj k=some o:=by
 simp only[jo,CR,S.wA]at h ⊢;cases hl:AK s.loc k with
 |some x=>rw[hl]at h;exact h|none=>
  rw[hl]at h;cases k with
  |l n=>cases h
  |g k=>exact hA _ _ h
theorem Jy (s:S) (A':Key->Option O) (n:Nat):(s.wA A').obj (.l n)=s.obj (.l n):=rfl
theorem Eo (gl:Nat->Option (Ty × C)) (s:S) (A':Key->Option O):Ae gl (s.wA A')=Ae gl s:=by funext y;cases y <;> rfl
theorem eH {s:S} {A':Key->Option O} (hA:leA s.A A'):leA s.up (s.wA A').up:=by intro k o h;simp only[S.up,fa]at h ⊢;obtain⟨x,h1,h2⟩:=h;exact⟨x,DT hA h1,h2⟩
theorem q3E (s:S) (A':Key->Option O) (t:Nat):(s.wA A').live t=s.live t:=rfl
theorem kK {s:S} {A':Key->Option O} (hA:leA s.A A') {x:V} {r:Nat × Ty × List C} (h:EO s x=some r):EO (s.wA A') x=some r:=by
 cases x <;> simp only[EO]at h ⊢ <;> try exact h
 split at h;{rename_i y hy;rw[DT hA hy];exact h};{cases h}
def TI (τ:Ty):V->List (Nat × V)->Bool
 |_,[]=>true|x,(i,v)::rest=>(τ.child i).isSome&&decide ((CC (τ.get i) v).ty=τ.get i)&&(CC (τ.get i) v).plain&& !(x.at [i]).isAny&&TI τ (x.setAt [i] (CC (τ.get i) v)) rest
theorem gT {τ:Ty}:∀{l:List (Nat × V)} {x:V},TI τ x l=true->Ld τ x l
 | [],_,_=>trivial|(i,v)::rest,x,h=>by simp only[TI,bz,decide_eq_true_eq,jg]at h;exact⟨h.1.1.1.1,h.1.1.1.2,h.1.1.2,V.Nv h.1.2,gT h.2⟩
abbrev RI:=V × List (Key × O) × List (Nat × Option Nat)
def GV {α:Type}:List (C × α)->C->α->List (C × α)
 | [],c,v=>[(c,v)]|(k,u)::es,c,v=>if C.beq c k=true then(k,v)::es else(k,u)::GV es c v
theorem uM {α:Type} (c:C) (v:α):∀(es:List (C × α)),GV es c v=ER es c v
 | []=>rfl|(k,u)::es=>by simp only[GV,ER,C.Tp,uM c v es]
theorem q7m {P:Program} {s:S} {A':Key->Option O} (hA:leA s.A A') {src dst:TypeId} {x:V} {ys:List C} (h:strOf P s src dst x=some ys):strOf P (s.wA A') src dst x=some ys:=by
 cases hel:EO s x with
 |some r=>
  rw[<-h];unfold strOf;rw[hel,kK hA hel]
 |none=>
  unfold strOf at h ⊢;rw[hel]at h;split at h;{split at h;{rename_i h0;rw[if_pos h0];split at h;{exact h};{cases h}};{cases h}};{cases h}
theorem q7l {P:Program} {s:S} {src dst:TypeId} {x:V} {ys:List C} {K:V->Prop} (h:strOf P s src dst x=some ys):¬MR P src dst x K:=by unfold strOf at h;split at h;{rename_i ht hd;unfold MR;rw[ht,hd];exact id};{cases h}
theorem UM (A':Key->Option O):∀(σ:List (Nat × List Nat)) (s:S),EH σ (s.wA A')=(EH σ s).wA A'
 | [],_=>rfl|(t,_)::σ,s=>by simp only[EH];exact UM A' σ (s.tok t none)
theorem uK (A':Key->Option O) (d:Nat):∀(L:List (Key × O)) (s:S),Fe d L (s.wA A')=(Fe d L s).wA A'
 | [],_=>rfl|(k,o)::L,s=>by simp only[Fe,uK A' d L s];rfl
theorem uO (A':Key->Option O) (d:Nat):∀(L:List (Nat × Option Nat)) (s:S),GW d L (s.wA A')=(GW d L s).wA A'
 | [],_=>rfl|(k,o)::L,s=>by simp only[GW,uO A' d L s];rfl
theorem jO (A':Key->Option O):∀(L:List Nat) (s:S),Fs L (s.wA A')=(Fs L s).wA A'
 | [],_=>rfl|t::L,s=>by simp only[Fs,jO A' L s];rfl
theorem ax (A':Key->Option O) (tip:Bool) (s:S) (x:V):Cg tip (s.wA A') x=Cg tip s x:=rfl
theorem bP (A':Key->Option O) (tip:Bool) (s:S):∀(ys:List V),Cm tip (s.wA A') ys=Cm tip s ys
 | []=>rfl|y::ys=>by simp only[Cm,bP A' tip s ys,ax]
theorem fW (A':Key->Option O) (P:Program) (tip:Bool) (s:S):∀(Ts:List TypeId) (ys:List V),Cs P tip (s.wA A') Ts ys=Cs P tip s Ts ys
 | [],_=>rfl|_::_,[]=>rfl|T::Ts,y::ys=>by simp only[Cs,fW A' P tip s Ts ys];rfl
theorem cG (A':Key->Option O) (s:S) (tip:Bool) (ys:List V) (d:Nat) (v:V) (L:List (Key × O)):(s.wA A').ret tip ys d v L=(s.ret tip ys d v L).wA A':=by simp only[S.ret,bP,uK,jO,uO]
def Gh (s:S) (d:Nat):List (Key × O)->Bool
 | []=>true|(.g k,_)::L=>(s.obj k).isSome&&Gh s d L|(.l j,_)::L=>(s.obj (.l (rk d j))).isNone&&Gh s d L
theorem UD {s:S} {A':Key->Option O} (hA:leA s.A A') {d:Nat}:∀{L:List (Key × O)},Gh s d L=true->gOk (s.wA A') d L
 | [],_=>trivial|(.g k,_)::L,h=>by simp only[Gh,bz]at h;obtain⟨o,ho⟩:=Option.isSome_iff_exists.1 h.1;exact⟨by rw[DT hA ho];rfl,UD hA h.2⟩
 |(.l j,_)::L,h=>by simp only[Gh,bz]at h;exact⟨by rw[Jy];simpa using h.1,UD hA h.2⟩
def Ii (s:S) (d:Nat):List (Nat × Option Nat)->Bool
 | []=>true|(m,_)::l=> !s.known (rk d m)&&Ii s d l
theorem dK {s:S} {A':Key->Option O} {d:Nat}:∀{L:List (Nat × Option Nat)},Ii s d L=true->tOk (s.wA A') d L
 | [],_=>trivial|(m,_)::L,h=>by simp only[Ii,bz,jg]at h;exact⟨h.1,dK h.2⟩
def Eu (s:S):List (Key × O)->Bool
 | []=>true|(.l n,_)::l=>(s.obj (.l n)).isNone&&Eu s l|(.g _,_)::_=>false
theorem QZ {s:S} {A':Key->Option O}:∀{L:List (Key × O)},Eu s L=true->FG (s.wA A') L
 | [],_=>trivial|(.l n,_)::L,h=>by simp only[Eu,bz]at h;exact⟨by rw[Jy];simpa using h.1,QZ h.2⟩
 |(.g _,_)::_,h=>by simp[Eu]at h
def Ke (s:S):List (Nat × Option Nat)->Bool
 | []=>true|(t,_)::l=> !s.known t&&Ke s l
theorem Qa {s:S} {A':Key->Option O}:∀{L:List (Nat × Option Nat)},Ke s L=true->FH (s.wA A') L
 | [],_=>trivial|(t,_)::L,h=>by simp only[Ke,bz,jg]at h;exact⟨h.1,Qa h.2⟩
abbrev KL:=FuncId->List V->(Key->Option O)->Option (V × List (Key × O))
abbrev KM:=FuncId->List V->Option V
def Mn (X:Cx) (call:KL):Prop:=∀f xs A v L,call f xs A=some (v,L)->Bu X f xs A v L
def Mp (X:Cx) (ext:KM):Prop:=∀f xs v,ext f xs=some v->Mo X f xs v
section
def q8J (ext:KM) (o:Oper) (ρ:Operand->V):Option V:=
 match o.op with
 | .call c=>(match c.callee with| .value fo=>(match ρ fo with| .fn f []=>ext f (c.args.toList.map ρ)|_=>none)|_=>none)|_=>none
def q8I (X:Cx) (call:KL) (o:Oper) (ρ:Operand->V) (s:S):Option (V × List (Key × O)):=
 match o.op with
 | .call c=>(match c.callee with
  | .value fo=>(match ρ fo with
   | .fn f wq=>if Iu X.P f=true/\c.argTypes.toList.length=c.args.toList.length then
      call f (Cs X.P false s (Ja c.argTypes.toList wq) (EJ (c.args.toList.map ρ) wq)) s.up else none
   |_=>none)
  |_=>none)
 |_=>none
def Ei (o:Oper) (ρ:Operand->V):List V:=
 match o.op with
 | .call c=>(match c.callee with| .value fo=>(match ρ fo with| .fn _ wq=>EJ (c.args.toList.map ρ) wq|_=>[])|_=>[])|_=>[]
def Sx:List Oper->List Nat
 | []=>[]|o::l=>(match o.op with| .call c=>(match c.callee,c.args.toList with| .builtin .append,(.tmp t)::_=>[t]|_,_=>[])|_=>[])++Sx l
def RJ:Nat->List Nat->Bool
 |_,[]=>false|i,j::l=>dj i j||RJ i l
def Cl (wv:List Nat) (tbl:List (Nat × Nat)) (o:Oper) (ρ:Operand->V) (s:S):Nat:=
 match look tbl (AY o)with
 |some m=>m
 |none=>(match o.op with| .load _ x=>if RJ (AY o) wv=true then(match ρ x with| .ptr k q _=>(match s.obj k with|some (.box y)=>(match y.at q with| .ts _ _ _=>1|_=>0)|_=>0)|_=>0)else 0|_=>0)
def Yl (o:Oper):Bool:=
 match o.op with
 | .call c=>(match c.callee with| .value _=>true|_=>false)|_=>false
section
variable {X:Cx} {call:KL} {ext:KM} (hc:Mn X call) (he:Mp X ext)
include hc he
end
theorem Yf (ops:Array Oper) (s:S) (A':Key->Option O) (j:Nat):gv ops (s.wA A') j=gv ops s j:=by unfold gv;split <;> rfl
theorem Ig (s:S) (A':Key->Option O) (d:Option Nat) (v:V):(s.wA A').set d v=(s.set d v).wA A':=by cases d <;> rfl
theorem DF (s:S) (d:Option Nat) (v:V):(s.set d v).A=s.A:=by cases d <;> rfl
section
variable {X:Cx} {call:KL} {ext:KM} (hc:Mn X call) (he:Mp X ext)
include hc he
end
end
section
def Ku {α β:Type} (l:List α) (l':List β):Bool:=l.isEmpty&&l'.isEmpty
inductive RD where
 |k0 (v:V)|k1 (v:V) (lo:List (Key × O)) (tn:List (Nat × Option Nat))|k2 (v:V) (s:S)
def RD.kind:RD->Nat
 | .k0 _=>0| .k1 _ _ _=>1| .k2 _ _=>2
def RD.post (s:S) (A':Key->Option O) (K0:V->Prop) (K1:V->List (Key × O)->List (Nat × Option Nat)->Prop) (K2:V->S->Prop):RD->Prop
 | .k0 v=>K0 v| .k1 v lo tn=>FG (s.wA A') lo->FH (s.wA A') tn->Eu s lo=true->K1 v lo tn| .k2 v s1=>K2 v (s1.wA A')
theorem Hk (s:S) (d:Option Nat) (v:V) (k:Key):(s.set d v).obj k=s.obj k:=by cases d <;> rfl
theorem aI {s:S} {lo:List (Key × O)} {tn:List (Nat × Option Nat)} (h:Eu s lo=true) {k:Key} {o:O} (hk:s.obj k=some o):(s.add lo tn).obj k=some o:=by
 have key:∀{lo:List (Key × O)},Eu s lo=true->AK lo k=none:=by
  intro lo
  induction lo with
  |nil=>intro _;rfl|cons x lo ih=>
   obtain⟨j,y⟩:=x;cases j with
   |g j=>intro h;simp[Eu]at h|l n=>
    intro h;simp only[Eu,bz]at h;simp only[AK];rw[if_neg,ih h.2];intro e;rw[e,hk]at h;simp at h
 have e:=key h;simp only[jo,CR,S.add]at hk ⊢;rw[Kp,e];exact hk
section
variable {X:Cx} {call:KL} {ext:KM} (hc:Mn X call) (he:Mp X ext)
include hc he
end
end
section
mutual
theorem V.Lw:∀(x:V),V.BQ x x
 | .d _ _=>by simp[V.BQ,CF,V.ty]
 | .emp _ _=>.inl rfl| .agg _ vs=>⟨rfl,V.nI vs⟩| .any=>trivial| .sl _ _ _ _| .ts _ _ _| .wk| .ptr _ _ _| .wm _ _| .sr _ _ _ _ _ _ _| .mp _| .fn _ _| .tup _| .top _=>by simp[V.BQ]
theorem V.nI:∀(xs:List V),V.FY xs xs
 | []=>trivial|x::xs=>⟨V.Lw x,rfl,V.nI xs⟩
end
def O.Yn:O->Bool
 | .box y=>y.plain&&y.BJ| .map _ _ _=>true| .it _ _| .dead _=>true
theorem O.Lw {o:O} (h:o.Yn=true):O.BQ o o:=by
 cases o with
 |box y=>
  simp only[O.Yn,bz]at h;exact⟨V.Lw y,rfl,h.1,h.2⟩
 |map=>exact⟨rfl,rfl,rfl⟩|it=>exact⟨rfl,rfl⟩|dead=>exact(rfl:_=_)
mutual
def V.keys:V->List Nat
 | .ptr (.l k) _ _| .mp (.l k)| .sr (.l k) _ _ _ _ _ _=>[k]| .agg _ vs| .fn _ vs| .tup vs=>V.Jr vs|_=>[]
def V.Jr:List V->List Nat
 | []=>[]|x::xs=>x.keys++V.Jr xs
end
mutual
def V.yB:V->List Nat
 | .sl _ _ _ t=>[t]| .agg _ vs| .fn _ vs| .tup vs=>V.yC vs|_=>[]
def V.yC:List V->List Nat
 | []=>[]|x::xs=>x.yB++V.yC xs
end
def O.keys:O->List Nat
 | .box x=>x.keys| .map _ _ _=>[]| .it _ _| .dead _=>[]
def reach (loc:List (Key × O)):Nat->List Nat->List Nat->List Nat
 |0,_,acc=>acc|_,[],acc=>acc|f+1,k::ks,acc=>if RJ k acc=true then reach loc f ks acc else match AK loc (.l k)with|some o=>reach loc f (o.keys++ks) (k::acc)|none=>reach loc f ks acc
def JB:List (Key × O)->List Nat
 | []=>[]|(.g _,o)::l=>o.keys++JB l|(.l _,_)::l=>JB l
def Fz (loc:List (Key × O)) (ks:List Nat):List (Key × O)
 ->List (Key × O)
 | []=>[]|(.g k,_)::l=>(match AK loc (.g k)with|some o=>[(.g k,o)] |none=>[])++Fz loc ks l|(.l k,_)::l=>(if RJ k ks=true then(match AK loc (.l k)with|some o=>[(.l k,o)] |none=>[])else[])++Fz loc ks l
def KQ:List (Key × O)->Bool
 | []=>true|(_,o)::l=>o.Yn&&KQ l
def IC (L:List (Key × O)):List (Key × O)->Bool
 | []=>true|(.g k,_)::l=>(AK L (.g k)).isSome&&IC L l|(.l _,_)::l=>IC L l
theorem Mu {L:List (Key × O)} {A:Key->Option O}:∀{l:List (Key × O)},IC L l=true->IB L A l
 | [],_=>trivial|(.g k,_)::l,h=>by simp only[IC,bz]at h;exact⟨.inl h.1,Mu h.2⟩
 |(.l _,_)::l,h=>Mu (l:=l) h
theorem VD {s:S} {k:Key} {o:O} (h:AK s.loc k=some o):s.obj k=some o:=by simp only[jo,CR,h]
theorem Ko {s:S} (ks:List Nat):∀{l:List (Key × O)},KQ (Fz s.loc ks l)=true->Fb s (Fz s.loc ks l)
 | [],_=>trivial|(.g k,_)::l,h=>by
  simp only[Fz]at h ⊢;cases hl:AK s.loc (.g k)with
  |none=>rw[hl]at h;exact Ko ks h|some o=>
   rw[hl]at h;simp only[nf,jm,KQ,bz]at h ⊢;refine⟨?_,Ko ks h.2⟩;rw[VD hl];exact O.Lw h.1
 |(.l k,_)::l,h=>by
  simp only[Fz]at h ⊢;by_cases hk:RJ k ks=true
  ·rw[if_pos hk]at h ⊢;cases hl:AK s.loc (.l k)with
   |none=>rw[hl]at h;exact Ko ks h|some o=>
    rw[hl]at h;simp only[nf,jm,KQ,bz]at h ⊢;refine⟨?_,Ko ks h.2⟩;rw[VD hl];exact O.Lw h.1
  ·rw[if_neg hk]at h ⊢;exact Ko ks h
def Ek (s:S):List Nat->List (Nat × V)
 | []=>[]|i::l=>(i,s.get i)::Ek s l
def Io (f g:Nat->Bool):List (Nat × V)->Bool
 | []=>true|(_,x)::l=>x.ok f g&&Io f g l
theorem Xz {s:S} {f g:Nat->Bool}:∀{l:List Nat},Io f g (Ek s l)=true->HY f g s (Ek s l)
 | [],_=>trivial|i::l,h=>by simp only[Ek,Io,bz]at h;exact⟨V.Lw _,h.1,.inr rfl,Xz h.2⟩
def Dc (s:S):List Nat->List (Nat × Option Nat)
 | []=>[]|t::l=>(match look s.tk t with|some x=>[(t,x)] |none=>[])++Dc s l
theorem WG {s:S}:∀{l:List Nat},tkW s (Dc s l)
 | []=>trivial|t::l=>by
  simp only[Dc];cases hl:look s.tk t with
  |none=>exact WG|some x=>
   refine⟨?_,WG⟩;cases x with
   |none=>simp[S.known,hl]|some L=>simp[S.live,Dt,hl]
def kQ:List (Nat × V)->List Nat
 | []=>[]|(_,x)::l=>x.keys++kQ l
def Xx:List (Nat × V)->List Nat
 | []=>[]|(_,x)::l=>x.yB++Xx l
def gcS (xa:List Nat) (s:S):S:=
 ⟨Ek s xa,Fz s.loc (reach s.loc 100000 (kQ (Ek s xa)++JB s.loc) []) s.loc,s.A,Dc s (Xx (Ek s xa))⟩
def gcB (xa:List Nat) (s:S):Bool:=
 KQ (gcS xa s).loc&&FA (Bv (gcS xa s).loc) (Cu (gcS xa s).tk) (gcS xa s).loc&&IC (gcS xa s).loc s.loc&&Io (Bv (gcS xa s).loc) (Cu (gcS xa s).tk) (Ek s xa)
theorem q1S {X:Cx} {n:Nat} {xa:List Nat} {s:S} (A':Key->Option O) (h:gcB xa s=true):Dd X n (s.wA A') ((gcS xa s).wA A'):=by
 simp only[gcB,bz]at h;obtain⟨⟨⟨h1,h2⟩,h3⟩,h4⟩:=h;refine yZ rfl ?_ h2 (Mu h3) ?_ ?_;{exact Ko (s:=s.wA A') _ h1}
 ·have:∀l,Dc (s.wA A') l=Dc s l:=by
   intro l
   induction l with
   |nil=>rfl|cons i l ih=>simp only[Dc,ih];rfl
  show tkW (s.wA A') (Dc s (Xx (Ek s xa)));rw[<-this];exact WG
 ·have:Ek (s.wA A') xa=Ek s xa:=by
   generalize xa=l
   induction l with
   |nil=>rfl|cons i l ih=>simp only[Ek,ih];rfl
  show HY _ _ (s.wA A') (Ek s xa);rw[<-this]at h4 ⊢;exact Xz h4
def OI (ml:List (Nat × Nat)):List (Nat × Nat)->Bool
 | []=>true|(d,m)::l=>dj (CD ml d) m&&OI ml l
theorem Ut {ml:List (Nat × Nat)}:∀{l:List (Nat × Nat)},OI ml l=true->∀p∈l,CD ml p.1=p.2
 |(d,m)::l,h,p,hp=>by simp only[OI,bz]at h;rcases List.mem_cons.1 hp with rfl|hp;{exact ez h.1};{exact Ut h.2 p hp}
def slotsOf:List (Nat × V)->List Nat
 | []=>[]|(i,_)::l=>i::slotsOf l
section
variable {X:Cx} {call:KL} {ext:KM} (hP:Al X.P=true) (hmo:X.P.follows .mixedOrders=true) (hc:Mn X call) (he:Mp X ext)
include hP hmo hc he
end
end
section
section
variable {X:Cx} {call:KL} {ext:KM} (hP:Al X.P=true) (hmo:X.P.follows .mixedOrders=true) (hc:Mn X call) (he:Mp X ext)
include hP hmo hc he
end
mutual
def V.FJ:V->V
 | .sl eb e cs _=>.d (.slice eb e) (.slice cs)| .agg τ vs=>.agg τ (V.aZ vs)|x=>x
def V.aZ:List V->List V
 | []=>[]|x::xs=>x.FJ::V.aZ xs
end
theorem V.tC (x:V):x.FJ.ty=x.ty:=by cases x <;> rfl
mutual
theorem V.tB:∀(x:V),V.BQ x x.FJ
 | .sl _ _ cs _=>by simp[V.FJ,V.BQ,CF,V.ty]
 | .agg τ vs=>⟨rfl,V.tD vs⟩| .d _ _=>by simp[V.FJ,V.BQ,CF,V.ty]
 | .emp _ _=>.inl rfl| .any=>trivial| .ts _ _ _| .wk| .ptr _ _ _| .wm _ _| .sr _ _ _ _ _ _ _| .mp _| .fn _ _| .tup _| .top _=>by simp[V.FJ,V.BQ]
theorem V.tD:∀(xs:List V),V.FY xs (V.aZ xs)
 | []=>trivial|x::xs=>⟨V.tB x,V.tC x,V.tD xs⟩
end
def MN (s:S) (x:V):V:=
 match x with
 | .sl eb e cs t=>if s.live t=some cs.length then .ts eb e cs else .d (.slice eb e) (.slice cs)|x=>x.FJ
def IY (s:S):List V->List V
 | []=>[]|x::xs=>MN s x::IY s xs
def Gu (f:Nat->Bool):List V->Bool
 | []=>true|v::vs=>(match v with| .ts _ _ _=>true|v=>v.ok f Bk&&v.plain)&&Gu f vs
def RZ:List V->Bool
 | []=>true|v::vs=>v.Kv&&RZ vs
theorem q5r {s:S} {f:Nat->Bool} {x:V} (hx:x.Kv=true) (h:(match MN s x with| .ts _ _ _=>true|v=>v.ok f Bk&&v.plain)=true):GX s f x (MN s x):=by
 have gen:∀{x:V},x.FJ.Kv=true->(x.FJ.ok f Bk&&x.FJ.plain)=true->GX s f x x.FJ:=by
  intro x hn h;have:V.BQ x x.FJ/\x.FJ.ok f Bk=true/\x.FJ.plain=true/\x.FJ.ty.isAgg=x.ty.isAgg:=by simp only[bz]at h;exact⟨V.tB x,h.1,h.2,by rw[V.tC]⟩
  unfold GX;split;{rename_i e1;rw[e1]at hn;cases hn};{exact this}
 cases x with
 |sl eb e cs t=>
  simp only[MN]at h ⊢;by_cases hl:s.live t=some cs.length;{rw[if_pos hl];exact⟨rfl,rfl,rfl,hl⟩};{rw[if_neg hl]at h ⊢;exact gen (x:=.sl eb e cs t) rfl h}
 |ts=>cases hx
 |agg τ vs=>exact gen (x:=.agg τ vs) rfl h|d|emp|any|wk|ptr|wm|sr|mp|fn|tup|top=>exact gen rfl h
theorem tA {s:S} {f:Nat->Bool}:∀{xs:List V},RZ xs=true->Gu f (IY s xs)=true->Hs s f xs (IY s xs)
 | [],_,_=>trivial|x::xs,h1,h2=>by simp only[RZ,bz]at h1;simp only[IY,Gu,bz]at h2;exact⟨q5r h1.1 h2.1,tA h1.2 h2.2⟩
def cF (X:Cx) (s:S) (r:ResultVar):Bool:=
 match r with
 | .tmp _=>true| .cell a t=>(match s.get a with| .ptr k q τ=>(match s.obj k with|some (.box y)=>decide (τ=ty X.P t)&&τ.known&& !(y.at q).isAny|_=>false)|_=>false)
def SN (X:Cx) (s:S):List ResultVar->Bool
 | []=>true|r::rs=>cF X s r&&SN X s rs
theorem q6m {X:Cx} {s:S} {A':Key->Option O} (hA:leA s.A A') {r:ResultVar} (h:cF X s r=true):Ol X (s.wA A') r/\MT X (s.wA A') r=MT X s r:=by
 cases r with
 |tmp t=>exact⟨trivial,rfl⟩|cell a t=>
  have hg:(s.wA A').get a=s.get a:=rfl;simp only[cF]at h;simp only[Ol,MT,hg];split at h;{rename_i e0;split at h;{rename_i e1;simp only[bz,decide_eq_true_eq,jg]at h;simp only[e0,DT hA e1,e1];exact⟨⟨h.1.1,h.1.2,V.Nv h.2⟩,by first|rfl|trivial⟩};{cases h}};{cases h}
theorem vL {X:Cx} {s:S} {A':Key->Option O} (hA:leA s.A A'):∀{rs:List ResultVar},SN X s rs=true->Oo X (s.wA A') rs/\Ed X (s.wA A') rs=Ed X s rs
 | [],_=>⟨trivial,rfl⟩|r::rs,h=>by simp only[SN,bz]at h;obtain⟨h1,h2⟩:=q6m hA h.1;obtain⟨h3,h4⟩:=vL hA h.2;exact⟨⟨h1,h3⟩,by simp only[Ed,h2,h4]⟩
def bA:List V->V
 | [x]=>x|xs=>.tup xs
theorem q6q {xs:List V} {vs:List V} (h:xs.length=vs.length):KC xs (bA vs)=some vs:=by
 match xs,vs,h with
 | [],[],_=>rfl| [_],[_],_=>rfl|_::_::_,_::_::_,_=>rfl
theorem sZ (s:S):∀(xs:List V),(IY s xs).length=xs.length
 | []=>rfl|x::xs=>by simp[IY,sZ s xs]
def YC (X:Cx) (fn:Func) (s:S):Option (V × List (Key × O)):=
 let rs:=Ed X s fn.results.toList
 let vs:=IY s rs
 let L:=Fz s.loc (reach s.loc 100000 (V.Jr vs++JB s.loc) []) s.loc
 if SN X s fn.results.toList=true/\RZ rs=true/\Gu (Bv L) vs=true/\GA (Ih (FP 2000 rs vs))=true/\KQ L=true/\FA (Bv L) Bk L=true/\IC L s.loc=true then some (bA vs,L)else none
theorem q1C {X:Cx} {fn:Func} {s:S} {v:V} {L:List (Key × O)} {A':Key->Option O} (hA:leA s.A A') (h:YC X fn s=some (v,L)):Ff X fn A' v L (s.wA A'):=by
 simp only[YC,br,eu,gb]at h;obtain⟨⟨h1,h2,h3,h4,h5,h6,h7⟩,rfl,rfl⟩:=h;obtain⟨c1,c2⟩:=vL hA h1;have hL:∀(x:S) (xs vs:List V) f,Hs x f xs vs->Hs (x.wA A') f xs vs:=by
  intro x xs
  induction xs with
  |nil=>intro vs f h;cases vs <;> exact h
  |cons y ys ih=>
   intro vs f h;cases vs with
   |nil=>exact h|cons v vs=>exact⟨h.1,ih vs f h.2⟩
 refine⟨rfl,Ko (s:=s.wA A') _ h5,h6,Mu h7,c1,?_⟩;rw[c2,q6q (sZ s _).symm];exact⟨hL _ _ _ _ (tA h2 h3),h4⟩
section
variable {X:Cx} {ov:KL} {ext:KM} (hP:Al X.P=true) (hmo:X.P.follows .mixedOrders=true) (hov:Mn X ov) (he:Mp X ext)
include hP hmo hov he
end
def A0:Key->Option O:=fun _=>none
theorem Bu.any {X:Cx} {f:FuncId} {xs:List V} {v:V} {L:List (Key × O)} (h:Bu X f xs A0 v L) (A:Key->Option O):Bu X f xs A v L:=h.mono fun _ _ h=>by cases h
end
def Nd {R:Type} (op:BinOp) (k:IntKind) (a b:Int) (K:V->Option R):Option R:=
 match op with
 | .add=>K (.d (.int k) (.int (k.wrap (a+b))))| .sub=>K (.d (.int k) (.int (k.wrap (a-b))))| .mul=>K (.d (.int k) (.int (k.wrap (a*b))))| .quo=>if b≠0 then K (.d (.int k) (.int (k.wrap (a.tdiv b))))else none| .rem=>if b≠0 then K (.d (.int k) (.int (a.tmod b)))else none| .and| .or| .xor| .andNot=>K (.d (.int k) (.int (CH op k a b)))| .eql=>K (.d .bool (.bool (decide (a=b))))| .neq=>K (.d .bool (.bool (!decide (a=b))))| .lss=>K (.d .bool (.bool (decide (a<b))))| .leq=>K (.d .bool (.bool (decide (a<=b))))| .gtr=>K (.d .bool (.bool (decide (b<a))))| .geq=>K (.d .bool (.bool (decide (b<=a))))|_=>none
theorem q08 {R:Type} {r:R} {Kr:V->Option R} {op:BinOp} {k:IntKind} {a b:Int} {K:V->Prop} (h:Nd op k a b Kr=some r) (hK:∀v,Kr v=some r->K v):Jq op k a b K:=by
 cases op <;> simp only[Nd,Jq,eu,br,reduceCtorEq]at h ⊢ <;>
  first|exact hK _ h|(obtain⟨h1,h⟩:=h;exact⟨h1,hK _ h⟩)
def Nh {R:Type} (op:BinOp) (k:IntKind) (a b:Int) (K:V->Option R):Option R:=
 match op with
 | .shl=>if 0<=b then K (.d (.int k) (.int (k.wrap (a*2^(min b.toNat k.bits)))))else none| .shr=>if 0<=b then K (.d (.int k) (.int (a.fdiv (2^(min b.toNat k.bits)))))else none|_=>none
theorem q1h {R:Type} {r:R} {Kr:V->Option R} {op:BinOp} {k:IntKind} {a b:Int} {K:V->Prop} (h:Nh op k a b Kr=some r) (hK:∀v,Kr v=some r->K v):MW op k a b K:=by
 cases op <;> simp only[Nh,MW,eu,br,reduceCtorEq]at h ⊢ <;>
  (obtain⟨h1,h⟩:=h;exact⟨h1,hK _ h⟩)
def Nk {R:Type} (op:BinOp) (a b:List UInt8) (K:V->Option R):Option R:=
 match op with
 | .add=>if a.length+b.length<=140737488355328 then K (.d .str (.str (a++b)))else none| .eql=>K (.d .bool (.bool (a==b)))| .neq=>K (.d .bool (.bool (!(a==b))))| .lss=>K (.d .bool (.bool (ku a b)))| .leq=>K (.d .bool (.bool (ku a b||a==b)))| .gtr=>K (.d .bool (.bool (!(ku a b||a==b))))| .geq=>K (.d .bool (.bool (!ku a b)))|_=>none
theorem q1o {R:Type} {r:R} {Kr:V->Option R} {op:BinOp} {a b:List UInt8} {K:V->Prop} (h:Nk op a b Kr=some r) (hK:∀v,Kr v=some r->K v):LH op a b K:=by
 cases op <;> simp only[Nk,LH,eu,br,reduceCtorEq]at h ⊢ <;>
  first|exact hK _ h|(obtain⟨h1,h⟩:=h;exact⟨h1,hK _ h⟩)
def Lm {R:Type} (op:BinOp) (b:Bool) (K:V->Option R):Option R:=
 match op with
 | .eql=>K (.d .bool (.bool b))| .neq=>K (.d .bool (.bool (!b)))|_=>none
theorem jY {R:Type} {r:R} {Kr:V->Option R} {op:BinOp} {b:Bool} {K:V->Prop} (h:Lm op b Kr=some r) (hK:∀v,Kr v=some r->K v):Im op b K:=by cases op <;> simp only[Lm,Im,reduceCtorEq]at h ⊢ <;> exact hK _ h
def QD {R:Type} (op:BinOp) (x y:Bool) (K:V->Option R):Option R:=
 match op with
 | .eql=>K (.d .bool (.bool (x==y)))| .neq=>K (.d .bool (.bool (!(x==y))))|_=>none
def QI {R:Type} (op:BinOp) (x y:Option Bool) (K:V->Option R):Option R:=
 match op,x,y with
 | .eql,some a,some true=>K (.d .bool (.bool a))| .neq,some a,some true=>K (.d .bool (.bool (!a)))| .eql,some true,some b=>K (.d .bool (.bool b))| .neq,some true,some b=>K (.d .bool (.bool (!b)))|_,_,_=>none
def QK {R:Type} (op:BinOp) (x:Option (Option Bool)) (y:V) (K:V->Option R):Option R:=
 match op,x,y with
 | .eql,some r,.wk=>K (IW r)| .neq,some r,.wk=>K (IW (r.map (!·)))|_,_,_=>none
def NY {R:Type} (P:Program) (op:BinOp) (T:TypeId) (x y:V) (K:V->Option R):Option R:=
 match ty P T with
 | .int k=>if x.isInt k then(if BinOp.Kl op then(if y.Ew then Nh op k x.toInt y.toInt K else none)else(if y.isInt k then Nd op k x.toInt y.toInt K else none))else none| .bool=>if x.isBool/\y.isBool then QD op x.toBool y.toBool K else none| .str=>if x.isStr/\y.isStr then Nk op x.toStr y.toStr K else none| .ptr=>QI op x.Gs y.Gs K| .arr n e=>if CJ P T=true/\x.DK (.arr n e)/\y.DK (.arr n e)then Lm op (C.beq x.toC y.toC) K else none| .struct sz os fs=>if CJ P T=true/\x.DK (.struct sz os fs)/\y.DK (.struct sz os fs)then Lm op (C.beq x.toC y.toC) K else none| .slice _ _=>QK op x.RY y K|_=>none
theorem q0V {R:Type} {r:R} {Kr:V->Option R} {P:Program} {op:BinOp} {T:TypeId} {x y:V} {K:V->Prop} (h:NY P op T x y Kr=some r) (hK:∀v,Kr v=some r->K v):OZ P op T x y K:=by unfold NY at h;unfold OZ;generalize ty P T=τ at h ⊢;split at h;{simp only[br]at h;obtain⟨h1,h2⟩:=h;refine⟨h1,?_⟩;split at h2;{rename_i hs;rw[if_pos hs];simp only[br]at h2;exact⟨h2.1,q1h h2.2 hK⟩};{rename_i hs;rw[if_neg hs];simp only[br]at h2;exact⟨h2.1,q08 h2.2 hK⟩}};{simp only[br]at h;obtain⟨⟨h1,h2⟩,h3⟩:=h;refine⟨h1,h2,?_⟩;cases op <;> simp only[QD,reduceCtorEq]at h3 ⊢ <;> exact hK _ h3};{simp only[br]at h;exact⟨h.1.1,h.1.2,q1o h.2 hK⟩};{simp only[QI]at h;split at h <;> (try (cases h)) <;> simp_all};{simp only[br]at h;exact⟨h.1.1,h.1.2.1,h.1.2.2,by rw[C.Tp];exact jY h.2 hK⟩};{simp only[br]at h;exact⟨h.1.1,h.1.2.1,h.1.2.2,by rw[C.Tp];exact jY h.2 hK⟩};{simp only[QK]at h;split at h <;> (try (cases h)) <;> simp_all};{cases h}
def Ni {R:Type} (P:Program) (T:TypeId) (x:V) (lo hi mx:Option V) (K:V->Option R):Option R:=
 match ty P T with
 | .str=>(match Cc lo 0,Cc hi x.toStr.length with|some l,some h=>if x.isStr/\mx.isNone then(if 0<=l/\l<=h/\h<=x.toStr.length then K (.d .str (.str ((x.toStr.take h.toNat).drop l.toNat)))else none)else none|_,_=>none)
 | .slice eb e=>(match x with
   | .sr k q lo0 n cp eb' e'=>if eb'=eb/\e'=e then(match Cc lo 0,Cc hi n,mx with|some l,some h,none=>if 0<=l/\l<=h/\h<=n then K (.sr k q (lo0+l.toNat) (h-l).toNat (cp.map (· -l.toNat)) eb e)else none|some l,some h,some m=>if hi.isSome=true then(match Cc (some m) 0 with|some m=>if 0<=l/\l=h/\h=m/\m<=n then K (.emp eb e)else none|none=>none)else none|_,_,_=>none)else none
   |x=>(match x.Eh with|some (eb',e',cs)=>if eb'=eb/\e'=e then(match Cc lo 0,Cc hi cs.length,mx with|some l,some h,none=>if 0<=l/\l<=h/\h<=cs.length then K (.d (.slice eb e) (.slice (cut cs l h)))else none|some l,some h,some m=>if hi.isSome=true then(match Cc (some m) 0 with|some m=>if 0<=l/\l=h/\h=m/\m<=cs.length then K (.emp eb e)else none|none=>none)else none|_,_,_=>none)else none|none=>none))
 |_=>(match VY P T with|some (n,eb,e)=>if n*eb<=140737488355328/\n<=maxLen/\mx.isNone then(match Cc lo 0,Cc hi n with|some l,some h=>if 0<=l/\l<=h/\h<=n then(match x with| .ptr k q τ=>if τ= .arr n e then K (.sr k q l.toNat (h-l).toNat (some (n-l.toNat)) eb e)else none| .wm τ c=>if τ= .arr n e then K (.d (.slice eb e) (.slice (cut c.elems l h)))else none|_=>none)else none|_,_=>none)else none|none=>none)
theorem q1l {R:Type} {r:R} {Kr:V->Option R} {P:Program} {T:TypeId} {x:V} {lo hi mx:Option V} {K:V->Prop} (h:Ni P T x lo hi mx Kr=some r) (hK:∀v,Kr v=some r->K v):Oe P T x lo hi mx K:=by
 unfold Ni at h;unfold Oe;generalize ty P T=τ at h ⊢;split at h;{split at h;{rename_i l hh e1 e2;simp only[br]at h;obtain⟨⟨h1,h2⟩,h3,h⟩:=h;refine⟨h1,by simpa using h2,?_⟩;rw[e1,e2];exact⟨h3.1,h3.2.1,h3.2.2,hK _ h⟩};{cases h}}
 ·split at h;{simp only[br]at h;obtain⟨⟨h1,h2⟩,h⟩:=h;refine⟨h1,h2,?_⟩;split at h;{rename_i e1 e2;simp only[br]at h;obtain⟨h3,h⟩:=h;rw[e1,e2];exact⟨h3.1,h3.2.1,h3.2.2,hK _ h⟩};{rename_i e1 e2;simp only[br]at h;obtain⟨h3,h⟩:=h;rw[e1,e2];refine⟨h3,?_⟩;split at h;{rename_i e3;simp only[br]at h;obtain⟨h4,h⟩:=h;rw[e3];exact⟨h4.1,h4.2.1,h4.2.2.1,h4.2.2.2,hK _ h⟩};{cases h}};{cases h}}
  ·rename_i x' hx'
   cases x <;> (try exact(hx' _ _ _ _ _ _ _ rfl).elim) <;> (
    split at h;{rename_i e0;simp only[e0];simp only[br]at h;obtain⟨⟨h1,h2⟩,h⟩:=h;refine⟨h1,h2,?_⟩;split at h;{rename_i e1 e2;simp only[br]at h;obtain⟨h3,h⟩:=h;rw[e1,e2];exact⟨h3.1,h3.2.1,h3.2.2,hK _ h⟩};{rename_i e1 e2;simp only[br]at h;obtain⟨h3,h⟩:=h;rw[e1,e2];refine⟨h3,?_⟩;split at h;{rename_i e3;simp only[br]at h;obtain⟨h4,h⟩:=h;rw[e3];exact⟨h4.1,h4.2.1,h4.2.2.1,h4.2.2.2,hK _ h⟩};{cases h}};{cases h}}
    ·cases h)
 ·rename_i hn1 hn2;split at h
  ·rename_i e0;split <;> first|exact(hn1 rfl).elim|exact(hn2 _ _ rfl).elim|skip
   rw[e0];simp only[br]at h;obtain⟨⟨h1,h2,h3⟩,h⟩:=h;refine⟨h1,h2,by simpa using h3,?_⟩;split at h;{rename_i e1 e2;rw[e1,e2];simp only[br]at h;obtain⟨h4,h⟩:=h;refine⟨h4.1,h4.2.1,h4.2.2,?_⟩;split at h;{simp only[br]at h;obtain⟨h5,h⟩:=h;exact⟨h5,hK _ h⟩};{simp only[br]at h;obtain⟨h5,h⟩:=h;exact⟨h5,hK _ h⟩};{cases h}};{cases h}
  ·cases h
def Nf {R:Type} (P:Program) (T:TypeId) (x:V) (K:V->Option R):Option R:=
 match ty P T,x with
 | .str,.d τ c=>if τ= .str then K (.d (.int .i64) (.int c.toStr.length))else none| .slice _ _,.wk=>K (.d (.int .i64) (.int 0))| .slice _ _,.sr _ _ _ n _ _ _=>K (.d (.int .i64) (.int n))| .slice eb e,x=>(match x.Eh with|some (eb',e',cs)=>if eb'=eb/\e'=e then K (.d (.int .i64) (.int cs.length))else none|none=>none)| .arr n _,_=>if(n:Int)<=9223372036854775807 then K (.d (.int .i64) (.int n))else none|_,_=>none
theorem q1b {R:Type} {r:R} {Kr:V->Option R} {P:Program} {T:TypeId} {x:V} {K:V->Prop} (h:Nf P T x Kr=some r) (hK:∀v,Kr v=some r->K v):Oc P T x K:=by
 unfold Nf at h;unfold Oc;generalize ty P T=τ at h ⊢
 cases τ <;> (try (cases h;done)) <;> cases x <;> (try (cases h;done)) <;> simp only[br]at h ⊢ <;>
  first
  |exact hK _ h|(obtain⟨h1,h⟩:=h;exact⟨h1,hK _ h⟩)
  |(split at h
    ·rename_i e0;simp only[br]at h;obtain⟨h1,h⟩:=h;rw[e0];exact⟨h1.1,h1.2,hK _ h⟩
    ·cases h)
def Nc {R:Type} (P:Program) (T:TypeId) (x i:V) (K:V->Option R):Option R:=
 if i.Ew then
 match ty P T,x with
 | .slice eb e,.sr k q lo n _ eb' e'=>if eb'=eb/\e'=e then(if 0<=i.toInt/\i.toInt<n then K (.ptr k (q++[lo+i.toInt.toNat]) e)else none)else none| .slice eb e,x=>(match x.Eh with|some (eb',e',cs)=>if eb'=eb/\e'=e then(if 0<=i.toInt/\i.toInt<cs.length then K (.wm e (cs.getD i.toInt.toNat .nil))else none)else none|none=>none)| .arr n e,.ptr k q τ=>if τ= .arr n e then(if 0<=i.toInt/\i.toInt<n then K (.ptr k (q++[i.toInt.toNat]) e)else none)else none| .arr n e,.wm τ c=>if τ= .arr n e then(if 0<=i.toInt/\i.toInt<n then K (.wm e (c.get i.toInt.toNat))else none)else none|_,_=>none
 else none
theorem q06 {R:Type} {r:R} {Kr:V->Option R} {P:Program} {T:TypeId} {x i:V} {K:V->Prop} (h:Nc P T x i Kr=some r) (hK:∀v,Kr v=some r->K v):Ob P T x i K:=by
 unfold Nc at h;unfold Ob;simp only[br]at h;obtain⟨h0,h⟩:=h;refine⟨h0,?_⟩;generalize ty P T=τ at h ⊢
 cases τ <;> (try (cases h;done)) <;> cases x <;> (try (cases h;done)) <;> simp only[br]at h ⊢ <;>
  first
  |(obtain⟨h1,h2,h⟩:=h;exact⟨h1.1,h1.2,h2.1,h2.2,hK _ h⟩)|(obtain⟨h1,h2,h⟩:=h;exact⟨h1,h2.1,h2.2,hK _ h⟩)
  |(split at h
    ·rename_i e0;simp only[br]at h;obtain⟨h1,h2,h⟩:=h;rw[e0];exact⟨h1.1,h1.2,h2.1,h2.2,hK _ h⟩
    ·cases h)
def Nb {R:Type} (P:Program) (T:TypeId) (x:V) (i:Nat) (K:V->Option R):Option R:=
 match x with
 | .ptr k q τ=>if τ=ty P T/\τ.DL=true/\(τ.child i).isSome=true/\(τ.get i).size≠0 then K (.ptr k (q++[i]) (τ.get i))else none| .wm τ c=>if τ=ty P T/\τ.DL=true/\(τ.child i).isSome=true/\(τ.get i).size≠0 then K (.wm (τ.get i) (c.get i))else none|_=>none
theorem q02 {R:Type} {r:R} {Kr:V->Option R} {P:Program} {T:TypeId} {x:V} {i:Nat} {K:V->Prop} (h:Nb P T x i Kr=some r) (hK:∀v,Kr v=some r->K v):Oa P T x i K:=by unfold Nb at h;unfold Oa;split at h;{simp only[br]at h;obtain⟨h1,h⟩:=h;exact⟨h1.1,h1.2.1,h1.2.2.1,h1.2.2.2,hK _ h⟩};{simp only[br]at h;obtain⟨h1,h⟩:=h;exact⟨h1.1,h1.2.1,h1.2.2.1,h1.2.2.2,hK _ h⟩};{cases h}
def Nl {R:Type} (P:Program) (op:UnOp) (T:TypeId) (x:V) (K:V->Option R):Option R:=
 match ty P T,op with
 | .bool,.not=>if x.isBool then K (.d .bool (.bool (!x.toBool)))else none| .int k,.neg=>if x.isInt k then K (.d (.int k) (.int (k.wrap (0-x.toInt))))else none|_,_=>none
theorem q1t {R:Type} {r:R} {Kr:V->Option R} {P:Program} {op:UnOp} {T:TypeId} {x:V} {K:V->Prop} (h:Nl P op T x Kr=some r) (hK:∀v,Kr v=some r->K v):SB P op T x K:=by unfold Nl at h;unfold SB;generalize ty P T=τ at h ⊢;split at h;{simp only[br]at h;obtain⟨h1,h⟩:=h;exact⟨h1,hK _ h⟩};{simp only[br]at h;obtain⟨h1,h⟩:=h;exact⟨h1,hK _ h⟩};{cases h}
def Na {R:Type} (P:Program) (src dst:TypeId) (x:V) (K:V->Option R):Option R:=
 match ty P src,ty P dst with
 | .int k,.int k2=>if x.isInt k then K (.d (.int k2) (.int (k2.wrap x.toInt)))else none| .str,.str=>if x.isStr then K x else none|_,_=>none
theorem q00 {R:Type} {r:R} {Kr:V->Option R} {P:Program} {src dst:TypeId} {x:V} {K:V->Prop} (h:Na P src dst x Kr=some r) (hK:∀v,Kr v=some r->K v):MR P src dst x K:=by unfold Na at h;unfold MR;generalize ty P src=τ at h ⊢;generalize ty P dst=τ2 at h ⊢;split at h;{simp only[br]at h;obtain⟨h1,h⟩:=h;exact⟨h1,hK _ h⟩};{simp only[br]at h;obtain⟨h1,h⟩:=h;exact⟨h1,hK _ h⟩};{cases h}
def NZ {R:Type} (P:Program) (b:Builtin) (ts:Array TypeId) (xs:List V) (K:V->Option R):Option R:=
 match b,xs with
 | .len,[x]=>if 0<ts.size then Nf P (ts.getD 0 0) x K else none| .min,[x,y]=>(match x with| .d (.int k) _=>if y.isInt k then K (.d (.int k) (.int (if y.toInt<x.toInt then y.toInt else x.toInt)))else none|_=>none)| .max,[x,y]=>(match x with| .d (.int k) _=>if y.isInt k then K (.d (.int k) (.int (if x.toInt<y.toInt then y.toInt else x.toInt)))else none|_=>none)|_,_=>none
theorem q0Y {R:Type} {r:R} {Kr:V->Option R} {P:Program} {b:Builtin} {ts:Array TypeId} {xs:List V} {K:V->Prop} (h:NZ P b ts xs Kr=some r) (hK:∀v,Kr v=some r->K v):SA P b ts xs K:=by unfold NZ at h;unfold SA;split at h;{simp only[br]at h;exact⟨h.1,q1b h.2 hK⟩};{split at h;{simp only[br]at h;obtain⟨h1,h⟩:=h;exact⟨h1,hK _ h⟩};{cases h}};{split at h;{simp only[br]at h;obtain⟨h1,h⟩:=h;exact⟨h1,hK _ h⟩};{cases h}};{cases h}
def Gd {R:Type} (P:Program) (op:Op) (ρ:Operand->V) (K:V->Option R):Option R:=
 match op with
 | .move x=>K (ρ x)| .assign x=>K (ρ x)| .pick c a b=>if(ρ c).isBool then(bif (ρ c).toBool then K (ρ a)else K (ρ b))else none| .nilCheck x=>if(ρ x).Gs=some false then K (ρ x)else none| .binOp op T x y _=>NY P op T (ρ x) (ρ y) K| .unOp op T x=>Nl P op T (ρ x) K| .convert src dst x=>Na P src dst (ρ x) K| .fieldAddr T x i=>Nb P T (ρ x) i K| .field T x i=>if(ρ x).ty=ty P T/\(ρ x).ty.DL=true/\((ρ x).ty.child i).isSome=true/\((ρ x).ty.get i).known=true/\(ρ x).plain=true/\((ρ x).get i).isAny=false then K ((ρ x).get i)else none| .indexAddr T x i=>Nc P T (ρ x) (ρ i) K| .index T x i=>if(ρ i).Ew then(match ty P T with| .arr n e=>if(ρ x).ty= .arr n e/\(ρ x).plain=true/\e.known=true then(if 0<=(ρ i).toInt/\(ρ i).toInt<n then(if((ρ x).get (ρ i).toInt.toNat).isAny=false then K ((ρ x).get (ρ i).toInt.toNat)else none)else none)else none| .str=>if(ρ x).isStr then(if 0<=(ρ i).toInt/\(ρ i).toInt<(ρ x).toStr.length then K (.d (.int .u8) (.int ((ρ x).toStr.getD (ρ i).toInt.toNat 0).toNat))else none)else none|_=>none)else none| .slice T x lo hi mx=>Ni P T (ρ x) (lo.map ρ) (hi.map ρ) (mx.map ρ) K| .extract x i=>(match ρ x with| .tup xs=>(match xs[i]? with|some y=>K y|none=>none)|_=>none)| .sliceToArrayPointer T x=>(match ρ x with| .sr k q lo n (some _) _ e=>(match ty P T with| .arr m e'=>if e'=e/\0<m then(if m<=n then K (.ptr k (q++[lo]) e)else none)else none|_=>none)|_=>(match ty P T,(ρ x).Eh with| .arr n e,some (_,e',cs)=>if e'=e/\0<n then(if n<=cs.length then K (.wm (.arr n e) (.agg (cs.take n)))else none)else none|_,_=>none))| .makeFunc fn first wq=>(match fn,first.toList with| .func f,[]=>if(wq.toList.map ρ).all V.plain=true then K (.fn f (wq.toList.map ρ))else none|_,_=>none)
 | .call c=>(match c.callee with| .builtin b=>NZ P b c.argTypes (c.args.toList.map ρ) K|_=>none)|_=>none
theorem QJ {R:Type} {r:R} {Kr:V->Option R} {P:Program} {op:Op} {ρ:Operand->V} {K:V->Prop} (h:Gd P op ρ Kr=some r) (hK:∀v,Kr v=some r->K v):pv P op ρ K:=by
 unfold Gd at h;unfold pv;split at h;{exact hK _ h};{exact hK _ h};{simp only[br]at h;obtain⟨h1,h⟩:=h;refine⟨h1,fun e=>?_,fun e=>?_⟩ <;> rw[e]at h <;> exact hK _ h};{simp only[br]at h;obtain⟨h1,h⟩:=h;exact⟨h1,hK _ h⟩};{exact q0V h hK};{exact q1t h hK};{exact q00 h hK};{exact q02 h hK};{simp only[br]at h;obtain⟨h1,h⟩:=h;exact⟨h1.1,h1.2.1,h1.2.2.1,h1.2.2.2.1,h1.2.2.2.2.1,V.Nv h1.2.2.2.2.2,hK _ h⟩};{exact q06 h hK};{simp only[br]at h;obtain⟨h0,h⟩:=h;refine⟨h0,?_⟩;rename_i T _ _;generalize ty P T=τ at h ⊢;split at h;{simp only[br]at h;obtain⟨h1,h2,h3,h⟩:=h;exact⟨h1.1,h1.2.1,h1.2.2,h2.1,h2.2,V.Nv h3,hK _ h⟩};{simp only[br]at h;obtain⟨h1,h2,h⟩:=h;exact⟨h1,h2.1,h2.2,hK _ h⟩};{cases h}};{exact q1l h hK};{split at h;{rename_i e0;simp only[e0];split at h;{rename_i e1;simp only[e1];exact hK _ h};{cases h}};{cases h}};{split at h;{rename_i e0;dsimp only;split at h;{rename_i e1;simp only[e0,e1];simp only[br]at h;obtain⟨h1,h2,h⟩:=h;exact⟨h1.1,h1.2,h2,hK _ h⟩};{cases h}};{rename_i hno;split at h;{rename_i e0 e1;simp only[br]at h;obtain⟨h1,h2,h⟩:=h;dsimp only;split;{rename_i e2;exact absurd e2 (hno _ _ _ _ _ _ _)};{simp only[e0,e1];exact⟨h1.1,h1.2,h2,hK _ h⟩}};{cases h}}};{split at h;{rename_i e0;simp only[e0];simp only[br]at h;obtain⟨h1,h⟩:=h;exact⟨h1,hK _ h⟩};{cases h}};{split at h;{rename_i e0;simp only[e0];exact q0Y h hK};{cases h}};{cases h}
def IM {R:Type} (P:Program) (s:S) (t':TypeId) (eb:Nat) (e:Ty) (Y:V) (K:List C->Option R):Option R:=
 match ty P t' with
 | .slice _ _=>(match Y with| .wk=>K []|Y=>match EO s Y with|some (eb',e',ys)=>if eb'=eb/\e'=e then K ys else none|none=>none)| .str=>if e= .int .u8/\eb=1/\Y.isStr then K (Y.toStr.map fun b=>C.int b.toNat)else none|_=>none
theorem Ti {R:Type} {r:R} {Kr:List C->Option R} {P:Program} {s:S} {A':Key->Option O} (hA:leA s.A A') {t':TypeId} {eb:Nat} {e:Ty} {Y:V} {K:List C->Prop} (h:IM P s t' eb e Y Kr=some r) (hK:∀ys,Kr ys=some r->K ys):Hv P (s.wA A') t' eb e Y K:=by
 unfold IM at h;unfold Hv;generalize ty P t'=τ at h ⊢;cases τ <;> (try (cases h;done));{simp only[br]at h;obtain⟨h1,h⟩:=h;exact⟨h1.1,h1.2.1,h1.2.2,hK _ h⟩}
 ·cases Y <;> simp only at h ⊢ <;> first
   |exact hK _ h
   |(split at h
     ·rename_i e0;simp only[br]at h;obtain⟨h1,h⟩:=h;rw[kK hA e0];exact⟨h1.1,h1.2,hK _ h⟩
     ·cases h)
abbrev K3 (R:Type):=V->List (Key × O)->List (Nat × Option Nat)->Option R
def NX {R:Type} (P:Program) (m:Nat) (dst:Nat) (s:S) (t t':TypeId) (x y:V) (K:K3 R):Option R:=
 if CE P (Af P t)=true then
 match ty P t with
 | .slice eb e=>(match x with
  | .emp _ _| .wk=>IM P s t' eb e y fun ys=>
    if m=3 then(if ys.isEmpty=false then K (.sr (.l dst) [] 0 ys.length none eb e) [(.l dst,.box (.d (.arr ys.length e) (.agg ys)))] []else none)else K (.sl eb e ys dst) [] [(dst,some ys.length)]
  |_=>none)
 |_=>none
 else none
def QG {R:Type} (P:Program) (s:S) (T:TypeId) (k:Key) (K:V->Option R):Option R:=
 match Gr P T,s.obj k with
 |some _,some (.map _ _ es)=>if es.length<=9223372036854775807 then K (.d (.int .i64) (.int es.length))else none|_,_=>none
def IU:List (C × V)->C->Bool
 | [],_=>false|(k,_)::l,c=>bif C.beq c k then true else IU l c
def Kf:List (C × V)->C->C
 | [],_=>.nil|(k,v)::l,c=>bif C.beq c k then(match v with| .d _ x=>x|_=>.nil)else Kf l c
theorem mN {τ:Ty} {c:C}:∀{es:List (C × V)},De τ es=true->FB es c=bif IU es c then some (.d τ (Kf es c))else none
 | [],_=>rfl|(k,v)::l,h=>by
  simp only[De,bz]at h;simp only[FB,C.Tp,IU,Kf];cases hb:C.beq c k with
  |true=>
   simp only[cond_true,if_true];obtain⟨h1,_⟩:=h;split at h1;{rw[Ty.beq_iff]at h1;subst h1;rfl};{cases h1}
  |false=>
   simp only[cond_false,fj,if_false];exact mN h.2
def Ng {R:Type} (τ:Ty) (es:List (C × V)) (c:C) (K:Option V->Option R):Option R:=
 bif De τ es then(bif IU es c then K (some (.d τ (Kf es c)))else K none)else none
theorem q1c {R:Type} {r:R} {τ:Ty} {c:C} {Kr:Option V->Option R} {es:List (C × V)} (h:Ng τ es c Kr=some r):Kr (FB es c)=some r:=by
 unfold Ng at h;cases ha:De τ es with
 |false=>rw[ha]at h;cases h
 |true=>
  rw[ha]at h;rw[mN ha];cases hb:IU es c <;> rw[hb]at h <;> exact h
def Xt {R:Type} (y:V) (q:List Nat) (t τ:Ty) (K:V->Option R):Option R:=
 match y,t with
 | .d (.arr M e) c,.arr m e'=>if q≠[]/\e'=e/\τ=e/\(Ty.arr m e).known=true/\q.getLastD 0+m<=M then K (.d (.arr m e) (.agg ((c.elems.drop (q.getLastD 0)).take m)))else none|_,_=>none
def ekI {R:Type} (X:Cx) (m:Nat) (dst:Nat) (o:Oper) (ρ:Operand->V) (s:S) (K:K3 R):Option R:=
 match o.op with
 | .load T x=>if dj m 18=true then(match ρ x with| .ptr k q τ=>(match s.obj k with|some (.box y)=>Xt (y.at q.dropLast) q (ty X.P T) τ fun v=>K v [] []|_=>none)|_=>none)
  else(match ρ x with| .ptr k q τ=>(match s.obj k with|some (.box y)=>if(y.at q).isAny=false/\τ=ty X.P T/\τ.known=true then K (view (y.at q)) [] []else none|_=>none)| .wm τ c=>if τ=ty X.P T/\τ.known=true then K (.d τ c) [] []else none|_=>none)
 | .alloc T=>if CE X.P T=true then K (.ptr (.l dst) [] (ty X.P T)) [(.l dst,Ri (ty X.P T) T)] []else none
 | .box _ x=>if m=5 then(if(ρ x).plain=true then(match CF (ρ x)with|some cc=>K (.wm (ρ x).ty cc) [] []|none=>none)else none)
   else if(ρ x).plain=true/\(ρ x).BJ=true then K (.ptr (.l dst) [] (ρ x).ty) [(.l dst,.box (ρ x))] []else none
 | .buildSlice t len parts=>(match ty X.P t with
   | .slice eb e=>(match len with
    |0=>if parts.toList.length=0 then K (.emp eb e) [] []else none
    |len+1=>if CE X.P (Af X.P t)=true/\e.size≠0/\(len+1)*e.size<=16777216/\(len+1)*eb<=140737488355328/\parts.toList.map (·.1)=gq (len+1)then
      (if dj m 20=true then(if(parts.toList.map (fun x=>ρ x.2)).all (fun x=>decide (x.ty=e)&&x.plain)=true/\V.Cf (parts.toList.map fun x=>ρ x.2)=true then K (.sr (.l dst) [] 0 (len+1) (some (len+1)) eb e) [(.l dst,.box (.agg (.arr (len+1) e) (parts.toList.map fun x=>ρ x.2)))] []else none)else match ED (parts.toList.map fun x=>ρ x.2)with|some cs=>if(parts.toList.map (fun x=>ρ x.2)).all (fun x=>decide (x.ty=e)&&x.plain)=true then(if m=4 then K (.sl eb e cs dst) [] [(dst,some cs.length)]else K (.d (.slice eb e) (.slice cs)) [] [])else none|none=>none)else none)
   |_=>none)
 | .build T parts=>if CE X.P T=true/\(ty X.P T).CG=true/\(ty X.P T).isAgg=true/\TI (ty X.P T) (Ai (ty X.P T)) (parts.toList.map fun p=>(p.1,ρ p.2))=true then
   K (JY (ty X.P T) (Ai (ty X.P T)) (parts.toList.map fun p=>(p.1,ρ p.2))) [] []else none
 | .makeSlice t l c=>(match ty X.P t with
   | .slice eb e=>if CE X.P (Af X.P t)=true/\(ρ l).Ew/\(ρ c).Ew/\e.size≠0 then(if 0<=(ρ l).toInt/\(ρ l).toInt<=(ρ c).toInt/\(ρ c).toInt<=9223372036854775807/\(ρ c).toInt.toNat*eb<=140737488355328 then
     K (.sr (.l dst) [] 0 (ρ l).toInt.toNat (if m=9 then none else some (ρ c).toInt.toNat) eb e) [(.l dst,.box (.d (.arr (ρ l).toInt.toNat e) (.agg (List.replicate (ρ l).toInt.toNat (AL e)))))] []else none)else none
   |_=>none)
 | .makeMap T r=>(match r,Gr X.P T with|none,some (kt,et)=>K (.mp (.l dst)) [(.l dst,.map (ty X.P kt) (ty X.P et) [])] []|_,_=>none)
 | .lookup T x i ok=>(match Gr X.P T,ρ x with
   |some (kt,et),.mp k=>(match s.obj k with
     |some (.map kτ _ es)=>if kτ=ty X.P kt/\CJ X.P kt=true/\CE X.P et=true/\(ρ i).DK kτ then
       Ng (ty X.P et) es (ρ i).toC (fun r=>K (if ok then .tup [r.getD (Ai (ty X.P et)),.d .bool (.bool r.isSome)]else r.getD (Ai (ty X.P et))) [] [])else none
     |_=>none)
   |_,_=>none)
 | .call c=>(match c.callee with| .value _=>none| .builtin .append=>(match c.args.toList,c.argTypes.toList with| [x,y],[t,t']=>NX X.P m dst s t t' (ρ x) (ρ y) K|_,_=>none)| .builtin .len=>(match c.args.toList,c.argTypes.toList with| [x],[T]=>(match ρ x with| .mp k=>QG X.P s T k fun v=>K v [] []|_=>Gd X.P o.op ρ fun v=>K v [] [])|_,_=>Gd X.P o.op ρ fun v=>K v [] [])|_=>Gd X.P o.op ρ fun v=>K v [] [])| .convert src yr x=>(match strOf X.P s src yr (ρ x)with|some ys=>K (.d .str (.str (ys.map KT))) [] []|none=>Gd X.P o.op ρ fun v=>K v [] [])|_=>Gd X.P o.op ρ fun v=>K v [] []
theorem q0T {P:Program} {md:List (Nat × Nat)} {m dst:Nat} (hm:CD md dst=m) {s:S} {A':Key->Option O} (hA:leA s.A A') {t t':TypeId} {x y:V} {R:Type} {r:R} {Kr:K3 R} {K:V->List (Key × O)->List (Nat × Option Nat)->Prop}:
  NX P m dst s t t' x y Kr=some r->(∀v lo tn,Kr v lo tn=some r->K v lo tn)->CE P (Af P t)=true/\(match ty P t,x with| .slice eb e,.emp _ _=>Hv P (s.wA A') t' eb e y fun ys=>if CD md dst=3 then ys≠[]/\K (.sr (.l dst) [] 0 ys.length none eb e) [(.l dst,.box (.d (.arr ys.length e) (.agg ys)))] []else K (.sl eb e ys dst) [] [(dst,some ys.length)]| .slice eb e,.wk=>Hv P (s.wA A') t' eb e y fun ys=>if CD md dst=3 then ys≠[]/\K (.sr (.l dst) [] 0 ys.length none eb e) [(.l dst,.box (.d (.arr ys.length e) (.agg ys)))] []else K (.sl eb e ys dst) [] [(dst,some ys.length)]|_,_=>False):=by
 intro h hK;unfold NX at h;simp only[br]at h;obtain⟨h0,h⟩:=h;refine⟨h0,?_⟩;generalize ty P t=τ at h ⊢;cases τ <;> (try (cases h;done))
 cases x <;> (try (cases h;done)) <;> simp only at h ⊢ <;>
  (refine Ti hA h fun ys h=>?_
   split at h;{rename_i hm3;rw[if_pos (hm.trans hm3)];simp only[br]at h;obtain⟨h1,h⟩:=h;exact⟨by intro e1;subst e1;simp at h1,hK _ _ _ h⟩}
   ·rename_i hm3;rw[if_neg (by rw[hm];exact hm3)];exact hK _ _ _ h)
theorem q04 {X:Cx} {md:List (Nat × Nat)} {m dst:Nat} (hm:CD md dst=m) {o:Oper} {ρ:Operand->V} {s base:S} {A':Key->Option O} (hA:leA s.A A') {R:Type} {r:R} {Kr:K3 R} {K:V->List (Key × O)->List (Nat × Option Nat)->Prop} (h:ekI X m dst o ρ s Kr=some r) (hK:∀v lo tn,Kr v lo tn=some r->K v lo tn):
  iop X md base dst o ρ (s.wA A') K:=by
 unfold ekI at h;unfold iop;generalize o.op=op at h ⊢;split at h
 ·dsimp only;split at h;{rename_i z4t;rw[if_pos (by rw[hm];exact ez z4t)];split at h;{rename_i e0;simp only[e0];split at h;{rename_i e1;simp only[DT hA e1];unfold Xt at h;unfold dG;split at h;{rename_i e2 e3;simp only[e2,e3];simp only[br]at h;obtain⟨h1,h⟩:=h;exact⟨h1.1,h1.2.1,h1.2.2.1,h1.2.2.2.1,h1.2.2.2.2,hK _ _ _ h⟩};{cases h}};{cases h}};{cases h}};rename_i z4t;rw[if_neg fun e=>z4t (by rw[<-hm,e];rfl)];split at h;{rename_i e0;simp only[e0];split at h;{rename_i e1;simp only[DT hA e1];simp only[br]at h;obtain⟨h1,h⟩:=h;exact⟨V.Nv h1.1,h1.2.1,h1.2.2,hK _ _ _ h⟩};{cases h}};{rename_i e0;simp only[e0];simp only[br]at h;obtain⟨h1,h⟩:=h;exact⟨h1.1,h1.2,hK _ _ _ h⟩};{cases h}
 ·simp only[br]at h;obtain⟨h1,h⟩:=h;exact⟨h1,hK _ _ _ h⟩
 ·dsimp only;split at h;{rename_i hm5;rw[if_pos (hm.trans hm5)];simp only[br]at h;obtain⟨h1,h⟩:=h;split at h;{rename_i cc hcc;rw[hcc];exact⟨h1,hK _ _ _ h⟩};{cases h}};{rename_i hm5;rw[if_neg (by rw[hm];exact hm5)];simp only[br]at h;obtain⟨h1,h⟩:=h;exact⟨h1.1,h1.2,hK _ _ _ h⟩}
 ·rename_i t len parts;dsimp only;generalize ty X.P t=τ at h ⊢;cases τ <;> (try (cases h;done));cases len with
  |zero=>
   simp only[br]at h;obtain⟨h1,h⟩:=h;exact⟨h1,hK _ _ _ h⟩
  |succ len=>
   simp only[br]at h;obtain⟨h1,h⟩:=h;refine⟨h1.1,h1.2.1,h1.2.2.1,h1.2.2.2.1,h1.2.2.2.2,?_⟩;split at h;{rename_i h20;rw[if_pos (by rw[hm];exact ez h20)];simp only[br]at h;obtain⟨h2,h⟩:=h;exact⟨fun x hx=>by have:=eh.1 h2.1 x hx;simpa using this,h2.2,hK _ _ _ h⟩};rename_i h20;rw[if_neg fun e=>h20 (by rw[<-hm,e];rfl)];split at h;{rename_i e0;rw[e0];simp only[br]at h;obtain⟨h2,h⟩:=h;refine⟨fun x hx=>?_,?_⟩;{have:=eh.1 h2 x hx;simpa using this};{rw[hm];split at h;{rename_i e4;rw[if_pos e4];exact hK _ _ _ h};{rename_i e4;rw[if_neg e4];exact hK _ _ _ h}}};{cases h}
 ·simp only[br]at h;obtain⟨h1,h⟩:=h;exact⟨h1.1,h1.2.1,h1.2.2.1,gT h1.2.2.2,hK _ _ _ h⟩
 ·rename_i t _ _;dsimp only;generalize ty X.P t=τ at h ⊢;cases τ <;> (try (cases h;done));simp only[br]at h;obtain⟨h1,h⟩:=h;obtain⟨h2,h⟩:=h;exact⟨h1.1,h1.2.1,h1.2.2.1,h2.1,h2.2.1,h2.2.2.1,h2.2.2.2,h1.2.2.2,by rw[hm];exact hK _ _ _ h⟩
 ·split at h;{rename_i e0;simp only[e0];exact hK _ _ _ h};{cases h}
 ·split at h;{rename_i e0 e1;simp only[e0,e1];split at h;{rename_i e2;simp only[DT hA e2];simp only[br]at h;obtain⟨h1,h⟩:=h;refine⟨h1.1,h1.2.1,h1.2.2.1,h1.2.2.2,?_⟩;exact hK _ _ _ (q1c h)};{cases h}};{cases h}
 ·split at h;{cases h};{rename_i e0;simp only[e0];split at h;{rename_i e1 e2;simp only[e1,e2];exact q0T hm hA h hK};{cases h}};{rename_i e0;simp only[e0];split at h;{rename_i e1 e2;simp only[e1,e2];split at h;{rename_i e3;simp only[e3];unfold QG at h;split at h;{rename_i e4 e5;simp only[br]at h;obtain⟨h2,h⟩:=h;simp only[e4,DT hA e5];exact⟨h2,hK _ _ _ h⟩};{cases h}};{rename_i hx;split;{rename_i k hk;exact(hx k hk).elim};{exact QJ h (fun v h=>hK _ _ _ h)}}};{rename_i hx;split;{rename_i a b hk hk2;exact(hx _ _ hk hk2).elim};{exact QJ h (fun v h=>hK _ _ _ h)}}};{rename_i h1 h2 h3;dsimp only;split;{rename_i e;exact(h1 _ e).elim};{rename_i e;exact(h2 e).elim};{rename_i e;exact(h3 e).elim};{exact QJ h (fun v h=>hK _ _ _ h)}}
 ·split at h;{rename_i e0;simp only[q7m hA e0];exact hK _ _ _ h};{have hp:=QJ (K:=fun y=>K y [] []) h (fun v h=>hK _ _ _ h);dsimp only;split;{rename_i e1;exact(q7l (K:=fun y=>K y [] []) e1 hp).elim};{exact hp}}
 ·split <;> first
   |exact QJ h (fun v h=>hK _ _ _ h)|(rename_i hx;exact(hx _ rfl).elim)|(rename_i hx _;exact(hx _ _ rfl).elim)|(rename_i hx _ _ _ _;exact(hx _ _ _ _ rfl).elim)|(rename_i hx _ _ _ _ _;exact(hx _ _ _ _ rfl).elim)|(exfalso;simp[Gd]at h;done)|simp_all
abbrev KS (R:Type):=V->S->Option R
def Kn (s:S) (t n:Nat):Option Bool:=
 match s.live t with
 |some m=>some (dj m n)|none=>none
mutual
def V.KH (lv:Nat->Option Nat):List Nat->V->List (Nat × List Nat)
 |p,.sl _ _ _ t=>(match lv t with|some _=>[(t,p)]|none=>[])|p,.agg _ vs=>V.Vw lv p 0 vs|_,_=>[]
def V.Vw (lv:Nat->Option Nat):List Nat->Nat->List V->List (Nat × List Nat)
 |_,_,[]=>[]|p,i,x::xs=>V.KH lv (p++[i]) x++V.Vw lv p (i+1) xs
end
mutual
def V.Ls (σ:List (Nat × List Nat)) (lv:Nat->Option Nat):List Nat->V->V
 |p,.sl eb e cs t=>(match lv t with|some _=>if look σ t=some p then .ts eb e cs else .d (.slice eb e) (.slice cs)|none=>.d (.slice eb e) (.slice cs))|p,.agg τ vs=>.agg τ (V.UH σ lv p 0 vs)|_,x=>x
def V.UH (σ:List (Nat × List Nat)) (lv:Nat->Option Nat):List Nat->Nat->List V->List V
 |_,_,[]=>[]|p,i,x::xs=>V.Ls σ lv (p++[i]) x::V.UH σ lv p (i+1) xs
end
mutual
def V.GR (lv:Nat->Option Nat):V->Bool
 | .sl _ _ cs t=>(match lv t with|some m=>dj m cs.length|none=>true)| .agg _ vs=>V.Jx lv vs|_=>true
def V.Jx (lv:Nat->Option Nat):List V->Bool
 | []=>true|x::xs=>(match x with| .sl _ _ _ _| .agg _ _=>x.GR lv&&V.Jx lv xs|_=>V.Jx lv xs)
end
mutual
theorem V.cU {lv:Nat->Option Nat}:∀(x:V) (p:List Nat),x.GR lv=true->x.sites lv p=x.KH lv p
 | .sl _ _ cs t,p,h=>by simp only[V.GR]at h;simp only[rq,V.KH];split at h;{rename_i m e;rw[e,ez h];simp};{rename_i e;rw[e];simp}
 | .agg _ vs,p,h=>by simp only[V.GR]at h;simp only[rq,V.KH,V.wP vs p 0 h]
 | .d _ _,_,_| .ts _ _ _,_,_| .emp _ _,_,_| .wk,_,_| .ptr _ _ _,_,_| .wm _ _,_,_| .sr _ _ _ _ _ _ _,_,_| .mp _,_,_| .fn _ _,_,_| .tup _,_,_| .top _,_,_| .any,_,_=>by simp[rq,V.KH]
theorem V.wP {lv:Nat->Option Nat}:∀(xs:List V) (p:List Nat) (i:Nat),V.Jx lv xs=true->V.SV lv p i xs=V.Vw lv p i xs
 | [],_,_,_=>rfl|x::xs,p,i,h=>by
  have hx:x.GR lv=true/\V.Jx lv xs=true:=by simp only[V.Jx]at h;split at h;{simpa using h};{simpa using h};{rename_i h1 h2;refine⟨?_,h⟩;cases x <;> first|rfl|exact absurd rfl (h1 _ _ _ _)|exact absurd rfl (h2 _ _)}
  simp only[V.SV,V.Vw,V.cU x _ hx.1,V.wP xs p (i+1) hx.2]
end
mutual
theorem V.Yh {lv:Nat->Option Nat} {σ:List (Nat × List Nat)}:∀(x:V) (p:List Nat),x.GR lv=true->x.CA σ lv p=x.Ls σ lv p
 | .sl _ _ cs t,p,h=>by simp only[V.GR]at h;simp only[V.CA,V.Ls];split at h;{rename_i m e;rw[e,ez h];simp};{rename_i e;rw[e];simp}
 | .agg _ vs,p,h=>by simp only[V.GR]at h;simp only[V.CA,V.Ls,V.nA vs p 0 h]
 | .d _ _,_,_| .ts _ _ _,_,_| .emp _ _,_,_| .wk,_,_| .ptr _ _ _,_,_| .wm _ _,_,_| .sr _ _ _ _ _ _ _,_,_| .mp _,_,_| .fn _ _,_,_| .tup _,_,_| .top _,_,_| .any,_,_=>by simp[V.CA,V.Ls]
theorem V.nA {lv:Nat->Option Nat} {σ:List (Nat × List Nat)}:∀(xs:List V) (p:List Nat) (i:Nat),V.Jx lv xs=true->V.Hf σ lv p i xs=V.UH σ lv p i xs
 | [],_,_,_=>rfl|x::xs,p,i,h=>by
  have hx:x.GR lv=true/\V.Jx lv xs=true:=by simp only[V.Jx]at h;split at h;{simpa using h};{simpa using h};{rename_i h1 h2;refine⟨?_,h⟩;cases x <;> first|rfl|exact absurd rfl (h1 _ _ _ _)|exact absurd rfl (h2 _ _)}
  simp only[V.Hf,V.UH,V.Yh x _ hx.1,V.nA xs p (i+1) hx.2]
end
def WN (s:S):Nat->Nat->Nat
 |0,d=>d|f+1,d=>if(s.obj (.l d)).isNone=true then d else WN s f (d+100000000)
def ekT {R:Type} (X:Cx) (m:Nat) (dst:Nat) (o:Oper) (ρ:Operand->V) (s:S) (K:KS R):Option R:=
 match o.op with
 | .store T p y=>(match ρ p with
   | .ptr k q τ=>(match s.obj k with
     |some (.box x)=>if τ=ty X.P T/\τ.known=true/\(CC τ (ρ y)).ty=τ/\(CC τ (ρ y)).plain=true/\(x.at q).isAny=false/\x.ty.CG=true/\(CC τ (ρ y)).okH=true then
       (match CC τ (ρ y)with
       | .sl eb e cs t=>(match Kn s t cs.length with|some b=>(bif b then K .any ((s.put k (.box (x.setAt q (.ts eb e cs)))).tok t none)else none)|none=>K .any (s.put k (.box (x.setAt q (.d (.slice eb e) (.slice cs))))))|z=>(bif z.GR s.live then K .any (EH (z.KH s.live q) (s.put k (.box (x.setAt q (z.Ls (z.KH s.live q) s.live q)))))else none))else none
     |_=>none)
   |_=>none)
 | .box _ x=>if(ρ x).plain=true/\(ρ x).okH=true/\(s.obj (.l dst)).isNone then
   (bif (ρ x).GR s.live then K (.ptr (.l dst) [] (ρ x).ty) (EH ((ρ x).KH s.live []) (s.put (.l dst) (.box ((ρ x).Ls ((ρ x).KH s.live []) s.live []))))else none)else none
 | .load T x=>(match ρ x with| .ptr k q τ=>(match s.obj k with|some (.box y)=>(match y.at q with| .ts eb e cs=>if m=1/\τ=ty X.P T/\τ= .slice eb e/\y.ty.CG=true/\s.known dst=false then K (.sl eb e cs dst) ((s.put k (.box (y.setAt q (.d (.slice eb e) (.slice cs))))).tok dst (some cs.length))else none|_=>none)|_=>none)|_=>none)
 | .mapUpdate T x i y=>(match Gr X.P T,ρ x with
   |some (kt,et),.mp k=>(match s.obj k with
     |some (.map kτ vτ es)=>if kτ=ty X.P kt/\vτ=ty X.P et/\CJ X.P kt=true/\kτ.flat=true/\(ρ i).DK kτ/\(CC vτ (ρ y).CB).ty=vτ/\(CC vτ (ρ y).CB).plain=true/\(CC vτ (ρ y).CB).BJ=true then
       K .any (s.put k (.map kτ vτ (GV es (ρ i).toC (CC vτ (ρ y).CB))))else none
     |_=>none)
   |_,_=>none)
 | .call c=>(match c.callee with
   | .builtin .append=>(match c.args.toList,c.argTypes.toList with
     | [x,y],[t,t']=>if CE X.P (Af X.P t)=true then(match ty X.P t,ρ x with
       | .slice eb e,.sl eb' e' cs tk=>if eb'=eb/\e'=e then(match Kn s tk cs.length with|some b=>(bif b then(IM X.P s t' eb e (ρ y) fun ys=>if(cs.length+ys.length)*eb<=140737488355328/\cs.length+ys.length<=maxLen then K (.sl eb e (cs++ys) tk) (s.tok tk (some (cs.length+ys.length)))else none)else none)|none=>none)else none
       | .slice eb e,.sr k q lo n cp eb' e'=>if q=[]/\lo=0/\cp.isNone=true/\eb'=eb/\e'=e then(match s.obj k with
         |some (.box (.d τ cc))=>(match τ with
          | .arr M e2=>if e2=e/\(s.obj (.l (WN s 8 dst))).isNone then
            IM X.P s t' eb e (ρ y) (fun ys=>if(n+ys.length)*eb<=140737488355328/\n+ys.length<=maxLen then
             K (.sr (.l (WN s 8 dst)) [] 0 (n+ys.length) none eb e) ((s.put k (.dead (.arr M e))).put (.l (WN s 8 dst)) (.box (.d (.arr (n+ys.length) e) (.agg (cc.elems.take n++ys)))))else none)else none
          |_=>none)
         |_=>none)else none
       |_,_=>none)else none
     |_,_=>none)
   | .builtin .copy=>(match c.args.toList,c.argTypes.toList with
     | [x,y],[t,t']=>if CE X.P (Af X.P t)=true then(match ty X.P t,ρ x with
       | .slice eb e,.sr k q lo n cp eb' e'=>if cp.isSome=true/\eb'=eb/\e'=e then(match s.obj k with
         |some (.box Z)=>(match Z.at q with
          | .d τ cc=>(match τ with
           | .arr m e2=>if e2=e/\Z.ty.CG=true then(if 0<n then
             IM X.P s t' eb e (ρ y) (fun ys=>K (.d (.int .i64) (.int (min ys.length n:Nat))) (s.put k (.box (Z.setAt q (.d (.arr m e) (.agg (EZ cc.elems lo n ys)))))))else none)else none
           |_=>none)
          |_=>none)
         |_=>none)else none
       |_,_=>none)else none
     |_,_=>none)
   |_=>none)
 |_=>none
theorem q2h {lv:Nat->Option Nat} {σ:List (Nat × List Nat)} {p:List Nat} {eb:Nat} {e:Ty} {cs:List C} {t:Nat} (h:look σ t=some p) (hl:lv t=some cs.length):V.CA σ lv p (.sl eb e cs t)= .ts eb e cs:=by simp only[V.CA];exact if_pos ⟨h,hl⟩
theorem q2g {lv:Nat->Option Nat} {σ:List (Nat × List Nat)} {p:List Nat} {eb:Nat} {e:Ty} {cs:List C} {t:Nat} (hl:lv t=none):V.CA σ lv p (.sl eb e cs t)= .d (.slice eb e) (.slice cs):=by simp only[V.CA];exact if_neg (by rw[hl];simp)
theorem ZP {s:S} {t n:Nat} (h:Kn s t n=some true):s.live t=some n:=by unfold Kn at h;split at h;{rename_i m e;rw[e,ez (nh h)]};{cases h}
theorem q1q {X:Cx} {md:List (Nat × Nat)} {m dst:Nat} (hm:CD md dst=m) {o:Oper} {ρ:Operand->V} {s:S} {A':Key->Option O} (hA:leA s.A A') {R:Type} {r:R} {Kr:KS R} {K:V->S->Prop} (h:ekT X m dst o ρ s Kr=some r) (hK:∀v s1,Kr v s1=some r->K v (s1.wA A')):
  top X md dst o ρ (s.wA A') K:=by
 unfold ekT at h;unfold top;generalize o.op=op at h ⊢;split at h
 ·split at h
  ·rename_i e0;simp only[e0];split at h
   ·rename_i e1;simp only[DT hA e1];simp only[br]at h;obtain⟨h1,h⟩:=h;refine⟨h1.1,h1.2.1,h1.2.2.1,h1.2.2.2.1,V.Nv h1.2.2.2.2.1,h1.2.2.2.2.2.1,h1.2.2.2.2.2.2,?_⟩;split at h
    ·rename_i eb e cs t e2;rw[e2];split at h
     ·rename_i b e3;cases b with
      |false=>cases h
      |true=>
       have hl:=ZP (s:=s) e3;have hK:=hK _ _ h;have e4:∀p,rq (s.wA A').live p (V.sl eb e cs t)=[(t,p)]:=by intro p;simp only[rq];exact if_pos hl
       rw[e4,q2h (lv:=(s.wA A').live) (σ:=[(t,_)]) (by simp[look]) hl];exact hK
     ·rename_i e3;have hl:s.live t=none:=by unfold Kn at e3;split at e3;{cases e3};{rename_i e5;exact e5}
      have hK:=hK _ _ h;have e4:∀p,rq (s.wA A').live p (V.sl eb e cs t)=[]:=by intro p;simp only[rq];exact if_neg (by rw[q3E,hl];simp)
      rw[e4,q2g (lv:=(s.wA A').live) hl];exact hK
    ·rename_i z hz;generalize CC _ (ρ _)=z at h ⊢;cases hn:z.GR s.live with
     |false=>rw[hn]at h;cases h
     |true=>
     rw[hn,cond_true,<-V.cU z _ hn,<-V.Yh z _ hn]at h;have hK:=hK _ _ h;rw[<-UM]at hK;exact hK
   ·cases h
  ·cases h
 ·simp only[br]at h;obtain⟨h1,h⟩:=h;rename_i _ x;cases hn:(ρ x).GR s.live with
  |false=>rw[hn]at h;cases h
  |true=>
  rw[hn,cond_true,<-V.cU (ρ x) _ hn,<-V.Yh (ρ x) _ hn]at h;have hK:=hK _ _ h;rw[<-UM]at hK;exact⟨h1.1,h1.2.1,by rw[Jy];simpa using h1.2.2,hK⟩
 ·split at h;{rename_i e0;simp only[e0];split at h;{rename_i e1;simp only[DT hA e1];split at h;{rename_i e2;simp only[e2];simp only[br]at h;obtain⟨h1,h⟩:=h;exact⟨hm.trans h1.1,h1.2.1,h1.2.2.1,h1.2.2.2.1,h1.2.2.2.2,hK _ _ h⟩};{cases h}};{cases h}};{cases h}
 ·split at h;{rename_i e0 e1;simp only[e0,e1];split at h;{rename_i e2;simp only[DT hA e2];simp only[br]at h;obtain⟨h1,h⟩:=h;have hK:=hK _ _ h;rw[uM]at hK;exact⟨h1.1,h1.2.1,h1.2.2.1,h1.2.2.2.1,h1.2.2.2.2.1,h1.2.2.2.2.2.1,h1.2.2.2.2.2.2.1,h1.2.2.2.2.2.2.2,hK⟩};{cases h}};{cases h}
 ·split at h
  ·rename_i e0;simp only[e0];split at h
   ·rename_i e1 e2;simp only[e1,e2];simp only[br]at h;obtain⟨h0,h⟩:=h;refine⟨h0,?_⟩;split at h
    ·rename_i e3 e4;simp only[e3,e4];simp only[br]at h;obtain⟨h1,h⟩:=h;split at h
     ·rename_i b e5;cases b with
      |false=>cases h
      |true=>
       simp only[cond_true]at h;refine⟨h1.1,h1.2,ZP (s:=s) e5,?_⟩;refine Ti hA h fun ys h=>?_;simp only[br]at h;obtain⟨h2,h⟩:=h;exact⟨h2.1,h2.2,hK _ _ h⟩
     ·cases h
    ·rename_i e3 e4;simp only[e3,e4];simp only[br]at h;obtain⟨⟨rfl,rfl,hcp,h1⟩,h⟩:=h;rename_i cp _ _;cases cp with
     |some c=>cases hcp
     |none=>
      split at h;{rename_i e5;simp only[DT hA e5];split at h;{simp only[br]at h;obtain⟨⟨h2,h3⟩,h⟩:=h;refine⟨h1.1,h1.2,h2,_,by rw[Jy];simpa using h3,?_⟩;refine Ti hA h fun ys h=>?_;simp only[br]at h;obtain⟨h4,h⟩:=h;exact⟨h4.1,h4.2,hK _ _ h⟩};{cases h}};{cases h}
    ·cases h
   ·cases h
  ·rename_i e0;simp only[e0];split at h
   ·rename_i e1 e2;simp only[e1,e2];simp only[br]at h;obtain⟨h0,h⟩:=h;refine⟨h0,?_⟩;split at h
    ·rename_i e3 e4;simp only[e3,e4];simp only[br]at h;obtain⟨⟨hcp,rfl,rfl⟩,h⟩:=h;rename_i cp _ _;cases cp with
     |none=>cases hcp
     |some c0=>
      split at h;{rename_i e5;simp only[DT hA e5];split at h;{rename_i e6;split at h;{rename_i m e2';simp only[e6];simp only[br]at h;obtain⟨⟨rfl,h3⟩,h4,h⟩:=h;refine⟨by trivial,by trivial,by trivial,h3,h4,?_⟩;refine Ti hA h fun ys h=>?_;exact hK _ _ h};{cases h}};{cases h}};{cases h}
    ·cases h
   ·cases h
  ·cases h
 ·cases h
theorem q07 {R:Type} (op:BinOp) (k:IntKind) (a b:Int) (K:V->Option R):Nd op k a b K=(Nd op k a b some).bind K:=by unfold Nd;split <;> first|rfl|(split <;> rfl)
theorem q1g {R:Type} (op:BinOp) (k:IntKind) (a b:Int) (K:V->Option R):Nh op k a b K=(Nh op k a b some).bind K:=by unfold Nh;split <;> first|rfl|(split <;> rfl)
theorem q1n {R:Type} (op:BinOp) (a b:List UInt8) (K:V->Option R):Nk op a b K=(Nk op a b some).bind K:=by unfold Nk;split <;> first|rfl|(split <;> rfl)
theorem jX {R:Type} (op:BinOp) (b:Bool) (K:V->Option R):Lm op b K=(Lm op b some).bind K:=by unfold Lm;split <;> rfl
theorem q0W {R:Type} (op:BinOp) (a b:Bool) (K:V->Option R):QD op a b K=(QD op a b some).bind K:=by unfold QD;split <;> rfl
theorem q1d {R:Type} (op:BinOp) (a b:Option Bool) (K:V->Option R):QI op a b K=(QI op a b some).bind K:=by unfold QI;split <;> rfl
theorem q1j {R:Type} (op:BinOp) (a:Option (Option Bool)) (b:V) (K:V->Option R):QK op a b K=(QK op a b some).bind K:=by unfold QK;split <;> rfl
theorem q0U {R:Type} (P:Program) (op:BinOp) (T:TypeId) (x y:V) (K:V->Option R):NY P op T x y K=(NY P op T x y some).bind K:=by unfold NY;split;{split;{split;{split;{exact q1g ..};{rfl}};{split;{exact q07 ..};{rfl}}};{rfl}};{split;{exact q0W ..};{rfl}};{split;{exact q1n ..};{rfl}};{exact q1d ..};{split;{exact jX ..};{rfl}};{split;{exact jX ..};{rfl}};{exact q1j ..};{rfl}
theorem q1k {R:Type} (P:Program) (T:TypeId) (x:V) (lo hi mx:Option V) (K:V->Option R):Ni P T x lo hi mx K=(Ni P T x lo hi mx some).bind K:=by
 unfold Ni
 repeat' (first|rfl|split)
theorem q1a {R:Type} (P:Program) (T:TypeId) (x:V) (K:V->Option R):Nf P T x K=(Nf P T x some).bind K:=by
 unfold Nf
 repeat' (first|rfl|split)
theorem q05 {R:Type} (P:Program) (T:TypeId) (x i:V) (K:V->Option R):Nc P T x i K=(Nc P T x i some).bind K:=by
 unfold Nc
 repeat' (first|rfl|split)
theorem q01 {R:Type} (P:Program) (T:TypeId) (x:V) (i:Nat) (K:V->Option R):Nb P T x i K=(Nb P T x i some).bind K:=by
 unfold Nb
 repeat' (first|rfl|split)
theorem q1s {R:Type} (P:Program) (op:UnOp) (T:TypeId) (x:V) (K:V->Option R):Nl P op T x K=(Nl P op T x some).bind K:=by
 unfold Nl
 repeat' (first|rfl|split)
theorem q0Z {R:Type} (P:Program) (a b:TypeId) (x:V) (K:V->Option R):Na P a b x K=(Na P a b x some).bind K:=by
 unfold Na
 repeat' (first|rfl|split)
theorem q0X {R:Type} (P:Program) (b:Builtin) (ts:Array TypeId) (xs:List V) (K:V->Option R):NZ P b ts xs K=(NZ P b ts xs some).bind K:=by
 unfold NZ
 repeat' (first|rfl|exact q1a .. |split)
theorem kF {R:Type} (P:Program) (op:Op) (ρ:Operand->V) (K:V->Option R):Gd P op ρ K=(Gd P op ρ some).bind K:=by unfold Gd;split;{rfl};{rfl};{split;{cases(ρ _).toBool <;> rfl};{rfl}};{split <;> rfl};{exact q0U ..};{exact q1s ..};{exact q0Z ..};{exact q01 ..};{split <;> rfl};{exact q05 ..};{repeat' (first|rfl|split)};{exact q1k ..};{repeat' (first|rfl|split)};{repeat' (first|rfl|split)};{repeat' (first|rfl|split)};{repeat' (first|rfl|exact q0X .. |split)};{rfl}
theorem KZ {R:Type} (P:Program) (s:S) (t':TypeId) (eb:Nat) (e:Ty) (Y:V) (K:List C->Option R):IM P s t' eb e Y K=(IM P s t' eb e Y some).bind K:=by
 unfold IM
 repeat' (first|rfl|split)
def K3.run {R:Type} (K:K3 R) (r:RI):Option R:=K r.1 r.2.1 r.2.2
def ri:K3 RI:=fun v lo tn=>some (v,lo,tn)
theorem LY {α β γ:Type} (x:Option α) (f:α->Option β) (g:β->Option γ):(x.bind f).bind g=x.bind fun a=>(f a).bind g:=by cases x <;> rfl
theorem q0S {R:Type} (P:Program) (m dst:Nat) (s:S) (t t':TypeId) (x y:V) (K:K3 R):NX P m dst s t t' x y K=(NX P m dst s t t' x y ri).bind K.run:=by
 have key:∀eb e,(IM P s t' eb e y fun ys=>if m=3 then(if ys.isEmpty=false then K (.sr (.l dst) [] 0 ys.length none eb e) [(.l dst,.box (.d (.arr ys.length e) (.agg ys)))] []else none)else K (.sl eb e ys dst) [] [(dst,some ys.length)])=
   (IM P s t' eb e y fun ys=>if m=3 then(if ys.isEmpty=false then ri (.sr (.l dst) [] 0 ys.length none eb e) [(.l dst,.box (.d (.arr ys.length e) (.agg ys)))] []else none)else ri (.sl eb e ys dst) [] [(dst,some ys.length)]).bind K.run:=by
  intro eb e;rw[KZ,KZ P s t' eb e y (fun ys=>if m=3 then(if ys.isEmpty=false then ri _ _ _ else none)else ri _ _ _),LY];congr 1;funext ys
  repeat' (first|rfl|split)
 unfold NX;split;{split;{split;{exact key _ _};{exact key _ _};{rfl}};{rfl}};{rfl}
theorem kC {R:Type} (P:Program) (s:S) (T:TypeId) (k:Key) (K:V->Option R):QG P s T k K=(QG P s T k some).bind K:=by
 unfold QG
 repeat' (first|rfl|split)
theorem kD {R:Type} (τ:Ty) (c:C) (K:Option V->Option R) (es:List (C × V)):Ng τ es c K=(Ng τ es c some).bind K:=by unfold Ng;cases De τ es <;> cases IU es c <;> rfl
theorem q03 {R:Type} (X:Cx) (m dst:Nat) (o:Oper) (ρ:Operand->V) (s:S) (K:K3 R):ekI X m dst o ρ s K=(ekI X m dst o ρ s ri).bind K.run:=by
 have pv:∀op,Gd X.P op ρ (fun v=>K v [] [])=(Gd X.P op ρ fun v=>ri v [] []).bind K.run:=by intro op;rw[kF,kF X.P op ρ (fun v=>ri v [] []),LY];rfl
 unfold ekI;generalize o.op=op;split;{unfold Xt;repeat' (first|rfl|split)};{repeat' (first|rfl|split)};{repeat' (first|rfl|split)};{repeat' (first|rfl|split)};{repeat' (first|rfl|split)};{repeat' (first|rfl|split)};{repeat' (first|rfl|split)};{split;{split;{split;{rw[kD,kD _ _ (fun r=>ri _ [] []),LY];rfl};{rfl}};{rfl}};{rfl}};{split;{rfl};{split;{exact q0S ..};{rfl}};{split;{split;{rw[kC,kC X.P s _ _ (fun v=>ri v [] []),LY];rfl};{exact pv _}};{exact pv _}};{exact pv _}};{split;{rfl};{exact pv _}};{exact pv _}
def rs:KS (V × S):=fun v s=>some (v,s)
def KS.run {R:Type} (K:KS R) (r:V × S):Option R:=K r.1 r.2
theorem gC {α R:Type} (b:Bool) (x:Option α) (f:α->Option R):(bif b then x.bind f else none)=(bif b then x else none).bind f:=by cases b <;> rfl
theorem q1p {R:Type} (X:Cx) (m dst:Nat) (o:Oper) (ρ:Operand->V) (s:S) (K:KS R):ekT X m dst o ρ s K=(ekT X m dst o ρ s rs).bind K.run:=by
 unfold ekT;split;{repeat' (first|rfl|exact gC _ (rs _ _) K.run|split)};{repeat' (first|rfl|exact gC _ (rs _ _) K.run|split)};{repeat' (first|rfl|split)};{repeat' (first|rfl|split)}
 ·split
  ·split
   ·split
    ·split
     ·split
      ·split
       ·rename_i b _;cases b;{rfl}
        ·simp only[cond_true];rw[KZ,KZ X.P s _ _ _ _ (fun ys=>if(_+ys.length)*_<=140737488355328/\_ then rs _ _ else none),LY];congr 1;funext ys
         repeat' (first|rfl|split)
       ·rfl
      ·rfl
     ·split
      ·split
       ·split
        ·split
         ·rw[KZ,KZ X.P s _ _ _ _ (fun ys=>if _/\_ then rs _ _ else none),LY];congr 1;funext ys
          repeat' (first|rfl|split)
         ·rfl
        ·rfl
       ·rfl
      ·rfl
     ·rfl
    ·rfl
   ·rfl
  ·split
   ·split
    ·split
     ·split
      ·split
       ·split;{split;{split;{split;{rw[KZ,KZ X.P s _ _ _ _ (fun ys=>rs _ _),LY];rfl};{rfl}};{rfl}};{rfl}};{rfl}
       ·rfl
      ·rfl
     ·rfl
    ·rfl
   ·rfl
  ·rfl
 ·rfl
theorem Tg {X:Cx} {m dst:Nat} {o:Oper} {ρ:Operand->V} {s:S} {R:Type} {r:R} {Kr:K3 R} (h:ekI X m dst o ρ s Kr=some r):
  ∃v lo tn,Kr v lo tn=some r/\∀A',leA s.A A'->∀(md:List (Nat × Nat)) (base:S),CD md dst=m->∀K:V->List (Key × O)->List (Nat × Option Nat)->Prop,K v lo tn->iop X md base dst o ρ (s.wA A') K:=by
 rw[q03]at h;cases h1:ekI X m dst o ρ s ri with
 |none=>rw[h1]at h;cases h
 |some x=>
  obtain⟨v,lo,tn⟩:=x;rw[h1]at h;refine⟨v,lo,tn,h,fun A' hA md base hm K hK=>q04 hm hA h1 fun v' lo' tn' e=>?_⟩;simp only[ri,eu,gb]at e;obtain⟨rfl,rfl,rfl⟩:=e;exact hK
theorem Xu {X:Cx} {m dst:Nat} {o:Oper} {ρ:Operand->V} {s:S} {R:Type} {r:R} {Kr:KS R} (h:ekT X m dst o ρ s Kr=some r):
  ∃v s1,Kr v s1=some r/\∀A',leA s.A A'->∀(md:List (Nat × Nat)),CD md dst=m->∀K:V->S->Prop,K v (s1.wA A')->top X md dst o ρ (s.wA A') K:=by
 rw[q1p]at h;cases h1:ekT X m dst o ρ s rs with
 |none=>rw[h1]at h;cases h
 |some x=>
  obtain⟨v,s1⟩:=x;rw[h1]at h;refine⟨v,s1,h,fun A' hA md hm K hK=>q1q hm hA h1 fun v' s' e=>?_⟩;simp only[rs,eu,gb]at e;obtain⟨rfl,rfl⟩:=e;exact hK
abbrev Dx (R:Type):=FuncId->List V->(Key->Option O)->(V->List (Key × O)->Option R)->Option R
def Il (X:Cx) {R:Type} (call:Dx R):Prop:=∀f xs A Kr r,call f xs A Kr=some r->∃v L,Bu X f xs A v L/\Kr v L=some r
def Kt {R:Type} (tip:Bool) (s:S):List V->Option R->Option R
 | [],r=>r|x::xs,r=>match x with| .sl _ _ cs t=>bif tip then(match s.live t with|some m=>bif dj m cs.length then Kt tip s xs r else none|none=>Kt tip s xs r)else Kt tip s xs r|_=>Kt tip s xs r
def Mz (P:Program) (tip:Bool) (s:S) (T:TypeId) (x:V):V:=
 match x with
 | .sl eb e cs t=>bif tip then(match s.live t with|some _=>.ts eb e cs|none=>.d (.slice eb e) (.slice cs))else .d (.slice eb e) (.slice cs)|x=>Df P tip s T x
def Sz (P:Program) (tip:Bool) (s:S):List TypeId->List V->List V
 |T::Ts,x::xs=>Mz P tip s T x::Sz P tip s Ts xs|_,_=>[]
def NA (tip:Bool) (s:S) (x:V):Option (Option Nat):=
 match x with
 | .sl _ _ _ t=>bif tip then(match s.live t with|some _=>some (some t)|none=>none)else none|x=>Cg tip s x
def Rt (tip:Bool) (s:S):List V->List Nat
 | []=>[]|x::xs=>(match NA tip s x with|some (some t)=>[t] |_=>[])++Rt tip s xs
def S.Vk (s:S) (tip:Bool) (ys:List V) (d:Nat) (v:V) (L:List (Key × O)):S:=GW d (v.tkR 2000) (Fs (Rt tip s ys) (Fe d L s))
theorem Zx {R:Type} {P:Program} {tip:Bool} {s:S} {r0:Option R} {r:R}:∀{ys:List V},Kt tip s ys r0=some r->
  r0=some r/\Rt tip s ys=Cm tip s ys/\∀Ts,Sz P tip s Ts ys=Cs P tip s Ts ys
 | [],h=>⟨h,rfl,fun Ts=>by cases Ts <;> rfl⟩|x::xs,h=>by
  suffices hs:Kt tip s xs r0=some r/\NA tip s x=Cg tip s x/\∀T,Mz P tip s T x=Df P tip s T x by
   obtain⟨h1,h2,h3⟩:=hs;obtain⟨g1,g2,g3⟩:=Zx (P:=P) h1;refine⟨g1,by simp only[Rt,Cm,h2,g2];rfl,fun Ts=>?_⟩;cases Ts with
   |nil=>rfl|cons T Ts=>simp only[Sz,Cs,h3,g3]
  unfold Kt at h;split at h
  ·rename_i eb e cs t;cases tip with
   |false=>exact⟨h,by simp[NA,Cg],fun T=>by simp[Mz,Df]⟩|true=>
    simp only[cond_true]at h;split at h
    ·rename_i m hm;cases hb:dj m cs.length with
     |false=>rw[hb]at h;cases h
     |true=>
      rw[hb]at h;have:=ez hb;subst this;exact⟨h,by simp[NA,Cg,hm],fun T=>by simp[Mz,Df,hm]⟩
    ·rename_i hm;exact⟨h,by simp[NA,Cg,hm],fun T=>by simp[Mz,Df,hm]⟩
  ·rename_i hx;refine⟨h,?_,fun T=>?_⟩;{unfold NA;split;{exact absurd rfl (hx _ _ _ _)};{rfl}};{unfold Mz;split;{exact absurd rfl (hx _ _ _ _)};{rfl}}
def Jh {R:Type} (X:Cx) (call:Dx R) (tip:Bool) (o:Oper) (ρ:Operand->V) (s:S) (K:V->List (Key × O)->Option R):Option R:=
 match o.op with
 | .call c=>(match c.callee with
  | .value fo=>(match ρ fo with
   | .fn f wq=>Kt tip s (EJ (c.args.toList.map ρ) wq) (if Iu X.P f=true/\c.argTypes.toList.length=c.args.toList.length/\GA (Rt tip s (EJ (c.args.toList.map ρ) wq))=true then
      call f (Sz X.P tip s (Ja c.argTypes.toList wq) (EJ (c.args.toList.map ρ) wq)) s.up K else none)
   |_=>none)
  |_=>none)
 |_=>none
theorem Xp {X:Cx} {R:Type} {call:Dx R} (hc:Il X call) {dst:Nat} {o:Oper} {ρ:Operand->V} {base s B:S} (hB:B=base\/B=base.see s (Ei o ρ)) {r:R} {Kr:V->List (Key × O)->Option R} (h:Jh X call false o ρ B Kr=some r):
  ∃v L,Kr v L=some r/\∀A',leA B.A A'->∀(md:List (Nat × Nat)) (K:V->List (Key × O)->List (Nat × Option Nat)->Prop),(Gt L=true->K ((v.DA 2000).ren (dn dst) (rk dst)) (dnL dst L) (dnT dst (v.tkR 2000))->iop X md (base.wA A') dst o ρ (s.wA A') K)/\
   (CD md dst=0->(∀k o,B.obj k=some o->s.obj k=some o)->leA s.A A'->Gh s dst L=true->Ii s dst (v.tkR 2000)=true->∀K2:V->S->Prop,K2 ((v.DA 2000).ren (dn dst) (rk dst)) ((s.ret false (Ei o ρ) dst v L).wA A')->top X md dst o ρ (s.wA A') K2):=by
 unfold Jh at h;unfold Ei at hB ⊢;unfold iop top;generalize o.op=op at h hB ⊢;split at h
 ·dsimp only;split at h
  ·rename_i e0;simp only[e0]at hB ⊢;split at h
   ·rename_i e1;simp only[e1]at hB ⊢;obtain⟨h,n1,n2⟩:=Zx (P:=X.P) h;rw[n1,n2]at h;simp only[br]at h;obtain⟨h1,h⟩:=h;obtain⟨v,L,hD,hr⟩:=hc _ _ _ _ _ h;refine⟨v,L,hr,fun A' hA md K=>⟨fun hl hK=>.inl ⟨h1.1,h1.2.1,B.wA A',v,L,hB.imp (congrArg (S.wA · A')) (congrArg (S.wA · A')),?_,hl,hK⟩,fun hm hb hA2 hg ht K2 hK=>?_⟩⟩;{rw[TA (s.wA A') B];exact hD.mono (eH hA)}
    ·have hm1:(CD md dst==1)=false:=by rw[hm];rfl
     rw[hm1];refine⟨h1.1,h1.2.1,by rw[VV];rfl,v,L,?_,UD hA2 hg,dK ht,by rw[cG];exact hK⟩;rw[TA (s.wA A') B];refine hD.mono fun k x hk=>eH hA2 k x ?_;simp only[S.up,fa]at hk ⊢;obtain⟨y,h2,h3⟩:=hk;exact⟨y,hb _ _ h2,h3⟩
   ·cases h
  ·cases h
 ·cases h
theorem jZ {X:Cx} {R:Type} {call:Dx R} (hc:Il X call) {tip:Bool} {dst:Nat} {o:Oper} {ρ:Operand->V} {s:S} {r:R} {Kr:V->List (Key × O)->Option R} (h:Jh X call tip o ρ s Kr=some r):
  ∃v L,Kr v L=some r/\s.Vk tip (Ei o ρ) dst v L=s.ret tip (Ei o ρ) dst v L/\(Gh s dst L=true->Ii s dst (v.tkR 2000)=true->∀A',leA s.A A'->∀md:List (Nat × Nat),(CD md dst==1)=tip->∀K2:V->S->Prop,K2 ((v.DA 2000).ren (dn dst) (rk dst)) ((s.ret tip (Ei o ρ) dst v L).wA A')->top X md dst o ρ (s.wA A') K2):=by
 unfold Jh at h;unfold Ei;unfold top;generalize o.op=op at h ⊢;split at h;{dsimp only;split at h;{rename_i e0;simp only[e0];split at h;{rename_i e1;simp only[e1];obtain⟨h,n1,n2⟩:=Zx (P:=X.P) h;rw[n1,n2]at h;simp only[br]at h;obtain⟨h1,h⟩:=h;obtain⟨v,L,hD,hr⟩:=hc _ _ _ _ _ h;refine⟨v,L,hr,by simp only[e0,S.Vk,S.ret,n1],fun hg ht A' hA md hm K2 hK=>?_⟩;rw[hm];refine⟨h1.1,h1.2.1,by rw[bP];exact h1.2.2,v,L,?_,UD hA hg,dK ht,by rw[cG];exact hK⟩;rw[fW];exact hD.mono (eH hA)};{cases h}};{cases h}};{cases h}
section
abbrev Dm:=FuncId->Option (List V->Option V)
def Hy (X:Cx) (ext:Dm):Prop:=∀f g xs v,ext f=some g->g xs=some v->Mo X f xs v
def QO (ext:Dm) (o:Oper) (ρ:Operand->V):Option (Option V):=
 match o.op with
 | .call c=>(match c.callee with| .value fo=>(match ρ fo with| .fn f []=>(match ext f with|some g=>some (g (c.args.toList.map ρ))|none=>none)|_=>none)|_=>none)|_=>none
theorem lK {X:Cx} {ext:Dm} (he:Hy X ext) {md:List (Nat × Nat)} {dst:Nat} {o:Oper} {ρ:Operand->V} {s base:S} {v:V} (h:QO ext o ρ=some (some v)) {K:V->List (Key × O)->List (Nat × Option Nat)->Prop} (hK:K v [] []):
  iop X md base dst o ρ s K:=by
 unfold QO at h;unfold iop;generalize o.op=op at h ⊢;split at h;{dsimp only;split at h;{rename_i e0;simp only[e0];split at h;{rename_i e1;simp only[e1];split at h;{rename_i e2;exact .inr (.inl ⟨by first|rfl|trivial,_,he _ _ _ _ e2 (nh h),hK⟩)};{cases h}};{cases h}};{cases h}};{cases h}
def nN (m:Nat) (o:Oper) (ρ:Operand->V):Bool:=
 match o.op with
 | .store _ _ _| .mapUpdate _ _ _ _=>true| .load _ _=>dj m 1| .box _ x=> !(dj m 5)&& !(ρ x).BJ| .call c=>(match c.callee,c.args.toList with| .builtin .copy,_=>true| .builtin .append,x::_=>(match ρ x with| .sl _ _ _ _=>true| .sr _ _ _ _ _ _ _=>true|_=>false)|_,_=>false)|_=>false
def q2y (o:Oper) (ρ:Operand->V):Bool:=
 match o.op with
 | .load _ x=>(match ρ x with| .wm _ _=>true|_=>false)| .convert _ _ x=>(match ρ x with| .sr _ _ _ _ _ _ _=>false|_=>true)| .alloc _| .box _ _| .makeSlice _ _ _| .makeMap _ _| .lookup _ _ _ _=>false| .call c=>(match c.callee,c.args.toList with| .builtin .append,_=>false| .builtin .copy,_=>false| .builtin .len,x::_=>(match ρ x with| .mp _=>false|_=>true)| .builtin _,_=>true|_,_=>false)|_=>true
def MF (c:C) (b:Bool):C:=match c with| .bool _=>.bool b|c=>c
theorem q3A {c:C} {b:Bool} (h:c.toBool=b):MF c b=c:=by cases c <;> first|rfl|(simp only[C.toBool]at h;subst h;rfl)
def S.lit (s:S) (t:Nat) (c:C) (b:Bool):S:={s with env:=Ky s.env t (.d .bool (MF c b))}
theorem vJ {α:Type}:∀{l:List (Nat × α)} {t:Nat} {x:α},look l t=some x->Ky l t x=l
 | [],t,x,h=>by simp[look]at h
 |(j,y)::l,t,x,h=>by simp only[look]at h;simp only[Ky];split;{rename_i e;rw[if_pos e]at h;cases h;rfl};{rename_i e;rw[if_neg e]at h;rw[vJ h]}
theorem ZO {s:S} {t:Nat} {c:C} {b:Bool} (h:s.get t= .d .bool c) (hb:c.toBool=b):s.lit t c b=s:=by
 have:look s.env t=some (.d .bool c):=by
  unfold S.get at h;cases hl:look s.env t with
  |none=>rw[hl]at h;cases h
  |some x=>rw[hl]at h;simp at h;rw[h]
 rw[<-q3A hb]at this;simp only[S.lit,vJ this]
def Nt (ops:Array Oper) (j:Nat):Nat:=(Fw ops j).getD 0
def Qb {R:Type} (ops:Array Oper) (s:S) (j:Nat) (want:Bool) (go skip:S->Option R):Option R:=
 match gv ops s j with
 | .d .bool c=>(match want with|true=>bif c.toBool then go (s.lit (Nt ops j) c true)else skip (s.lit (Nt ops j) c false)|false=>bif c.toBool then skip (s.lit (Nt ops j) c true)else go (s.lit (Nt ops j) c false))| .tup []=>skip s|_=>none
theorem q18 {ops:Array Oper} {s:S} {j:Nat} {c:C} {b:Bool} (h:gv ops s j= .d .bool c) (hb:c.toBool=b):s.lit (Nt ops j) c b=s:=by unfold gv at h;unfold Nt;split at h;{cases h};{rename_i t e;rw[e];exact ZO h hb}
theorem YZ {R:Type} {ops:Array Oper} {s:S} {j:Nat} {want:Bool} {go skip:S->Option R} {r:R} (h:Qb ops s j want go skip=some r):(go s=some r/\∀p q:Prop,p->gx (gv ops s j) want p q)\/(skip s=some r/\∀p q:Prop,q->gx (gv ops s j) want p q):=by unfold Qb at h;unfold gx;split at h;{rename_i c hb;simp only[hb];cases hc:c.toBool <;> rw[hc]at h <;> cases want <;> simp only[cond_true,cond_false]at h <;> rw[q18 hb hc]at h;{exact .inl ⟨h,fun p q hp=>⟨fun _=>hp,fun h=>absurd rfl h⟩⟩};{exact .inr ⟨h,fun p q hq=>⟨fun h=>(by cases h),fun _=>hq⟩⟩};{exact .inr ⟨h,fun p q hq=>⟨fun h=>(by cases h),fun _=>hq⟩⟩};{exact .inl ⟨h,fun p q hp=>⟨fun _=>hp,fun h=>absurd rfl h⟩⟩}};{rename_i hb;simp only[hb];exact .inr ⟨h,fun p q hq=>hq⟩};{cases h}
theorem pE (s:S) (A':Key->Option O) (x:V):DE (s.wA A') x=DE s x:=by unfold DE;split;{split;{rw[Jy]};{rfl}};{rfl}
theorem ZM (A':Key->Option O):∀(js:List Nat) (s:S),Ds js (s.wA A')=(Ds js s).wA A'
 | [],_=>rfl|j::l,s=>by simp only[Ds];rw[<-ZM A' l];congr 1;rw[Jy];split;{split <;> rfl};{rfl}
def Th {R:Type} (X:Cx) (call:Dx R) (o:Oper) (ρ:Operand->V) (s:S) (K:V->Option R):Option R:=
 match o.op with
 | .call c=>(match c.callee with
  | .value fo=>(match ρ fo with
   | .fn f wq=>(match wq with
    | []=>if Iu X.P f=true/\Fo (c.args.toList.map fun y=>Fg s (ρ y))=true then
      call f (c.args.toList.map fun y=>Fg s (ρ y)) (fun _=>none) (fun v L=>if L.isEmpty=true/\v.Di=true then K v else none)else none
    |_=>none)
   |_=>none)
  |_=>none)
 |_=>none
theorem dD {s:S} {A':Key->Option O} (hA:leA s.A A'):∀(f:Nat) {x:V} {τ:Ty} {c:C},FQ f s x= .d τ c->FQ f (s.wA A') x= .d τ c
 |0,_,_,_,h=>by cases h
 |f+1,x,τ,c,h=>by
  have ih:∀(xs:List V) (cs:List C),ED (xs.map (FQ f s))=some cs->ED (xs.map (FQ f (s.wA A')))=some cs:=by
   intro xs
   induction xs with
   |nil=>exact fun _ h=>h|cons x xs ih=>
    intro cs h;simp only[ep,ED]at h ⊢;rcases wY s f x with e|⟨τ,c,e⟩;{rw[e]at h;simp[CF]at h};{rw[dD hA f e];rw[e]at h;cases e2:ED (xs.map (FQ f s))with|none=>rw[e2]at h;simp[CF]at h|some cs'=>rw[e2]at h;rw[ih _ e2];exact h}
  cases x <;> (try exact h)
  case agg τ0 xs=>
   simp only[FQ]at h ⊢;split at h;{rename_i cs hcs;rw[ih _ _ hcs];exact h};{cases h}
  case sr k q lo n cp eb e=>
   simp only[FQ]at h ⊢;split at h;{rename_i y ho;rw[DT hA ho];dsimp only;split at h;{rename_i e2;rw[dD hA f e2];exact h};{cases h}};{cases h}
theorem q68 {s:S} {A':Key->Option O} (hA:leA s.A A') {x:V} {τ:Ty} {c:C} (h:Fg s x= .d τ c):Fg (s.wA A') x= .d τ c:=dD hA _ h
theorem wZ {s:S} {A':Key->Option O} (hA:leA s.A A'):∀{l:List V},Fo (l.map (Fg s))=true->l.map (Fg (s.wA A'))=l.map (Fg s)
 | [],_=>rfl|x::l,h=>by simp only[ep,Fo,bz]at h;simp only[ep];rw[wZ hA h.2];congr 1;cases hs:Fg s x <;> rw[hs]at h <;> simp at h;exact q68 hA hs
theorem kH {X:Cx} {R:Type} {call:Dx R} (hc:Il X call) {o:Oper} {ρ:Operand->V} {s:S} {r:R} {Kr:V->Option R} (h:Th X call o ρ s Kr=some r):
  ∃v,Kr v=some r/\∀A',leA s.A A'->∀(md:List (Nat × Nat)) (base:S) (dst:Nat) (K:V->List (Key × O)->List (Nat × Option Nat)->Prop),K v [] []->iop X md base dst o ρ (s.wA A') K:=by
 unfold Th at h;unfold iop;generalize o.op=op at h ⊢;split at h
 ·dsimp only;split at h
  ·rename_i c _ fo e0;simp only[e0];split at h
   ·rename_i f wq e1;simp only[e1];split at h
    ·simp only[br]at h;obtain⟨⟨h1,h2⟩,h⟩:=h;obtain⟨v,L,hD,hr⟩:=hc _ _ _ _ _ h;simp only[br]at hr;obtain⟨⟨h3,h4⟩,hr⟩:=hr;have hL:L=[]:=by simpa using h3
     subst hL;refine⟨v,hr,fun A' hA md base dst K hK=>.inr (.inr ⟨by first|rfl|trivial,h1,v,?_⟩)⟩;have e:(c.args.toList.map fun y=>Fg (s.wA A') (ρ y))=c.args.toList.map fun y=>Fg s (ρ y):=by
      have h2':Fo ((c.args.toList.map ρ).map (Fg s))=true:=by rw[nu];exact h2
      have:=wZ (A':=A') hA h2';rw[nu,nu]at this;exact this
     rw[e];exact⟨h2,hD,h4,hK⟩
    ·cases h
   ·cases h
  ·cases h
 ·cases h
def nJ (o:Oper) (ρ:Operand->V):Bool:=
 match o.op with
 | .makeInterface _ _=>true| .binOp _ _ _ y _=>Kj y| .convert _ dst x=>(match ρ x with| .d τ _=>(match τ with| .str=> !(dj dst 0)&&true|_=>false)|_=>false)|_=>false
def Tf {R:Type} (X:Cx) (o:Oper) (ρ:Operand->V) (K:V->Option R) (other:Option R):Option R:=
 match o.op with
 | .convert src dst x=>(match JZ X.P src dst (ρ x)with|some ys=>K (.d (.slice 1 (.int .u8)) (.slice ys))|none=>other)| .makeInterface T _=>if Pe X.P T=true then K (.d .iface (.bool true))else none| .binOp op T x y _=>if Kj y=true/\ty X.P T= .iface then(match op,ρ x with| .eql,.d .iface c=>K (.d .bool (.bool c.isNil))| .neq,.d .iface c=>K (.d .bool (.bool (!c.isNil)))|_,_=>none)else none|_=>none
theorem kA {R:Type} {X:Cx} {o:Oper} {ρ:Operand->V} {r:R} {Kr:V->Option R} {other:Option R} (h:Tf X o ρ Kr other=some r):
  (∃v,Kr v=some r/\∀K:V->Prop,K v->fop X o ρ K)\/other=some r:=by
 unfold Tf at h;unfold fop;generalize o.op=op at h ⊢;split at h;{dsimp only;split at h;{rename_i e0;simp only[e0];exact .inl ⟨_,h,fun K hK=>hK⟩};{exact .inr h}};{simp only[br]at h;exact .inl ⟨_,h.2,fun K hK=>⟨h.1,hK⟩⟩};{simp only[br]at h;obtain⟨h1,h⟩:=h;split at h;{rename_i e0;simp only[e0];exact .inl ⟨_,h,fun K hK=>⟨h1.1,h1.2,hK⟩⟩};{rename_i e0;simp only[e0];exact .inl ⟨_,h,fun K hK=>⟨h1.1,h1.2,hK⟩⟩};{cases h}};{cases h}
def Ym (m:Nat) (o:Oper):Bool:=
 match o.op with
 | .slice _ _ _ _ _=>dj m 4| .convert _ _ _=>dj m 9|_=>false
def Xs {R:Type} (X:Cx) (dst:Nat) (o:Oper) (ρ:Operand->V) (s:S) (K:KS R):Option R:=
 match o.op with
 | .slice T x lo hi mx=>if s.known dst=false/\hi.isSome=true/\mx.isSome=true then(match ty X.P T with| .slice eb e=>(match(ρ x).Eh with|some (eb',e',cs)=>(match Cc (lo.map ρ) 0,Cc (hi.map ρ) 0,Cc (mx.map ρ) 0 with|some l,some h,some m=>if eb'=eb/\e'=e/\l=0 then(if 0<=h/\h=m/\m<=cs.length then K (.sl eb e (cs.take h.toNat) dst) {s with tk:=(dst,some (cs.take h.toNat).length)::s.tk} else none)else none|_,_,_=>none)|none=>none)|_=>none)else none| .convert src yr x=>if(s.obj (.l dst)).isNone=true then(match JZ X.P src yr (ρ x)with|some ys=>K (.sr (.l dst) [] 0 ys.length none 1 (.int .u8)) {s with loc:=(.l dst,.box (.d (.arr ys.length (.int .u8)) (.agg ys)))::s.loc}|none=>none)else none|_=>none
theorem q1i {R:Type} {X:Cx} {dst:Nat} {o:Oper} {ρ:Operand->V} {s:S} {r:R} {Kr:KS R} {m:Nat} (hm0:Ym m o=true) (h:Xs X dst o ρ s Kr=some r):
  ∃v s1,Kr v s1=some r/\∀A',∀md:List (Nat × Nat),CD md dst=m->∀K:V->S->Prop,K v (s1.wA A')->sl3 X md dst o ρ (s.wA A') K:=by
 unfold Ym at hm0;unfold Xs at h;unfold sl3;generalize o.op=op at h hm0 ⊢;split at h;{simp only[br]at h;obtain⟨h1,h⟩:=h;have hm4:=ez hm0;subst hm4;dsimp only;split at h;{rename_i e0;simp only[e0];split at h;{rename_i e1;simp only[e1];split at h;{rename_i e2 e3 e4;simp only[e2,e3,e4];simp only[br]at h;obtain⟨h2,h3,h⟩:=h;exact⟨_,_,h,fun A' md hm K hK=>⟨hm,h1.1,h1.2.1,h1.2.2,h2.1,h2.2.1,h2.2.2,h3.1,h3.2.1,h3.2.2,hK⟩⟩};{cases h}};{cases h}};{cases h}};{simp only[br]at h;obtain⟨h1,h⟩:=h;have hm4:=ez hm0;subst hm4;dsimp only;split at h;{rename_i ys e0;refine⟨_,_,h,fun A' md hm K hK=>⟨hm,by rw[Jy];simpa using h1,?_⟩⟩;rw[e0];exact hK};{cases h}};{cases h}
def Nj {R:Type} (X:Cx) (call:Dx R) (ext:Dm) (m:Nat) (o:Oper) (ρ:Operand->V) (s:S) (K:KS R):Option R:=
 if Yl o=true then
  (match QO ext o ρ with
  |some r=>(match r with|some v=>if m=0 then K v s else none|none=>none)|none=>if dj m 8=true then Th X call o ρ s (fun v=>K v s)else Jh X call (m==1) o ρ s fun v L=>if Gh s (AY o) L=true/\Ii s (AY o) (v.tkR 2000)=true then K ((v.DA 2000).ren (dn (AY o)) (rk (AY o))) (s.Vk (m==1) (Ei o ρ) (AY o) v L)else none)
 else if nN m o ρ=true then ekT X m (AY o) o ρ s K
 else ekI X m (AY o) o ρ s fun v lo tn=>if dj m 1=false/\Eu s lo=true/\Ke s tn=true then K v (s.add lo tn)else none
def QL {R:Type} (X:Cx) (call:Dx R) (ext:Dm) (m:Nat) (o:Oper) (s:S) (K:KS R):Option R:=
 if dj m 100=true then Nj X call ext 0 o (fun y=>DE s (Ae X.gl s y)) (Ds (Fy (o.op.operands.toList.map (Ae X.gl s))) s) K
 else if Ym m o=true then Xs X (AY o) o (Ae X.gl s) s K
 else if nJ o (Ae X.gl s)=true then Tf X o (Ae X.gl s) (fun v=>K v s) (Nj X call ext m o (Ae X.gl s) s K)
 else Nj X call ext m o (Ae X.gl s) s K
section
variable {X:Cx} {R:Type} {call:Dx R} {ext:Dm} (hc:Il X call) (he:Hy X ext)
include hc he
theorem kI {m:Nat} {o:Oper} {ρ:Operand->V} {s:S} {Kr:KS R} {r:R} (h:Nj X call ext m o ρ s Kr=some r):
  ∃v s1,Kr v s1=some r/\∀A',leA s.A A'->∀md:List (Nat × Nat),CD md (AY o)=m->∀K:V->S->Prop,K v (s1.wA A')->
   (m≠1/\iop X md (s.wA A') (AY o) o ρ (s.wA A') (fun v lo tn=>FG (s.wA A') lo/\FH (s.wA A') tn/\K v ((s.wA A').add lo tn)))\/top X md (AY o) o ρ (s.wA A') K:=by
 unfold Nj at h;split at h;{split at h;{rename_i x e0;split at h;{simp only[br]at h;obtain⟨h1,h⟩:=h;exact⟨_,_,h,fun A' hA md hm K hK=>.inl ⟨by rw[h1];decide,lK he e0 ⟨trivial,trivial,hK⟩⟩⟩};{cases h}};{split at h;{rename_i hm8;have hm8:m=8:=ez hm8;obtain⟨v,h1,h2⟩:=kH hc h;exact⟨_,_,h1,fun A' hA md hm K hK=>.inl ⟨by rw[hm8];decide,h2 A' hA md _ _ _ ⟨trivial,trivial,hK⟩⟩⟩};obtain⟨v,L,h1,hq,h2⟩:=jZ (dst:=AY o) hc h;rw[hq]at h1;simp only[br]at h1;obtain⟨⟨h3,h4⟩,h1⟩:=h1;exact⟨_,_,h1,fun A' hA md hm K hK=>.inr (h2 h3 h4 A' hA md (by rw[hm]) K hK)⟩}};{split at h;{obtain⟨v,s1,h1,h2⟩:=Xu h;exact⟨v,s1,h1,fun A' hA md hm K hK=>.inr (h2 A' hA md hm K hK)⟩};{obtain⟨v,lo,tn,h1,h2⟩:=Tg h;simp only[br]at h1;obtain⟨⟨h3,h4,h5⟩,h1⟩:=h1;refine⟨v,_,h1,fun A' hA md hm K hK=>.inl ⟨?_,h2 A' hA md _ hm _ ⟨QZ h4,Qa h5,hK⟩⟩⟩;intro e;subst e;simp at h3}}
theorem q1m {m:Nat} {o:Oper} {s:S} {Kr:KS R} {r:R} (h:QL X call ext m o s Kr=some r):
  ∃v s1,Kr v s1=some r/\∀A',leA s.A A'->∀md:List (Nat × Nat),CD md (AY o)=m->∀K:V->S->Prop,K v (s1.wA A')->sop X md (AY o) o (s.wA A') K:=by
 unfold QL at h;split at h
 ·rename_i z36;have z36:m=100:=ez z36;obtain⟨v,s1,h1,h2⟩:=kI hc he h;refine⟨v,s1,h1,fun A' hA md hm K hK=>.inl ⟨by rw[hm,z36],?_⟩⟩;have hA2:leA (Ds (Fy (o.op.operands.toList.map (Ae X.gl s))) s).A A':=by rw[(Qx _ s).2];exact hA
  have:=h2 A' hA2 [] rfl K hK;unfold qD;simp only[Eo,pE,ZM];exact this.imp (fun h=>h.2) id
 ·have normal:Nj X call ext m o (Ae X.gl s) s Kr=some r->∃v s1,Kr v s1=some r/\∀A',leA s.A A'->∀md:List (Nat × Nat),CD md (AY o)=m->∀K:V->S->Prop,K v (s1.wA A')->sop X md (AY o) o (s.wA A') K:=by intro h;obtain⟨v,s1,h1,h2⟩:=kI hc he h;refine⟨v,s1,h1,fun A' hA md hm K hK=>.inr ?_⟩;have:=h2 A' hA md hm K hK;simp only[Eo];rw[hm];exact this.imp id .inl
  split at h;{rename_i hsl;obtain⟨v,s1,h1,h2⟩:=q1i hsl h;refine⟨v,s1,h1,fun A' hA md hm K hK=>.inr (.inr (.inr (.inr ?_)))⟩;rw[Eo];exact h2 A' md hm K hK};{split at h;{rcases kA h with⟨v,h1,h2⟩|h;{refine⟨v,s,h1,fun A' hA md hm K hK=>.inr (.inr (.inr ?_))⟩;rw[Eo];exact .inl (h2 _ hK)};{exact normal h}};{exact normal h}}
end
end
end Go.E
