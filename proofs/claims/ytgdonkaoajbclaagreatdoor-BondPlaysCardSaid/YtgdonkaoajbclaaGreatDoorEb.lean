/-
 A framework for runs of Go code over abstract data: what it needs, and that it is sound, part 2.
 Conditions: none.
-/
import Derived.Test.YtgdonkaoajbclaaGreatDoorEa
import Derived.Deep.AppendSrc
import Derived.Deep.Upon
import Derived.Great.FillDense
import Derived.Great.BuildSlice
set_option linter.all false
set_option maxRecDepth 100000
set_option maxHeartbeats 4000000
open Array renaming eq_empty_of_size_eq_zero->ia,getElem?_eq_getElem->eh,getElem?_modify->tp,length_toList->jf,map->vx,range->ig,size_append->qo,toList_map->lu,toList_setIfInBounds->rn
open Bool renaming and_eq_true->bg,false_or->jt
open Go.Builtin renaming append_->np,firstCells->fw,zeroCells->fp
open Go.E.C renaming elems->au
open Go.E.Hp renaming le_refl->gu
open Go.E.Ty renaming child->kg,isAgg->jb,size->iy,walk->vw
open Go.E.V renaming get->xv,ty->qa
open Go.Instr renaming alloc->yb,box->wa,buildSlice->vo,fill->qc,loadAt->kz,makeSlice->rh,sureAddr->jx
open Go.IntWalk renaming i64_in->dh
open Go.Program renaming built->wh,bytesOf->nq,cellsOf->ik
open Go.Result renaming andThen_ok->cu
open Go.Sem renaming run_bind->da,run_pure->fc
open Go.Src renaming ofNil->uv,ofSlice->pt
open Go.Tables renaming info?->ue
open Go.Value renaming cells->fe
open Go.World renaming cell?->nu,setCell->xw
open List renaming all_eq_true->ej,append_assoc->dq,cons_append->ji,drop_append->qs,drop_eq_nil_of_le->kh,drop_zero->ib,eq_nil_of_length_eq_zero->fh,ext_getElem?->fl,flatMap_cons->jv,getD->bp,getElem?_append_left->fm,getElem?_append_right->fu,getElem?_cons_succ->gh,getElem?_drop->jq,getElem?_eq_getElem->bm,getElem?_eq_none->gd,getElem?_eq_some_iff->bz,getElem?_map->di,getElem?_range->iq,getElem?_replicate->nh,getElem?_set->gf,getElem?_take->fv,length->aq,length_append->bx,length_cons->cn,length_take->kl,mapM_cons->uc,map_cons->ed,mem_iff_getElem?->oc,mem_of_getElem?->fg,nil_append->fz,range->fi,replicate->bf,size_toArray->iu,take_append_of_le_length->qv,take_zero->xo,toList_toArray->mn
open Nat renaming add_mul->de,eq_zero_or_pos->oh,le_mul_of_pos_right->tv,le_refl->ca,le_trans->px,lt_irrefl->qd,lt_or_ge->kn,mul_le_mul_right->cd,mul_ne_zero->xq,pos_of_ne_zero->vr,zero_add->cq,zero_le->dx,zero_mul->gz
open Option.some renaming injEq->eu
open Prod.mk renaming injEq->gp
namespace Go.E
open Go
section
mutual
def Ty.q9w:Ty->Bool
 | .slice _ _=>false
 | .struct _ _ fs=>Ty.fS fs
 | .opq _=>false
 |_=>true
def Ty.fS:List Ty->Bool
 | []=>true
 |f::fs=>f.q9w&&Ty.fS fs
end
mutual
def AI:Ty->C
 | .int _=>.int 0
 | .bool=>.bool false
 | .str=>.str []
 | .slice _ _=>.slice []
 | .arr n e=>.agg (bf n (AI e))
 | .struct _ _ fs=>.agg (QM fs)
 |_=>.nil
def QM:List Ty->List C
 | []=>[]
 |f::fs=>AI f::QM fs
end
mutual
def Bv:Ty->V
 | .slice eb e=>.emp eb e
 | .struct sz os fs=>if Ty.fS fs then .d (.struct sz os fs) (.agg (QM fs))else .agg (.struct sz os fs) (KV fs)
 |τ=>.d τ (AI τ)
def KV:List Ty->List V
 | []=>[]
 |f::fs=>Bv f::KV fs
end
def NK:Ty->Value->Bool
 | .int k,.int k' n=>k==k'&&n==0
 | .bool,.bool b=> !b
 | .str,.string s=>s.data.toList.isEmpty
 | .slice _ _,.slice a n c=>a.isNone&&n==0&&c==0
 | .ptr,.pointer a=>a.isNone
 | .map,.map r=>r.isNone
 | .func,.nilFunc=>true
 | .iface,.nilIface=>true
 |_,_=>false
mutual
def Dj:Ty->List Value->Bool
 | .arr n e,vs=>vs.length==n*e.size&&vs.all (·.oneCell')&&(fi n).all fun i=>Dj e (chunk vs (i*e.size) e.size)
 | .struct sz os fs,vs=>vs.length==sz&&vs.all (·.oneCell')&&Iy fs os vs
 |τ,vs=>match vs with| [v]=>NK τ v|_=>false
def Iy:List Ty->List Nat->List Value->Bool
 | [],_,_=>true
 |f::fs,o::os,vs=>decide (o+f.size<=vs.length)&&Dj f (chunk vs o f.size)&&Iy fs os vs
 |_::_,[],_=>false
end
def Bz (P:Program) (T:TypeId):Bool:=
 match(P.info? T).bind (·.zero)with
 |some z=>Dj (ty P T) z.cells.toList&&BJ z==(ty P T).isAgg&&Dj (tyF P 11 T) z.cells.toList
 |none=>false
def wU (k:IntKind):k.min<=0/\0<=k.max:=by cases k <;> decide
def z4Z {H τ v} (h:NK τ v=true):AK H τ [v] (AI τ):=by
 unfold NK at h;split at h <;> simp at h <;> simp only[AK,AI]
 ·obtain⟨rfl,rfl⟩:=h;exact⟨0,rfl,rfl,(wU _).1,(wU _).2⟩
 ·subst h;exact⟨false,rfl,rfl⟩
 ·rename_i s;refine⟨[],rfl,?_,by simp⟩;have:s=⟨#[]⟩:=by apply ByteArray.ext;simpa using h
  rw[this]
 ·obtain⟨⟨h1,rfl⟩,rfl⟩:=h;exact⟨_,0,0,[],rfl,rfl,rfl,ca _,by decide,by simp,.inl rfl⟩
 ·subst h;simp
 ·subst h;simp
 ·simp
 ·simp
mutual
def Gq {H}:∀{τ:Ty} {vs:List Value},Dj τ vs=true->AK H τ vs (AI τ)
 | .arr n e,vs,h=>by
  simp only[Dj,bg,beq_iff_eq,ej,List.mem_range]at h;simp only[AK,AI];refine⟨_,rfl,by simp,h.1.1,h.1.2,fun i c hi=>?_⟩;simp only[nh]at hi;split at hi
  ·cases hi;exact Gq (h.2 i ‹_›)
  ·cases hi
 | .struct sz os fs,vs,h=>by
  simp only[Dj,bg,beq_iff_eq,ej]at h;simp only[AK,AI];exact⟨_,rfl,h.1.1,h.1.2,q2N h.2⟩
 | .int _,[v],h| .bool,[v],h| .str,[v],h| .slice _ _,[v],h| .ptr,[v],h| .map,[v],h| .func,[v],h| .iface,[v],h=>by
  simp only[Dj]at h;exact z4Z h
 | .opq _,[v],h=>by simp[Dj,NK]at h
 | .int _,[],h| .bool,[],h| .str,[],h| .slice _ _,[],h| .ptr,[],h| .map,[],h| .func,[],h| .iface,[],h| .opq _,[],h=>by simp[Dj]at h
 | .int _,_::_::_,h| .bool,_::_::_,h| .str,_::_::_,h| .slice _ _,_::_::_,h| .ptr,_::_::_,h| .map,_::_::_,h| .func,_::_::_,h| .iface,_::_::_,h| .opq _,_::_::_,h=>by simp[Dj]at h
def q2N {H}:∀{fs:List Ty} {os:List Nat} {vs:List Value},Iy fs os vs=true->BP H fs os vs (QM fs)
 | [],_,_,_=>by simp[BP,QM]
 |f::fs,o::os,vs,h=>by
  simp only[Iy,bg,decide_eq_true_eq]at h;simp only[BP,QM];exact⟨_,_,rfl,h.1.1,Gq h.1.2,q2N h.2⟩
 |_::_,[],_,h=>by simp[Iy]at h
end
def NM:∀(τ:Ty),(Bv τ).ty=τ
 | .struct sz os fs=>by simp only[Bv];split <;> simp[qa]
 | .slice _ _=>by simp[Bv,qa]
 | .int _| .bool| .str| .ptr| .map| .func| .iface| .opq _| .arr _ _=>by simp[Bv,qa]
def q2P:∀(fs:List Ty),(KV fs).length=fs.length
 | []=>rfl
 |f::fs=>by simp[KV,q2P fs]
def q2M:∀{fs:List Ty} {os:List Nat} {vs:List Value} {i:Nat} {f:Ty},Iy fs os vs=true->fs[i]? =some f->∃o,os[i]? =some o/\o+f.size<=vs.length/\Dj f (chunk vs o f.size)=true
 | [],_,_,_,_,_,h=>by simp at h
 |f::fs,o::os,vs,0,g,h,hg=>by
  simp only[Iy,bg,decide_eq_true_eq]at h;simp at hg;subst hg;exact⟨o,rfl,h.1.1,h.1.2⟩
 |f::fs,o::os,vs,i+1,g,h,hg=>by
  simp only[Iy,bg,decide_eq_true_eq]at h;obtain⟨o',a,b,c⟩:=q2M h.2 (show fs[i]? =some g by simpa using hg);exact⟨o',by simpa using a,b,c⟩
 |_::_,[],_,_,_,h,_=>by simp[Iy]at h
def Yp (τ:Ty):(Bv τ).plain=true:=by cases τ <;> simp only[Bv] <;> (try split) <;> rfl
mutual
def q2O:∀(τ:Ty),(Bv τ).Aw=true
 | .struct sz os fs=>by simp only[Bv];split <;> simp[V.Aw,q2Q fs]
 | .slice _ _=>by simp[Bv,V.Aw]
 | .int _| .bool| .str| .ptr| .map| .func| .iface| .opq _| .arr _ _=>by simp[Bv,V.Aw]
def q2Q:∀(fs:List Ty),V.CC (KV fs)=true
 | []=>rfl
 |f::fs=>by simp[KV,V.CC,q2O f,q2Q fs]
end
section
variable {Γ:G} {hm:Option Key}
mutual
def Yq:∀(τ:Ty) {p:List Nat} {vs},Dj τ vs=true->AA Γ hm p (Bv τ) vs
 | .struct sz os fs,p,vs,h=>by
  simp only[Bv];split
  ·simp only[AA];exact Gq (τ:=.struct sz os fs) h
  ·simp only[Dj,bg,beq_iff_eq,ej]at h;simp only[AA];exact⟨h.1.1,h.1.2,by simp[Ty.kids,q2P],rfl,q2R fs sz os fs 0 (fun i f hf=>by simpa using hf) h.2⟩
 | .slice eb e,p,vs,h=>by
  match vs,h with
  | [v],h=>
   simp only[Dj]at h;cases v <;> simp[NK]at h;obtain⟨⟨rfl,rfl⟩,rfl⟩:=h;simp only[Bv,AA];exact⟨none,rfl⟩
  | [],h=>simp[Dj]at h
  |_::_::_,h=>simp[Dj]at h
 | .int k,p,vs,h=>by simp only[Bv,AA];exact Gq h
 | .bool,p,vs,h=>by simp only[Bv,AA];exact Gq h
 | .str,p,vs,h=>by simp only[Bv,AA];exact Gq h
 | .ptr,p,vs,h=>by simp only[Bv,AA];exact Gq h
 | .map,p,vs,h=>by simp only[Bv,AA];exact Gq h
 | .func,p,vs,h=>by simp only[Bv,AA];exact Gq h
 | .iface,p,vs,h=>by simp only[Bv,AA];exact Gq h
 | .opq s,p,vs,h=>by simp only[Bv,AA];exact Gq h
 | .arr n e,p,vs,h=>by simp only[Bv,AA];exact Gq h
def q2R:∀(gs:List Ty) (sz:Nat) (os:List Nat) (fs:List Ty) (i:Nat) {p:List Nat} {vs:List Value},(∀(j:Nat) (f:Ty),gs[j]? =some f->fs[i+j]? =some f)->Iy fs os vs=true->
  AZ Γ hm p i (.struct sz os fs) (KV gs) vs
 | [],_,_,_,_,_,_,_,_=>by simp[KV,AZ]
 |f::gs,sz,os,fs,i,p,vs,hg,h=>by
  have hf:=hg 0 f rfl;obtain⟨o,a,b,c⟩:=q2M h hf;simp only[KV,AZ,NM];refine⟨⟨o,f,by simp[kg,show os[i]? =some o by simpa using a,show fs[i]? =some f by simpa using hf],rfl,b,Yq f c⟩,q2R gs sz os fs (i+1) (fun j g hj=>?_) h⟩;rw[show i+1+j=i+(j+1) by omega];exact hg (j+1) g (by simpa using hj)
end
end
def q1n {P} {T:TypeId} (h:Bz P T=true):∃z,(∀w,(zeroValue T).run P w= .ok z w)/\Dj (ty P T) z.cells.toList=true/\BJ z=(ty P T).isAgg:=by
 unfold Bz at h;cases hi:P.info? T with
 |none=>simp[hi]at h
 |some i=>
  cases hz:i.zero with
  |none=>simp[hi,hz]at h
  |some z=>
   simp[hi,hz]at h;exact⟨z,fun w=>by simp[zeroValue,typeInfo,hi,hz],h.1.1,h.1.2⟩
mutual
def view:V->V
 | .ts eb e cs=>.d (.slice eb e) (.slice cs)
 | .agg τ vs=>.agg τ (views vs)
 |x=>x
def views:List V->List V
 | []=>[]
 |x::xs=>view x::views xs
end
def q2v:∀xs:List V,(views xs).length=xs.length
 | []=>rfl
 |x::xs=>by simp[views,q2v xs]
def q2u (x:V):(view x).ty=x.ty:=by cases x <;> simp[view,qa]
def z4F (x:V):(view x).plain=x.plain:=by cases x <;> simp[view,V.plain]
section
variable {Γ:G} {hm:Option Key}
mutual
def q2t:∀(x:V) {p p':List Nat} {vs},AA Γ hm p x vs->AA Γ none p' (view x) vs
 | .ts eb e cs,_,_,_,h=>by
  simp only[AA,view]at h ⊢;obtain⟨a,n,cap,k,_,rfl,h2,_⟩:=h;exact h2
 | .agg τ xs,_,_,_,h=>by
  simp only[AA,view]at h ⊢;exact⟨h.1,h.2.1,by rw[q2v];exact h.2.2.1,h.2.2.2.1,q2w xs h.2.2.2.2⟩
 | .d _ _,_,_,_,h| .sl _ _ _ _,_,_,_,h| .emp _ _,_,_,_,h| .ym,_,_,_,h| .ptr _ _ _,_,_,_,h| .yn _ _,_,_,_,h
 | .sr _ _ _ _ _ _ _,_,_,_,h| .mp _,_,_,_,h| .fn _ _,_,_,_,h| .top _,_,_,_,h=>by simpa only[AA,view]using h
 | .any,_,_,_,h=>by simp only[AA,view]
 | .tup _,_,_,_,h=>by simp only[AA]at h
def q2w:∀(xs:List V) {p p':List Nat} {i:Nat} {τ:Ty} {vs:List Value},AZ Γ hm p i τ xs vs->AZ Γ none p' i τ (views xs) vs
 | [],_,_,_,_,_,_=>by simp only[views,AZ]
 |x::xs,_,_,_,_,_,h=>by
  simp only[AZ,views,q2u]at h ⊢;obtain⟨⟨o,f,h1,h2,h3,h4⟩,h5⟩:=h;exact⟨⟨o,f,h1,h2,h3,q2t x h4⟩,q2w xs h5⟩
end
end
mutual
def Bl:V->Option C
 | .d _ c=>some c
 | .emp _ _=>some (.slice [])
 | .sl _ _ cs _=>some (.slice cs)
 | .ts _ _ cs=>some (.slice cs)
 | .agg _ vs=>(Dn vs).map .agg
 |_=>none
def Dn:List V->Option (List C)
 | []=>some []
 |x::xs=>match Bl x,Dn xs with
  |some c,some cs=>some (c::cs)
  |_,_=>none
end
def Zo:∀{xs:List V} {cs:List C},Dn xs=some cs->cs.length=xs.length/\∀(i:Nat) (x:V) (c:C),xs[i]? =some x->cs[i]? =some c->Bl x=some c
 | [],cs,h=>by simp[Dn]at h;subst h;simp
 |x::xs,cs,h=>by
  simp only[Dn]at h;cases h1:Bl x with
  |none=>simp[h1]at h
  |some c=>
   cases h2:Dn xs with
   |none=>simp[h1,h2]at h
   |some cs'=>
    simp[h1,h2]at h;subst h;obtain⟨a,b⟩:=Zo h2;refine⟨by simp[a],fun i y d hy hd=>?_⟩;cases i with
    |zero=>simp at hy hd;subst hy;subst hd;exact h1
    |succ i=>exact b i y d (by simpa using hy) (by simpa using hd)
section
variable {Γ:G} {hm:Option Key}
mutual
def Kc:∀(x:V) {p:List Nat} {vs c},AA Γ hm p x vs->Bl x=some c->AK Γ.H x.ty vs c
 | .d τ c,_,_,_,h,hc=>by simp[Bl]at hc;subst hc;simpa only[AA,qa]using h
 | .emp eb e,_,_,_,h,hc=>by
  simp[Bl]at hc;subst hc;simp only[AA]at h;obtain⟨a,rfl⟩:=h;exact Dh rfl (ca _) (dx _) (by rw[gz];exact dx _) (.inl rfl)
 | .sl eb e cs t,_,_,_,h,hc=>by
  simp[Bl]at hc;subst hc;simp only[AA]at h;obtain⟨a,n,cap,rfl,h2,_⟩:=h;exact h2
 | .ts eb e cs,_,_,_,h,hc=>by
  simp[Bl]at hc;subst hc;simp only[AA]at h;obtain⟨a,n,cap,k,_,rfl,h2,_⟩:=h;exact h2
 | .agg τ xs,_,vs,_,h,hc=>by
  simp only[Bl]at hc;cases h1:Dn xs with
  |none=>simp[h1]at hc
  |some cs=>
   simp[h1]at hc;subst hc;simp only[AA]at h;obtain⟨a1,a2,a3,a4,a5⟩:=h;obtain⟨b1,b2⟩:=Zo h1;have kid:=qS xs a5 h1;simp only[qa];cases τ <;> simp[jb]at a4
   case arr n e=>
    simp only[AK];refine⟨cs,rfl,by rw[b1,a3];rfl,by simpa[iy]using a1,a2,fun i c hi=>?_⟩;obtain⟨o,f,k1,_,k3⟩:=kid i c hi;simp only[cq,kg]at k1;split at k1
    ·simp at k1;obtain⟨rfl,rfl⟩:=k1;exact k3
    ·cases k1
   case struct sz os fs=>
    simp only[AK];refine⟨cs,rfl,by simpa[iy]using a1,a2,BP.LK (by rw[b1,a3];rfl) fun i f c hf hi=>?_⟩;obtain⟨o,f',k1,k2,k3⟩:=kid i c hi;simp only[cq,kg]at k1;cases ho:os[i]? with
    |none=>simp[ho]at k1
    |some o'=>simp[ho,hf]at k1;obtain⟨rfl,rfl⟩:=k1;exact⟨o',rfl,k2,k3⟩
 | .ym,_,_,_,_,hc| .ptr _ _ _,_,_,_,_,hc| .yn _ _,_,_,_,_,hc
 | .sr _ _ _ _ _ _ _,_,_,_,_,hc| .mp _,_,_,_,_,hc| .fn _ _,_,_,_,_,hc| .top _,_,_,_,_,hc| .any,_,_,_,_,hc| .tup _,_,_,_,_,hc=>by simp[Bl]at hc
def qS:∀(xs:List V) {p:List Nat} {i0:Nat} {τ:Ty} {vs:List Value} {cs:List C},AZ Γ hm p i0 τ xs vs->Dn xs=some cs->
  ∀(i:Nat) (c:C),cs[i]? =some c->∃o f,τ.child (i0+i)=some (o,f)/\o+f.size<=vs.length/\AK Γ.H f (chunk vs o f.size) c
 | [],_,_,_,_,_,_,h,i,c,hc=>by simp[Dn]at h;subst h;simp at hc
 |x::xs,_,i0,τ,vs,cs,h,hcs,i,c,hc=>by
  simp only[AZ]at h;simp only[Dn]at hcs;cases h1:Bl x with
  |none=>simp[h1]at hcs
  |some d=>
   cases h2:Dn xs with
   |none=>simp[h1,h2]at hcs
   |some ds=>
    simp[h1,h2]at hcs;subst hcs;cases i with
    |zero=>
     simp at hc;subst hc;obtain⟨⟨o,f,k1,k2,k3,k4⟩,_⟩:=h;have:=Kc x k4 h1;rw[k2]at this;exact⟨o,f,k1,k3,this⟩
    |succ i=>
     have:=qS xs h.2 h2 i c (by simpa using hc);rw[show i0+(i+1)=i0+1+i by omega];exact this
end
end
end
section
def DY (vs:List Value) (o n i:Nat):(chunk vs o n)[i]? =if i<n then vs[o+i]? else none:=by simp[chunk,fv,jq]
def BN (vs:List Value) (o:Nat) (ws:List Value):List Value:=vs.take o++ws++vs.drop (o+ws.length)
def IE {vs ws:List Value} {o:Nat} (h:o+ws.length<=vs.length):(BN vs o ws).length=vs.length:=by simp[BN];omega
def Fo {vs ws:List Value} {o:Nat} (h:o+ws.length<=vs.length) (i:Nat):
  (BN vs o ws)[i]? =if o<=i/\i<o+ws.length then ws[i-o]? else vs[i]?:=by
 unfold BN;by_cases h1:i<o
 ·rw[if_neg (by omega),dq,fm (by simp;omega),fv,if_pos h1]
 ·by_cases h2:i<o+ws.length
  ·rw[if_pos (by omega),dq,fu (by simp;omega),fm (by simp;omega)];simp only[kl];congr 1;omega
  ·rw[if_neg (by omega),fu (by simp;omega),jq];simp only[bx,kl];congr 1;omega
def Zl {vs ws:List Value} {o n:Nat} (h:o+ws.length<=vs.length) (hn:ws.length=n):chunk (BN vs o ws) o n=ws:=by
 apply fl;intro i;rw[DY,Fo h];split
 ·rw[if_pos (by omega)];congr 1;omega
 ·rw[gd (by omega)]
def Qi {vs ws:List Value} {o o' n:Nat} (h:o+ws.length<=vs.length) (hd:o'+n<=o\/o+ws.length<=o'):chunk (BN vs o ws) o' n=chunk vs o' n:=by
 apply fl;intro i;rw[DY,DY,Fo h];split
 ·rw[if_neg (by omega)]
 ·rfl
def q3Y {vs ws:List Value} {o o1 n1 o2:Nat} (h:o1+n1<=vs.length) (hw:o2+ws.length<=n1) (ho:o=o1+o2):chunk (BN vs o ws) o1 n1=BN (chunk vs o1 n1) o2 ws:=by
 subst ho;apply fl;intro i;have hl:(chunk vs o1 n1).length=n1:=Dm _ _ _ h;rw[DY,Fo (by omega),Fo (by omega),DY];by_cases hi:i<n1
 ·rw[if_pos hi,if_pos hi];by_cases h2:o2<=i/\i<o2+ws.length
  ·rw[if_pos (by omega),if_pos h2];congr 1;omega
  ·rw[if_neg (by omega),if_neg h2]
 ·rw[if_neg hi,if_neg hi,if_neg (by omega)]
def Cm.BN {vs ws} {o:Nat} (h1:Cm vs) (h2:Cm ws):Cm (BN vs o ws):=by
 intro v hv;simp only[Go.E.BN,List.mem_append]at hv;rcases hv with(hv|hv)|hv
 ·exact h1 v (List.mem_of_mem_take hv)
 ·exact h2 v hv
 ·exact h1 v (List.mem_of_mem_drop hv)
def Qt (o n:Nat):List Nat->List Ty->Bool
 |o'::os,f::fs=>decide (o'+f.size<=o\/o+n<=o')&&Qt o n os fs
 |_,_=>true
def Nx:List Nat->List Ty->Bool
 |o::os,f::fs=>Qt o f.size os fs&&Nx os fs
 |_,_=>true
mutual
def Ty.Ch:Ty->Bool
 | .struct _ os fs=>Nx os fs&&Ty.Qu fs
 | .arr _ e=>e.Ch
 |_=>true
def Ty.Qu:List Ty->Bool
 | []=>true
 |f::fs=>f.Ch&&Ty.Qu fs
end
def rZ:∀{os:List Nat} {fs:List Ty} {o n j o':Nat} {f:Ty},Qt o n os fs=true->os[j]? =some o'->fs[j]? =some f->o'+f.size<=o\/o+n<=o'
 | [],_,_,_,_,_,_,_,h,_=>by simp at h
 |_::_,[],_,_,_,_,_,_,_,h=>by simp at h
 |o1::os,f1::fs,o,n,0,o',f,h,h1,h2=>by
  simp only[Qt,bg,decide_eq_true_eq]at h;simp at h1 h2;subst h1;subst h2;exact h.1
 |o1::os,f1::fs,o,n,j+1,o',f,h,h1,h2=>by
  simp only[Qt,bg]at h;exact rZ h.2 (show os[j]? =some o' by simpa using h1) (show fs[j]? =some f by simpa using h2)
def aV:∀{os:List Nat} {fs:List Ty} {i j o o':Nat} {f f':Ty},Nx os fs=true->i<j->os[i]? =some o->fs[i]? =some f->os[j]? =some o'->fs[j]? =some f'->o'+f'.size<=o\/o+f.size<=o'
 | [],_,_,_,_,_,_,_,_,_,h,_,_,_=>by simp at h
 |_::_,[],_,_,_,_,_,_,_,_,_,h,_,_=>by simp at h
 |o1::os,f1::fs,0,j+1,o,o',f,f',h,_,h1,h2,h3,h4=>by
  simp only[Nx,bg]at h;simp at h1 h2;subst h1;subst h2;exact rZ h.1 (show os[j]? =some o' by simpa using h3) (show fs[j]? =some f' by simpa using h4)
 |o1::os,f1::fs,i+1,j+1,o,o',f,f',h,hij,h1,h2,h3,h4=>by
  simp only[Nx,bg]at h;exact aV h.2 (show i<j by omega) (show os[i]? =some o by simpa using h1) (show fs[i]? =some f by simpa using h2) (show os[j]? =some o' by simpa using h3) (show fs[j]? =some f' by simpa using h4)
 |_::_,_::_,_,0,_,_,_,_,_,hij,_,_,_,_=>by omega
def sA {os:List Nat} {fs} {i j o o':Nat} {f f':Ty} (h:Nx os fs=true) (hij:i≠j) (h1:os[i]? =some o) (h2:fs[i]? =some f) (h3:os[j]? =some o') (h4:fs[j]? =some f'):
  o'+f'.size<=o\/o+f.size<=o':=by
 rcases kn i j with h5|h5
 ·exact aV h h5 h1 h2 h3 h4
 ·have:=aV h (show j<i by omega) h3 h4 h1 h2;omega
def sB:∀{fs:List Ty} {i:Nat} {f:Ty},Ty.Qu fs=true->fs[i]? =some f->f.Ch=true
 | [],_,_,_,h=>by simp at h
 |f1::fs,0,f,h,h1=>by simp only[Ty.Qu,bg]at h;simp at h1;subst h1;exact h.1
 |f1::fs,i+1,f,h,h1=>by simp only[Ty.Qu,bg]at h;exact sB h.2 (show fs[i]? =some f by simpa using h1)
def Ty.Ku:Ty->List Ty
 | .struct _ _ fs=>fs
 | .arr n e=>bf n e
 |_=>[]
def C.set:C->Nat->C->C
 | .agg cs,i,c=>.agg (cs.set i c)
 |c,_,_=>c
def Gx (c:C):Nat->List Ty->List V
 |_,[]=>[]
 |j,f::fs=>.d f (c.get j)::Gx c (j+1) fs
def V.set:V->Nat->V->V
 | .d τ c,i,.d _ c'=>.d τ (c.set i c')
 | .d τ c,i,y=>.agg τ ((Gx c 0 τ.Ku).set i y)
 | .agg τ vs,i,y=>.agg τ (vs.set i y)
 |_,_,_=>.any
def V.setAt:V->List Nat->V->V
 |_,[],y=>y
 |x,i::q,y=>x.set i ((x.get i).setAt q y)
def Ty.q63 (τ:Ty):τ.Ku.length=τ.kids:=by cases τ <;> simp[Ty.Ku,Ty.kids]
def AK.child {H} {τ f:Ty} {vs c} {i:Nat} (h:AK H τ vs c) (hf:τ.Ku[i]? =some f):∃o,τ.child i=some (o,f):=by
 cases τ <;> simp only[Ty.Ku,List.getElem?_nil,reduceCtorEq]at hf
 case arr n e=>
  rw[nh]at hf;split at hf
  ·cases hf;rename_i hi;exact⟨_,by simp only[kg];rw[if_pos hi]⟩
  ·cases hf
 case struct sz os fs=>
  simp only[AK]at h;obtain⟨cs,rfl,_,_,h3⟩:=h;obtain⟨o,c,a,_⟩:=h3.get hf;exact⟨o,by simp[kg,a,hf]⟩
def q3X {τ f f':Ty} {i j o o':Nat} (hd:τ.Ch=true) (h1:τ.child i=some (o,f)) (h2:τ.child j=some (o',f')) (hij:i≠j):o'+f'.size<=o\/o+f.size<=o':=by
 cases τ <;> simp only[kg,reduceCtorEq]at h1 h2
 case arr n e=>
  split at h1 <;> simp at h1;split at h2 <;> simp at h2;obtain⟨rfl,rfl⟩:=h1;obtain⟨rfl,rfl⟩:=h2;rcases kn j i with hlt|hge
  ·left;have:(j+1)*e.size<=i*e.size:=cd _ (by omega);rw[de]at this;omega
  ·right;have:(i+1)*e.size<=j*e.size:=cd _ (by omega);rw[de]at this;omega
 case struct sz os fs=>
  simp only[Ty.Ch,bg]at hd;cases ho:os[i]? with
  |none=>simp[ho]at h1
  |some a=>
   cases hf:fs[i]? with
   |none=>simp[ho,hf]at h1
   |some g=>
    cases ho':os[j]? with
    |none=>simp[ho']at h2
    |some a'=>
     cases hf':fs[j]? with
     |none=>simp[ho',hf']at h2
     |some g'=>
      simp[ho,hf]at h1;simp[ho',hf']at h2;obtain⟨rfl,rfl⟩:=h1;obtain⟨rfl,rfl⟩:=h2;exact sA hd.1 hij ho hf ho' hf'
section
variable {Γ:G} {hm:Option Key}
def AK.set {H} {τ f:Ty} {vs ws} {c c':C} {i o:Nat} (h:AK H τ vs c) (hd:τ.Ch=true) (hc:τ.child i=some (o,f)) (hr:AK H f ws c'):
  AK H τ (BN vs o ws) (c.set i c'):=by
 have hwl:=hr.length;have hb:=(h.get hc).2.1;cases τ <;> simp only[kg,reduceCtorEq]at hc
 case arr n e=>
  split at hc <;> simp at hc;rename_i hi;obtain⟨rfl,rfl⟩:=hc;simp only[AK]at h ⊢;obtain⟨cs,rfl,h1,h2,h3,h4⟩:=h;refine⟨cs.set i c',rfl,by simpa using h1,by rw[IE (by omega)];exact h2,h3.BN hr.one,fun j cc hj=>?_⟩;rw[gf]at hj;split at hj
  ·rename_i hij;subst hij;split at hj
   ·cases hj;rw[Zl (by omega) hwl];exact hr
   ·cases hj
  ·rename_i hij;have hjl:j<n:=by rw[<-h1];exact(bz.1 hj).1
   rw[Qi (by omega)]
   ·exact h4 j cc hj
   ·rcases kn j i with hlt|hge
    ·left;have:(j+1)*e.size<=i*e.size:=cd _ (by omega);rw[de]at this;omega
    ·right;have:(i+1)*e.size<=j*e.size:=cd _ (by omega);rw[de]at this;omega
 case struct sz os fs=>
  simp only[AK]at h ⊢;simp only[Ty.Ch,bg]at hd;obtain⟨cs,rfl,h1,h2,h3⟩:=h;cases ho:os[i]? with
  |none=>simp[ho]at hc
  |some o'=>
   cases hf:fs[i]? with
   |none=>simp[ho,hf]at hc
   |some f'=>
    simp[ho,hf]at hc;obtain⟨rfl,rfl⟩:=hc;have hl:=h3.yJ;refine⟨cs.set i c',rfl,by rw[IE (by omega)];exact h1,h2.BN hr.one,BP.LK (by simpa using hl) fun j g cc hg hcc=>?_⟩;rw[gf]at hcc;obtain⟨oj,cj,a,b,d,r⟩:=h3.get hg;refine⟨oj,a,by rw[IE (by omega)];exact d,?_⟩;split at hcc
    ·rename_i hij;subst hij;rw[hf]at hg;cases hg;rw[ho]at a;cases a;split at hcc
     ·cases hcc;rw[Zl (by omega) hwl];exact hr
     ·cases hcc
    ·rename_i hij;rw[b]at hcc;cases hcc;rw[Qi (by omega)]
     ·exact r
     ·have:=sA hd.1 (fun e=>hij e) ho hf a hg;omega
def AZ.LK {p:List Nat} {τ:Ty}:∀{xs:List V} {i0:Nat} {vs:List Value},
  (∀(i:Nat) (x:V),xs[i]? =some x->∃o f,τ.child (i0+i)=some (o,f)/\x.ty=f/\o+f.size<=vs.length/\AA Γ hm (p++[i0+i]) x (chunk vs o f.size))->AZ Γ hm p i0 τ xs vs
 | [],_,_,_=>by simp[AZ]
 |x::xs,i0,vs,h=>by
  simp only[AZ];refine⟨h 0 x rfl,AZ.LK fun i y hy=>?_⟩;have:=h (i+1) y (by simpa using hy);rw[show i0+1+i=i0+(i+1) by omega];exact this
def tV (c:C):∀(fs:List Ty) (j i:Nat),(Gx c j fs)[i]? =(fs[i]?).map fun f=>.d f (c.get (j+i))
 | [],_,_=>by simp[Gx]
 |f::fs,j,0=>by simp[Gx]
 |f::fs,j,i+1=>by
  simp only[Gx,gh];rw[tV c fs (j+1) i,show j+(i+1)=j+1+i by omega]
def tW (c:C):∀(fs:List Ty) (j:Nat),(Gx c j fs).length=fs.length
 | [],_=>rfl
 |f::fs,j=>by simp[Gx,tW c fs]
def q59 {τ:Ty} {c} {p:List Nat} {vs} (h:AK Γ.H τ vs c) (ha:τ.isAgg=true):AA Γ hm p (.agg τ (Gx c 0 τ.Ku)) vs:=by
 simp only[AA];refine⟨h.length,h.one,by rw[tW,Ty.q63],ha,AZ.LK fun i x hx=>?_⟩;rw[tV]at hx;cases hf:τ.Ku[i]? with
 |none=>simp[hf]at hx
 |some f=>
  simp[hf]at hx;subst hx;obtain⟨o,ho⟩:=h.child hf;obtain⟨_,h2,h3⟩:=h.get ho;refine⟨o,f,by simpa using ho,rfl,h2,?_⟩;simpa only[AA]using h3
def q3V {τ f:Ty} {i o:Nat} (h:τ.child i=some (o,f)):τ.isAgg=true:=by cases τ <;> simp[kg]at h <;> rfl
def oQ {p:List Nat} {τ:Ty} {xs:List V} {y:V} {vs ws:List Value} {i o:Nat} (h:AA Γ hm p (.agg τ xs) vs) (hd:τ.Ch=true) (hc:τ.child i=some (o,y.ty))
  (hr:AA Γ hm (p++[i]) y ws) (hy:y.plain=true) (hb:o+y.ty.size<=vs.length):AA Γ hm p (.agg τ (xs.set i y)) (BN vs o ws):=by
 simp only[AA]at h ⊢;obtain⟨h1,h2,h3,h4,h5⟩:=h;have hwl:=hr.length hy;refine⟨by rw[IE (by omega)];exact h1,h2.BN (hr.one hy),by simpa using h3,h4,AZ.LK fun j x hx=>?_⟩;rw[gf]at hx;split at hx
 ·rename_i hij;subst hij;split at hx
  ·cases hx;refine⟨o,_,by simpa using hc,rfl,by rw[IE (by omega)];exact hb,?_⟩;rw[Zl (by omega) hwl];simpa using hr
  ·cases hx
 ·rename_i hij;obtain⟨o',f',a,b,d,r⟩:=h5.get hx;refine⟨o',f',a,b,by rw[IE (by omega)];exact d,?_⟩;rw[Qi (by omega)]
  ·exact r
  ·rw[cq]at a;have:=q3X hd hc a hij;omega
def AA.set {p:List Nat} {x y:V} {vs ws} {i o:Nat} (h:AA Γ hm p x vs) (hd:x.ty.Ch=true) (hc:x.ty.child i=some (o,y.ty)) (hg:x.get i≠.any)
  (hr:AA Γ hm (p++[i]) y ws) (hy:y.plain=true):AA Γ hm p (x.set i y) (BN vs o ws)/\(x.set i y).ty=x.ty/\(x.set i y).plain=true:=by
 have hb:=(h.get hc hg).2.1;have gen:∀{τ:Ty} {c:C},x= .d τ c->AA Γ hm p (.agg τ ((Gx c 0 τ.Ku).set i y)) (BN vs o ws):=by
  intro τ c e;subst e;simp only[AA]at h;simp only[qa]at hc hd;exact oQ (q59 h (q3V hc)) hd hc hr hy hb
 cases x <;> (try (simp only[xv,ne_eq,not_true_eq_false]at hg;done))
 case d τ c=>
  have:=gen rfl;cases y
  case d τ' c'=>
   simp only[V.set];refine⟨?_,rfl,rfl⟩;simp only[AA]at h hr ⊢;simp only[qa]at hc hd;exact h.set hd hc hr
  all_goals (simp only[V.set];exact⟨this,rfl,rfl⟩)
 case agg τ xs=>
  simp only[V.set];exact⟨oQ h hd hc hr hy hb,rfl,rfl⟩
def q3W {τ f:Ty} {i o:Nat} (h:τ.Ch=true) (hc:τ.child i=some (o,f)):f.Ch=true:=by
 cases τ <;> simp only[kg,reduceCtorEq]at hc
 case arr n e=>split at hc <;> simp at hc;rw[<-hc.2];simpa[Ty.Ch]using h
 case struct sz os fs=>
  simp only[Ty.Ch,bg]at h;cases ho:os[i]? with
  |none=>simp[ho]at hc
  |some o'=>
   cases hf:fs[i]? with
   |none=>simp[ho,hf]at hc
   |some f'=>simp[ho,hf]at hc;rw[<-hc.2];exact sB h.2 hf
def AA.setAt:∀{q:List Nat} {p:List Nat} {x y:V} {vs ws:List Value} {o:Nat},AA Γ hm p x vs->x.plain=true->x.ty.Ch=true->x.ty.walk q=some (o,y.ty)->x.at q≠.any->
  AA Γ hm (p++q) y ws->y.plain=true->
  AA Γ hm p (x.setAt q y) (BN vs o ws)/\(x.setAt q y).ty=x.ty/\(x.setAt q y).plain=true
 | [],p,x,y,vs,ws,o,h,hp,hd,hw,hx,hr,hy=>by
  simp[vw]at hw;obtain⟨rfl,ht⟩:=hw;have h1:=h.length hp;have h2:=hr.length hy;have:BN vs 0 ws=ws:=by
   simp only[BN,xo,fz,cq];rw[kh (by rw[h1,h2,ht];exact ca _)];simp
  simp only[V.setAt,this];exact⟨by simpa using hr,ht.symm,hy⟩
 |i::q,p,x,y,vs,ws,o,h,hp,hd,hw,hx,hr,hy=>by
  simp only[vw]at hw;cases hc:x.ty.child i with
  |none=>simp[hc]at hw
  |some of=>
   obtain⟨o1,f⟩:=of;simp only[hc]at hw;cases hw2:f.walk q with
   |none=>simp[hw2]at hw
   |some ot=>
    obtain⟨o2,t⟩:=ot;simp only[hw2,eu,gp]at hw;obtain⟨rfl,rfl⟩:=hw;have hne:x.get i≠.any:=by
     intro e;apply hx;simp only[V.at,e];exact V.QX q
    obtain⟨h1,h2,h3⟩:=h.get hc hne;have hpl:(x.get i).plain=true:=V.TA h3 hne;have _hget:=Qh hc;have ih:=AA.setAt (q:=q) h3 hpl (by rw[h1];exact q3W hd hc) (by rw[h1];exact hw2) (by simpa[V.at]using hx) (by simpa using hr) hy;obtain⟨i1,i2,i3⟩:=ih;have hwl:=hr.length hy;have hb2:o2+y.ty.size<=f.size:=by
     obtain⟨_,hb,_⟩:=h3.at_ (by rw[h1];exact hw2) (by simpa[V.at]using hx) hpl
     rwa [Dm _ _ _ h2]at hb
    have z5t:=AA.set (i:=i) (o:=o1) (y:=(x.get i).setAt q y) h hd (by rw[i2,h1];exact hc) hne i1 i3;have e1:BN vs o1 (BN (chunk vs o1 f.size) o2 ws)=BN vs (o1+o2) ws:=by
     have hl1:(chunk vs o1 f.size).length=f.size:=Dm _ _ _ h2;have hl2:(BN (chunk vs o1 f.size) o2 ws).length=f.size:=by rw[IE (by omega)];exact hl1
     apply fl;intro j;rw[Fo (vs:=vs) (o:=o1) (by omega),Fo (vs:=vs) (o:=o1+o2) (ws:=ws) (by omega),hl2];by_cases hj:o1<=j/\j<o1+f.size
     ·rw[if_pos hj,Fo (by omega),DY];by_cases hk:o1+o2<=j/\j<o1+o2+ws.length
      ·rw[if_pos (by omega),if_pos hk];congr 1;omega
      ·rw[if_neg (by omega),if_neg hk,if_pos (by omega)];congr 1;omega
     ·rw[if_neg hj,if_neg (by omega)]
    rw[e1]at z5t;simp only[V.setAt];exact z5t
end
end
section
def Au (P:Program) (o:Oper) (a:Act) (w:World) (BB:Value->World->Prop):Prop:=
 ∀(next:Act->World->Prop) (Q:Exit->Act->World->Prop),(∀v w',BB v w'->next (a.put o.dst v) w')->o.wp P a w next Q
section
variable {P:Program} {o:Oper} {a:Act} {w w':World} {BB:Value->World->Prop}
def Au.val {v} (h:(execOp a.eval o).run P w= .ok (.value v) w') (hp:BB v w'):Au P o a w BB:=by
 intro next Q hn
 unfold Oper.wp;rw[h];exact hn v w' hp
def Au.skip (h:(execOp a.eval o).run P w= .ok .skip w') (hp:BB undef w'):Au P o a w BB:=by
 intro next Q hn
 unfold Oper.wp;rw[h];exact hn _ w' hp
def Au.enter {f args} (h:(execOp a.eval o).run P w= .ok (.enter f args) w')
  (hc:Calls P f args w' fun e w''=>∃v,e= .returned v/\BB v w''):Au P o a w BB:=by
 intro next Q hn
 unfold Oper.wp;rw[h];refine Calls.mono hc ?_;rintro e w'' ⟨v,rfl,hp⟩;exact hn v w'' hp
def Au.mono {z6J} (h:Au P o a w BB) (hp:∀v w',BB v w'->z6J v w'):Au P o a w z6J:=
 fun next Q hn=>h next Q fun v w' hv=>hn v w' (hp v w' hv)
end
structure Ext (w w':World):Prop where
 size:w.heap.size<=w'.heap.size
 old:∀b,b<w.heap.size->w'.heap[b]? =w.heap[b]?
 oo:oof w'=oof w
def Ext.refl (w:World):Ext w w:=⟨ca _,fun _ _=>rfl,rfl⟩
def Ext.trans {a b c} (h:Ext a b) (h':Ext b c):Ext a c:=
 ⟨px h.size h'.size,fun x hx=>(h'.old x (Nat.lt_of_lt_of_le hx h.size)).trans (h.old x hx),h'.oo.trans h.oo⟩
def Ext.alloc (w:World) (o:Obj):Ext w (w.alloc o):=⟨by simp,fun _ hb=>heap_alloc_old w o hb,rfl⟩
def Ext.drew (w:World):Ext w w.drew:=⟨ca _,fun _ _=>rfl,rfl⟩
def DU {α:Type} (f:Key->Option α) (k:Key) (x:α):Key->Option α:=fun j=>if j=k then some x else f j
def BR {α:Type} (f:Nat->Option α) (k:Nat) (x:α):Nat->Option α:=fun j=>if j=k then some x else f j
def Cb {α:Type} (f:Nat->Option α) (k:Nat) (x:α):BR f k x k=some x:=by simp[BR]
def Ea {α:Type} (f:Nat->Option α) {k j:Nat} (x:α) (h:j≠k):BR f k x j=f j:=by simp[BR,h]
def BB (Γ:G) (w:World) (s':S) (x:V) (v:Value) (w':World):Prop:=
 ∃Γ',GLe Γ Γ'/\BI Γ Γ'/\AO Γ' w' s'/\AG Γ' x v
section
variable {Γ:G} {w w':World} {s:S}
def AO.Zlt (c:AO Γ w s) {b:Nat} (h:Γ.Z b≠none):b<w.heap.size:=by
 cases hk:Γ.Z b with
 |none=>exact absurd hk h
 |some o=>exact Ht (c.hZ b o hk)
def AO.congr (c:AO Γ w s) {s':S} (h1:∀k,s'.obj k=s.obj k) (h2:∀t,s'.live t=s.live t) (h3:∀t,s.known t=true->s'.known t=true):AO Γ w s':=
 ⟨c.hH,c.hZ,c.hκ,fun k o h=>c.obj k o (by rw[<-h1];exact h),fun k h=>by rw[h1];exact c.dom k h,c.Jt (fun k h=>by unfold S.BW at h ⊢;rw[h1];exact h),fun t L h=>c.tok t L (by rw[<-h2];exact h),fun t h=>h3 t (c.zc t h),c.hgl,c.hoo,c.hσ⟩
def AO.σlt (c:AO Γ w s) {b sz:Nat} (h:Γ.σ b=some sz):b<w.heap.size:=by
 obtain⟨arr,T,fr,h1,_⟩:=c.hσ b sz h;exact Ht h1
def AO.nW (c:AO Γ w s) (he:Ext w w'):∀b sz,Γ.σ b=some sz->∃arr T fr,w'.heap[b]? =some (.cells arr T fr)/\arr.size=sz:=fun b sz h=>by rw[he.old b (c.σlt h)];exact c.hσ b sz h
def AO.env (c:AO Γ w s) (e:List (Nat × V)):AO Γ w {s with env:=e}:=c.congr (fun _=>rfl) (fun _=>rfl) (fun _ h=>h)
def AO.ext (c:AO Γ w s) (he:Ext w w'):AO Γ w' s:=by
 refine c.change (BI.refl Γ) rfl rfl rfl he.oo (fun b l h=>?_) (fun b h=>he.old b (c.Zlt h)) (fun b o sz h=>?_) (fun k o h=>?_) (fun _ h _=>h) c.dom (c.nW he) c.inj c.tok c.zc he.size
 ·rw[he.old b (c.Hlt (by rw[h];simp))];exact c.hH b l h
 ·rw[he.old b (c.κlt (by rw[h];simp))];exact c.hκ b o sz h
 ·refine .inl ⟨h,fun hd=>⟨fun b p sz _=>⟨rfl,rfl⟩,fun b τ hb=>?_⟩⟩;obtain⟨a1,a2,a3,_⟩:=c.ES hb h hd;exact⟨he.old b a3,a1⟩
def BB.same (c:AO Γ w s) {x v} (h:AG Γ x v):BB Γ w s x v w:=⟨Γ,.refl Γ,.refl Γ,c,h⟩
def BB.ext (c:AO Γ w s) (he:Ext w w') {x v} (h:AG Γ x v):BB Γ w s x v w':=⟨Γ,.refl Γ,.refl Γ,c.ext he,h⟩
def MX {α:Type} (n:Key) (x:α) (l:List (Key × α)):AR ((n,x)::l) n=some x:=by simp[AR]
def Wi {α:Type} (n:Nat) (x:α) (l:List (Nat × α)):look ((n,x)::l) n=some x:=by simp[look]
def CU (s:S) (k j:Key) (o:O):S.obj {s with loc:=(k,o)::s.loc} j=if k=j then some o else s.obj j:=by
 unfold S.obj Bt;by_cases h:k=j
 ·subst h;simp[AR]
 ·simp[AR,h]
def aK {s:S} {k} {o:O} (h:s.BW k=true->o.EK=true) (j:Key) (hj:s.BW j=true):S.BW {s with loc:=(k,o)::s.loc} j=true:=by
 unfold S.BW;rw[CU];split
 ·rename_i e;subst e;exact h hj
 ·exact hj
def MW (s:S) (t u:Nat) (L:Option Nat):S.live {s with tk:=(t,L)::s.tk} u=if t=u then L else s.live u:=by
 unfold S.live Du;by_cases h:t=u
 ·subst h;simp only[Wi,if_true];cases L <;> rfl
 ·simp[look,h]
def MU (s:S) (t u:Nat) (L:Option Nat):S.known {s with tk:=(t,L)::s.tk} u=(decide (t=u)||s.known u):=by
 unfold S.known;by_cases h:t=u
 ·subst h;simp[look]
 ·simp[look,h]
def AO.QN (c:AO Γ w s) {k} (h:s.obj k=none):Γ.ι k=none:=by
 cases hk:Γ.ι k with
 |none=>rfl
 |some x=>exact absurd h (c.dom k (by rw[hk];simp))
def AO.q2T (c:AO Γ w s) {t:Nat} (h:s.known t=false):Γ.τ t=none:=by
 cases hk:Γ.τ t with
 |none=>rfl
 |some x=>have:=c.zc t (by rw[hk];simp);rw[h]at this;cases this
def G.Bp (Γ:G) (k:Key) (b:Nat) (τ:Ty):G:={Γ with ι:=DU Γ.ι k (b,τ)}
def AO.Bp (c:AO Γ w s) {k} (hn:s.obj k=none) (he:Ext w w') {τ o} (ho:∀Γ':G,BI Γ Γ'->NU Γ Γ' (some k)->Γ'.ι k=some (w.heap.size,τ)->Γ'.H w.heap.size=none->Γ'.Z w.heap.size=none->Own Γ' w' k o) (hkl:∀i,k≠.g i:=by intro i h;cases h):
  AO (Γ.Bp k w.heap.size τ) w' {s with loc:=(k,o)::s.loc}/\BI Γ (Γ.Bp k w.heap.size τ)/\GLe Γ (Γ.Bp k w.heap.size τ):=by
 have hk:=c.QN hn;have hι:∀j x,Γ.ι j=some x->(Γ.Bp k w.heap.size τ).ι j=some x:=by
  intro j x hj;have:j≠k:=by intro e;subst e;rw[hk]at hj;cases hj
  simp[G.Bp,DU,this,hj]
 have hp:BI Γ (Γ.Bp k w.heap.size τ):=⟨gu _,hι,fun t x L h=>⟨x,L,h,ca _,fun _=>rfl⟩,fun _ _ h=>h⟩
 refine⟨?_,hp,⟨gu _,rfl,fun _ _=>rfl,fun j x h=>hι _ _ h,rfl,rfl,fun _ _ h=>h,fun i h=>by
  have:Key.g i≠k:=fun e=>hkl i e.symm;simpa[G.Bp,DU,this]using h⟩⟩
 refine c.change hp rfl rfl rfl he.oo (fun b l h=>?_) (fun b h=>he.old b (c.Zlt h)) (fun b o sz h=>?_) (fun j o' h=>?_) (fun j h h'=>by
  have:j≠k:=fun e=>by subst e;exact h' hn
  simpa[G.Bp,DU,this]using h) (fun j h=>?_) (c.nW he) (fun j j' b τ1 τ2 h1 h2=>?_) c.tok c.zc he.size
 ·have h':Γ.H b=some l:=h;rw[he.old b (c.Hlt (by rw[h'];simp))];exact c.hH b l h
 ·have h':Γ.κ b=some (o,sz):=h;rw[he.old b (c.κlt (by rw[h'];simp))];exact c.hκ b o sz h
 ·rw[CU]at h;split at h
  ·rename_i e;cases h;subst e;refine .inr (ho _ hp (fun _ _ _ _=>⟨rfl,rfl⟩) (by simp[G.Bp,DU]) ?_ ?_)
   ·cases hh:Γ.H w.heap.size with
    |none=>exact hh
    |some l=>exact absurd (c.Hlt (by rw[hh];simp)) (qd _)
   ·cases hh:Γ.Z w.heap.size with
    |none=>exact hh
    |some l=>exact absurd (c.Zlt (by rw[hh];simp)) (qd _)
  ·refine .inl ⟨h,fun hd=>⟨fun b p sz _=>⟨rfl,rfl⟩,fun b τ hb=>?_⟩⟩;obtain⟨a1,a2,a3,_⟩:=c.ES hb h hd;exact⟨he.old b a3,a1⟩
 ·rw[CU];split
  ·simp
  ·rename_i e;refine c.dom j ?_;have:j≠k:=fun h=>e h.symm;simpa[G.Bp,DU,this]using h
 ·have key:∀j b τ',(Γ.Bp k w.heap.size τ).ι j=some (b,τ')->(j=k/\b=w.heap.size)\/(j≠k/\Γ.ι j=some (b,τ')/\b<w.heap.size):=by
   intro j b τ' h;by_cases hjk:j=k
   ·left;simp[G.Bp,DU,hjk]at h;exact⟨hjk,h.1.symm⟩
   ·right;have h':Γ.ι j=some (b,τ'):=by simpa[G.Bp,DU,hjk]using h
    obtain⟨_,_,_,hlt,_⟩:=c.q2S h';exact⟨hjk,h',hlt⟩
  rcases key j b τ1 h1 with⟨e1,e2⟩|⟨e1,e2,e3⟩ <;> rcases key j' b τ2 h2 with⟨f1,f2⟩|⟨f1,f2,f3⟩
  ·exact .inl (by rw[e1,f1])
  ·omega
  ·omega
  ·refine(c.inj _ _ _ _ _ e2 f2).imp id (And.imp (Or.imp (fun h=>?_) (fun h=>?_)) id)
   ·unfold S.BW at h ⊢;rw[CU,if_neg (fun e=>e1 e.symm)];exact h
   ·unfold S.BW at h ⊢;rw[CU,if_neg (fun e=>f1 e.symm)];exact h
def Wt (c:AO Γ w s) {n:Nat} (hn:s.obj (.l n)=none) {x:V} {cells:Array Value} {T:TypeId} (he:Ext w w') (hw:w'.heap[w.heap.size]? =some (.cells cells T (0,0))) (hsz:x.ty.size<=cells.size)
  (hx:AA Γ none [] x (chunk cells.toList 0 x.ty.size)) (hp:x.plain=true) (hns:x.Aw=true):
  BB Γ w {s with loc:=(.l n,.box x)::s.loc} (.ptr (.l n) [] x.ty) (.pointer (some ⟨w.heap.size,0,none⟩)) w':=by
 obtain⟨h1,h2,h3⟩:=c.Bp hn he (τ:=x.ty) (o:=.box x) fun Γ' hpr _ hι hH hZ=>⟨_,cells,T,hι,hH,hZ,hw,hsz,(hx.BL hpr (by trivial)).DW,hp,hns⟩;exact⟨_,h3,h2,h1,Pu (τ0:=x.ty) (by simp[G.Bp,DU]) rfl⟩
def G.Dl (Γ:G) (b:Nat) (l:List Value):G:={Γ with H:=BR Γ.H b l}
def AO.Dl (c:AO Γ w s) (he:Ext w w') {arr:Array Value} {T:TypeId} {fr l r} (hw:w'.heap[w.heap.size]? =some (.cells arr T fr)) (hl:arr.toList=l++r):
  AO (Γ.Dl w.heap.size l) w' s/\BI Γ (Γ.Dl w.heap.size l)/\GLe Γ (Γ.Dl w.heap.size l):=by
 have oH:∀b,b<w.heap.size->(Γ.Dl w.heap.size l).H b=Γ.H b:=fun b hb=>Ea _ _ (by omega);have hle:Γ.H.le (Γ.Dl w.heap.size l).H:=fun b l' h=>⟨[],by rw[oH b (c.Hlt (by rw[h];simp)),h];simp⟩;have hp:BI Γ (Γ.Dl w.heap.size l):=⟨hle,fun _ _ h=>h,fun t x L h=>⟨x,L,h,ca _,fun _=>rfl⟩,fun _ _ h=>h⟩;refine⟨?_,hp,⟨hle,rfl,fun b h=>oH b (c.Zlt h),fun _ _ h=>h,rfl,rfl,fun _ _ h=>h,fun _ h=>h⟩⟩;refine c.change hp rfl rfl rfl he.oo (fun b l' h=>?_) (fun b h=>he.old b (c.Zlt h)) (fun b o sz h=>?_) (fun k o h=>?_) (fun _ h _=>h) c.dom (c.nW he) c.inj (fun t L h=>?_) c.zc he.size
 ·by_cases hb:b=w.heap.size
  ·subst hb;simp[G.Dl,BR]at h;subst h;exact⟨arr,T,fr,r,hw,hl⟩
  ·have h':Γ.H b=some l':=by simpa[G.Dl,BR,hb]using h
   rw[he.old b (c.Hlt (by rw[h'];simp))];exact c.hH b l' h'
 ·have h':Γ.κ b=some (o,sz):=h;have hlt:=c.κlt (by rw[h'];simp);rw[he.old b hlt,oH b hlt];exact c.hκ b o sz h
 ·refine .inl ⟨h,fun hd=>⟨fun b p sz hb=>⟨rfl,oH b (c.κlt (by rw[hb];simp))⟩,fun b τ hb=>?_⟩⟩;obtain⟨a1,a2,a3,_⟩:=c.ES hb h hd;exact⟨he.old b a3,by rw[oH b a3];exact a1⟩
 ·obtain⟨x,h1,h2⟩:=c.tok t L h;refine⟨x,h1,fun b pos sz hx=>?_⟩;obtain⟨a1,a2⟩:=h2 b pos sz hx;rw[oH b (c.κlt (by rw[a2];simp))];exact⟨a1,a2⟩
def G.Hf (Γ:G) (b sz:Nat):G:={Γ with σ:=BR Γ.σ b sz}
def AO.Hf (c:AO Γ w s) {b:Nat} {arr:Array Value} {T:TypeId} {fr} (hw:w.heap[b]? =some (.cells arr T fr)):
  AO (Γ.Hf b arr.size) w s/\BI Γ (Γ.Hf b arr.size)/\GLe Γ (Γ.Hf b arr.size):=by
 have hσ:∀b' sz,Γ.σ b'=some sz->(Γ.Hf b arr.size).σ b'=some sz:=by
  intro b' sz h;by_cases e:b'=b
  ·subst e;obtain⟨yy,T',fr',a1,a2⟩:=c.hσ b' sz h;rw[hw]at a1;cases a1;rw[<-a2];exact Cb _ _ _
  ·exact(Ea _ _ e).trans h
 have hp:BI Γ (Γ.Hf b arr.size):=⟨gu _,fun _ _ h=>h,fun t x L h=>⟨x,L,h,ca _,fun _=>rfl⟩,hσ⟩;refine⟨?_,hp,⟨gu _,rfl,fun _ _=>rfl,fun _ _ h=>h,rfl,rfl,hσ,fun _ h=>h⟩⟩;refine c.change hp rfl rfl rfl rfl c.hH (fun _ _=>rfl) c.hκ (fun k o h=>?_) (fun _ h _=>h) c.dom (fun b' sz h=>?_) c.inj c.tok c.zc (ca _)
 ·refine .inl ⟨h,fun hd=>⟨fun b p sz _=>⟨rfl,rfl⟩,fun b τ hb=>?_⟩⟩;obtain⟨a1,a2,a3,_⟩:=c.ES hb h hd;exact⟨rfl,a1⟩
 ·by_cases e:b'=b
  ·subst e;have:arr.size=sz:=by
    have h':BR Γ.σ b' arr.size b'=some sz:=h;rw[Cb]at h';exact Option.some.inj h'
   exact⟨arr,T,fr,hw,this⟩
  ·exact c.hσ b' sz ((Ea _ _ e).symm.trans h)
def G.DA (Γ:G) (t:Nat) (x:Option (Nat × Nat × Nat)) (L:Nat):G:=
 {Γ with τ:=BR Γ.τ t (x,L),κ:=match x with|none=>Γ.κ|some (b,_,sz)=>BR Γ.κ b (.tok t,sz)}
def AO.DA (c:AO Γ w s) {t:Nat} (ht:s.known t=false) {x} {L:Nat}
  (hx:∀b pos sz,x=some (b,pos,sz)->Γ.κ b=none/\Γ.Z b=none/\(∃l,Γ.H b=some l/\l.length=pos)/\∃arr T,w.heap[b]? =some (.cells arr T (0,0))/\arr.size=sz):
  AO (Γ.DA t x L) w {s with tk:=(t,some L)::s.tk}/\BI Γ (Γ.DA t x L)/\GLe Γ (Γ.DA t x L):=by
 have hτ:=c.q2T ht;have oκ:∀b o,Γ.κ b=some o->(Γ.DA t x L).κ b=some o:=by
  intro b o h;cases x with
  |none=>exact h
  |some y=>
   obtain⟨b',pos,sz⟩:=y;have:b≠b':=by intro e;subst e;rw[(hx b pos sz rfl).1]at h;cases h
   simp[G.DA,BR,this,h]
 have hp:BI Γ (Γ.DA t x L):=⟨gu _,fun _ _ h=>h,fun u y M h=>by
  have:u≠t:=by intro e;subst e;rw[hτ]at h;cases h
  exact⟨y,M,by simp[G.DA,BR,this,h],ca _,fun _=>rfl⟩,fun _ _ h=>h⟩
 refine⟨?_,hp,⟨gu _,rfl,fun _ _=>rfl,fun _ _ h=>h,rfl,rfl,fun _ _ h=>h,fun _ h=>h⟩⟩;refine c.change hp rfl rfl rfl rfl c.hH (fun b _=>rfl) (fun b o sz h=>?_) (fun k o h=>?_) (fun _ h _=>h) c.dom c.hσ c.inj (fun u M h=>?_) (fun u h=>?_) (ca _)
 ·cases hk:Γ.κ b with
  |some o'=>rw[oκ b o' hk]at h;cases h;exact c.hκ b o sz hk
  |none=>
   cases x with
   |none=>have h':Γ.κ b=some (o,sz):=h;rw[hk]at h';cases h'
   |some y=>
    obtain⟨b',pos,sz'⟩:=y;by_cases e:b=b'
    ·subst e;simp[G.DA,BR]at h;obtain⟨_,a2,⟨l,a3,_⟩,a4⟩:=hx b pos sz' rfl;rw[<-h.2];obtain⟨arr,T,q1,q2⟩:=a4;exact⟨a2,by show Γ.H b≠none;rw[a3];simp,arr,T,q1,q2,by rw[<-h.1];trivial⟩
    ·simp[G.DA,BR,e,hk]at h
 ·refine .inl ⟨h,fun hd=>⟨fun b p sz hb=>⟨by rw[oκ b _ hb,hb],rfl⟩,fun b τ hb=>?_⟩⟩;obtain⟨a1,a2,a3,_⟩:=c.ES hb h hd;exact⟨rfl,a1⟩
 ·rw[MW]at h;split at h
  ·rename_i e;subst e;cases h;refine⟨x,by simp[G.DA,BR],fun b pos sz e=>?_⟩;obtain⟨a1,a2,a3,a4⟩:=hx b pos sz e;subst e;exact⟨a3,by simp[G.DA,BR]⟩
  ·rename_i e;obtain⟨y,h1,h2⟩:=c.tok u M h;have e':u≠t:=fun h'=>e h'.symm;refine⟨y,by simp[G.DA,BR,e',h1],fun b pos sz hy=>?_⟩;obtain⟨a1,a2⟩:=h2 b pos sz hy;exact⟨a1,oκ b _ a2⟩
 ·rw[MU];by_cases e:t=u
  ·simp[e]
  ·simp only[e,decide_false,jt];have e':u≠t:=fun h'=>e h'.symm;refine c.zc u ?_;simpa[G.DA,BR,e']using h
end
end
section
def Dz (s:S):V->Option (Nat × Ty × List C)
 | .sr k q lo n _ eb e=>match s.obj k with
  |some (.box x)=>match x.at q with
   | .d _ c=>some (eb,e,(c.elems.drop lo).take n)
   |_=>none
  |_=>none
 |x=>x.Ec
def PC {H} {e:Ty} {ys:List C} {m:Nat} {news:List Value} (h1:ys.length=m) (hl:news.length=m*e.size) (hr:∀i c',ys[i]? =some c'->AK H e (chunk news (i*e.size) e.size) c'):Cm news:=by
 intro v hv;obtain⟨j,hj⟩:=List.getElem?_of_mem hv;have hjl:j<m*e.size:=by rw[<-hl];exact(bz.1 hj).1
 have hs:0<e.size:=by rcases oh e.size with h|h;· rw[h,Nat.mul_zero]at hjl;omega
                      ·exact h
 have hi:j / e.size<ys.length:=by rw[h1];exact(Nat.div_lt_iff_lt_mul hs).2 hjl
 have hdm:=Nat.div_add_mod j e.size;have z5J:=Nat.mod_lt j hs;refine(hr _ _ (bm hi)).one v (fg (i:=j%e.size) ?_);rw[DY,if_pos z5J,Nat.mul_comm,hdm];exact hj
section
variable {P:Program} {Γ:G} {w:World} {s:S}
def qJ {b off k:Nat} {arr:Array Value} {T:TypeId} {fr l r} (hb:w.heap[b]? =some (.cells arr T fr)) (hl:arr.toList=l++r) {j:Nat} {u} (h:(chunk l off k)[j]? =some u):
  w.cell? ⟨b,off+j,none⟩=some u:=by
 rw[DY]at h;split at h
 ·have hlt:=(bz.1 h).1;have:arr[off+j]? =some u:=by rw[<-Array.getElem?_toList,hl,fm hlt];exact h
  simp[nu,hb,this]
 ·cases h
def YW (c:AO Γ w s) {Y v} {eb:Nat} {e:Ty} {ys:List C} (hr:AG Γ Y v) (he:Dz s Y=some (eb,e,ys)) {tx E':TypeId} (hu:P.underlying tx=some (.slice E')):
  ∃n news,Src P e.size tx v n news w/\ys.length=n/\n<=maxLen/\n*eb<=140737488355328/\∀i c',ys[i]? =some c'->AK Γ.H e (chunk news (i*e.size) e.size) c':=by
 -- a slice that is known as data
 have frozen:∀{eb:Nat} {e:Ty} {ys:List C},Y.Ec=some (eb,e,ys)->∃n news,Src P e.size tx v n news w/\ys.length=n/\n<=maxLen/\n*eb<=140737488355328/\∀i c',ys[i]? =some c'->AK Γ.H e (chunk news (i*e.size) e.size) c':=by
  intro eb e ys he;obtain⟨a,n,cap,rfl,h1,h2,h3,h4,h5⟩:=KI hr he;obtain⟨a',n',z5P,e1,_,e2,e3,e4,e5,e6⟩:=Im h5;simp at e1;obtain⟨rfl,rfl,rfl⟩:=e1;simp only[au]at e6;have hz:∀{ad:Addr},n=0->Src P e.size tx (.slice (some ad) n cap) n [] w:=by
   intro ad h0;subst h0;exact pt w hu _ 0 cap [] (by simp) (by simp) (by simp)
  by_cases h0:n=0
  ·refine⟨n,[],?_,h1,by omega,h4,fun i c' hi=>?_⟩
   ·cases a with
    |none=>subst h0;exact uv w hu cap
    |some ad=>exact hz h0
   ·have:=(bz.1 hi).1;omega
  ·rcases e6 with e6|⟨b,off,l,rfl,hb,hs,hc⟩
   ·exact absurd e6 h0
   ·obtain⟨arr,T,fr,r,hw,hl⟩:=c.hH b l hb;have hnl:(chunk l off (n*e.size)).length=n*e.size:=Dm _ _ _ hs;have za:∀i c',ys[i]? =some c'->AK Γ.H e (chunk (chunk l off (n*e.size)) (i*e.size) e.size) c':=by
     intro i c' hi;have hil:i<n:=by rw[<-h1];exact(bz.1 hi).1
     have hle:(i+1)*e.size<=n*e.size:=cd _ hil;rw[de]at hle;rw[Dy _ _ _ _ _ (by omega)];exact hc i c' hi
    exact⟨n,chunk l off (n*e.size),pt w hu _ n cap _ hnl (fun j u hj=>by rw[IQ];exact qJ hw hl hj) (PC h1 hnl za),h1,by omega,h4,za⟩
 cases Y <;> (try exact frozen he)
 case sr k q lo n cp eb' e'=>
  simp only[Dz]at he;cases ho:s.obj k with
  |none=>simp[ho]at he
  |some o=>
   cases o with
   |map=>simp[ho]at he
   |it=>simp[ho]at he
   |dead=>simp[ho]at he
   |box x=>
    simp only[ho]at he;cases hx:x.at q with
    |d τ cc=>
     simp only[hx,eu,gp]at he;obtain⟨rfl,rfl,rfl⟩:=he;rcases HW hr with⟨_,rfl,a,rfl⟩|⟨b,τ0,o0,m,cap,a,a1,a2,a3,rfl,a4,a5,a6,a7,_⟩
     ·refine⟨0,[],?_,by simp,by unfold maxLen;omega,by rw[gz];exact dx _,fun i c' hi=>by simp at hi⟩;cases a with
      |none=>exact uv w hu 0
      |some ad=>exact pt w hu _ 0 0 [] (by simp) (by simp) (by simp)
     obtain⟨b',cells,T,g1,g2,g3,g4,g5,g6,g7,_⟩:=c.own a1 ho;rw[a1]at g1;cases g1;obtain⟨q1,q2,q3⟩:=g6.at_ a2 (by rw[hx];simp) g7;rw[hx]at q1 q3;simp only[qa]at q1;subst q1;simp only[AA,AK]at q3;obtain⟨cs,rfl,r1,r2,r3,r4⟩:=q3;simp only[au];rw[Dm _ _ _ (by simpa using g5)]at q2;have hlen:((cs.drop lo).take n).length=n:=by simp;omega
     have hmul:(lo+n)*e'.size<=m*e'.size:=cd _ a3;rw[de]at hmul;simp only[iy]at q2 r2 r4;have yx:o0+lo*e'.size+n*e'.size<=cells.toList.length:=by simp;omega
     have hnl:(chunk cells.toList (o0+lo*e'.size) (n*e'.size)).length=n*e'.size:=Dm _ _ _ yx;have za:∀i c',((cs.drop lo).take n)[i]? =some c'->AK Γ.H e' (chunk (chunk cells.toList (o0+lo*e'.size) (n*e'.size)) (i*e'.size) e'.size) c':=by
      intro i c' hi;rw[fv]at hi;split at hi
      ·rename_i hin;rw[jq]at hi;have:=r4 _ _ hi;have hle:(i+1)*e'.size<=n*e'.size:=cd _ hin;have z6q:(lo+i+1)*e'.size<=m*e'.size:=cd _ (by omega);rw[de,de]at z6q;rw[de]at hle this;rw[Dy _ _ _ _ _ (by omega),Dy _ _ _ _ _ (by omega)]at this;rw[Dy _ _ _ _ _ (by omega)];rw[show 0+(o0+(lo*e'.size+i*e'.size))=o0+lo*e'.size+i*e'.size by omega]at this;exact this
      ·cases hi
     rcases oh n with h0|h0
     ·subst h0;refine⟨0,[],?_,hlen,by omega,by rw[gz];exact dx _,fun i c' hi=>by simp at hi⟩;cases a with
      |none=>exact uv w hu cap
      |some ad=>exact pt w hu _ 0 cap [] (by simp) (by simp) (by simp)
     ·have ha:a=some ⟨b,o0+lo*e'.size,none⟩:=by rcases a4 with h|h;· omega
                                                ·exact h
      subst ha;exact⟨n,_,pt w hu _ n cap _ hnl (fun j u hj=>by rw[IQ];exact qJ (r:=[]) g4 (by simp) hj) (PC hlen hnl za),hlen,by omega,a7,za⟩
    |_=>simp[hx]at he
def z39 {Y:V} {v} (hr:AG Γ Y v) (hY:Y.isStr) {tx:TypeId} (hu:P.underlying tx=some .string):
  ∃n news,Src P 1 tx v n news w/\(Y.toStr.map fun b=>C.int b.toNat).length=n/\n<=maxLen/\n*1<=140737488355328/\
   ∀i c',(Y.toStr.map fun b=>C.int b.toNat)[i]? =some c'->AK Γ.H (.int .u8) (chunk news (i*1) 1) c':=by
 obtain⟨cc,rfl⟩:=V.MT hY;obtain⟨rfl,_,hl⟩:=Io hr;have hsz:(⟨cc.toStr.toArray⟩:ByteArray).size=cc.toStr.length:=by simp[ByteArray.size]
 refine⟨cc.toStr.length,byteCells ⟨cc.toStr.toArray⟩,?_,by simp[V.toStr],by unfold maxLen;omega,by omega,fun i c' hi=>?_⟩
 ·have:=Src.ofString w hu (⟨cc.toStr.toArray⟩:ByteArray)
  rwa [hsz]at this
 ·simp only[V.toStr,di]at hi;cases hc:cc.toStr[i]? with
  |none=>simp[hc]at hi
  |some b=>
   simp[hc]at hi;subst hi;have:chunk (byteCells ⟨cc.toStr.toArray⟩) (i*1) 1=[.int .u8 b.toNat]:=by
    apply fl;intro j;rw[DY];by_cases hj:j<1
    ·have:j=0:=by omega
     subst this;simp[byteCells,hc]
    ·simp[hj]
   rw[this];simp only[AK];refine⟨_,rfl,rfl,?_,?_⟩
   ·have:IntKind.u8.min=0:=by decide
    omega
   ·have:IntKind.u8.max=255:=by decide
    have:=b.toNat_lt;omega
end
def cR {H} {e:Ty} {n m:Nat} {xs ys:List C} {olds news rest:List Value} (h1:xs.length=n) (h2:ys.length=m) (h3:olds.length=n*e.size) (h4:news.length=m*e.size)
  (hx:∀i c',xs[i]? =some c'->AK H e (chunk olds (i*e.size) e.size) c') (hy:∀i c',ys[i]? =some c'->AK H e (chunk news (i*e.size) e.size) c'):
  ∀i c',(xs++ys)[i]? =some c'->AK H e (chunk (olds++news++rest) (i*e.size) e.size) c':=by
 intro i c' hi;by_cases hlt:i<n
 ·rw[fm (by omega)]at hi;have:=hx i c' hi;have hb:(i+1)*e.size<=n*e.size:=cd _ (by omega);rw[de]at hb;rw[dq,Nn _ _ _ _ (by omega)];exact this
 ·rw[fu (by omega),h1]at hi;have hil:i-n<m:=by rw[<-h2];exact(bz.1 hi).1
  have:=hy _ c' hi;have hb:(i-n+1)*e.size<=m*e.size:=cd _ (by omega);rw[de]at hb;have hmul:i*e.size=n*e.size+(i-n)*e.size:=by rw[<-de];congr 1;omega
  have e1:chunk (olds++news++rest) (i*e.size) e.size=chunk news ((i-n)*e.size) e.size:=by
   simp only[chunk,dq];rw[hmul,<-h3,qs,kh (by omega),fz,Nat.add_sub_cancel_left,List.drop_append_of_le_length (by omega),qv (by simp;omega)]
  rw[e1];exact this
end
section
def Al (P:Program) (T:TypeId):TypeId:=match P.underlying T with
 |some (.slice e)=>e
 |_=>0
section
variable {P:Program} {Γ:G} {w w':World} {s:S}
def Le (hP:Aq P=true) {T:TypeId} {eb:Nat} {e} (h:ty P T= .slice eb e):
  P.underlying T=some (.slice (Al P T))/\e=tyF P 11 (Al P T)/\eb=P.bytesOf (Al P T)/\Al P T<P.types.size:=by
 obtain⟨E,h1,h2,h3,h4⟩:=Iw hP h;have:Al P T=E:=by simp[Al,h1]
 rw[this];exact⟨h1,h2,h3,h4⟩
def Lk {T:TypeId} (h:Bz P T=true):∃i z,P.info? T=some i/\i.zero=some z/\Dj (ty P T) z.cells.toList=true/\Dj (tyF P 11 T) z.cells.toList=true:=by
 unfold Bz at h;cases hi:P.info? T with
 |none=>simp[hi]at h
 |some i=>
  cases hz:i.zero with
  |none=>simp[hi,hz]at h
  |some z=>simp[hi,hz]at h;exact⟨i,z,rfl,hz,h.1.1,h.2⟩
def NL {τ:Ty} {vs:List Value} (h:Dj τ vs=true):vs.length=τ.size:=(Gq (H:=fun _=>none) h).length
def mJ {w w':World} {b:Nat} {o} (hw:w'.heap[b]? =some o) (oth:∀b',b'≠b->w'.heap[b']? =w.heap[b']?):w.heap.size<=w'.heap.size:=by
 cases kn w'.heap.size w.heap.size with
 |inr h=>exact h
 |inl hlt=>
  have h1:=Ht hw;have h3:=oth w'.heap.size (by omega);rw[Array.getElem?_eq_none (ca _),eh hlt]at h3;cases h3
def AO.q6C (c:AO Γ w s) {t L L' b pos sz:Nat} {l ws r} {yy:Array Value} {T:TypeId} (hl:s.live t=some L) (hτ:Γ.τ t=some (some (b,pos,sz),L)) (hw:w'.heap[b]? =some (.cells yy T (0,0)))
  (hH:Γ.H b=some l) (hκ:Γ.κ b=some (.tok t,sz)) (z7B:yy.toList=l++ws++r) (hsz:yy.size=sz) (oth:∀b',b'≠b->w'.heap[b']? =w.heap[b']?) (hLL:L<L') (hoo:oof w'=oof w):
  ∃Γ',Γ'.H b=some (l++ws)/\Γ'.τ t=some (some (b,(l++ws).length,sz),L')/\AO Γ' w' {s with tk:=(t,some L')::s.tk}/\BI Γ Γ'/\GLe Γ Γ':=by
 have hz:Γ.Z b=none:=(c.hκ b _ _ hκ).1;refine⟨{Γ with H:=BR Γ.H b (l++ws),τ:=BR Γ.τ t (some (b,(l++ws).length,sz),L')},Cb _ _ _,Cb _ _ _,?_⟩;have hle:Γ.H.le (BR Γ.H b (l++ws)):=by
  intro b' l' h;by_cases e:b'=b
  ·subst e;rw[hH]at h;cases h;exact⟨ws,Cb _ _ _⟩
  ·exact⟨[],by rw[Ea _ _ e,h];simp⟩
 have hp:BI Γ {Γ with H:=BR Γ.H b (l++ws),τ:=BR Γ.τ t (some (b,(l++ws).length,sz),L')}:=by
  refine⟨hle,fun _ _ h=>h,fun u y M h=>?_,fun _ _ h=>h⟩;by_cases e:u=t
  ·subst e;rw[hτ]at h;cases h;exact⟨_,L',Cb _ _ _,by omega,fun e=>by omega⟩
  ·exact⟨y,M,(Ea _ _ e).trans h,ca _,fun _=>rfl⟩
 refine⟨?_,hp,⟨hle,rfl,fun b' h=>Ea _ _ (fun e=>by subst e;exact h hz),fun _ _ h=>h,rfl,rfl,fun _ _ h=>h,fun _ h=>h⟩⟩;refine c.change hp rfl rfl rfl hoo (fun b' l' h=>?_) (fun b' h=>oth b' (fun e=>by subst e;exact h hz)) (fun b' o sz' h=>?_) (fun k o h=>?_) (fun _ h _=>h) c.dom (fun b' sz' h=>?_) c.inj (fun u M h=>?_) (fun u h=>?_) (mJ hw oth)
 ·by_cases e:b'=b
  ·subst e;have h':l++ws=l':=by simpa[BR]using h
   subst h';exact⟨yy,T,(0,0),r,hw,z7B⟩
  ·have h':Γ.H b'=some l':=by simpa[BR,e]using h
   rw[oth b' e];exact c.hH b' l' h'
 ·have h':Γ.κ b'=some (o,sz'):=h;by_cases e:b'=b
  ·subst e;rw[hκ]at h';cases h';exact⟨hz,by simp[BR],yy,T,hw,hsz,trivial⟩
  ·obtain⟨a1,a2,a3⟩:=c.hκ b' o sz' h';exact⟨a1,by simpa[BR,e]using a2,by rw[oth b' e];exact a3⟩
 ·refine .inl ⟨h,fun hd=>⟨fun b' p sz' hb=>?_,fun b' τ hb=>?_⟩⟩
  ·have hb':Γ.κ b'=some (.home k p,sz'):=hb;have e:b'≠b:=by intro e;subst e;rw[hκ]at hb';cases hb'
   exact⟨rfl,Ea _ _ e⟩
  ·obtain⟨a1,a2,a3,_⟩:=c.ES hb h hd;have e:b'≠b:=by intro e;subst e;rw[hH]at a1;cases a1
   exact⟨oth b' e,by simpa[BR,e]using a1⟩
 ·obtain⟨arr,T1,fr,a1,a2⟩:=c.hσ b' sz' h;by_cases e:b'=b
  ·subst e;obtain⟨_,_,arr2,T2,a3,a4,_⟩:=c.hκ b' _ _ hκ;rw[a1]at a3;cases a3;exact⟨yy,T,(0,0),hw,by omega⟩
  ·exact⟨arr,T1,fr,by rw[oth b' e];exact a1,a2⟩
 ·rw[MW]at h;split at h
  ·rename_i e;subst e;cases h;refine⟨_,Cb _ _ _,fun b' pos' sz' e=>?_⟩;cases e;exact⟨⟨_,Cb _ _ _,rfl⟩,hκ⟩
  ·rename_i e;have e':u≠t:=fun h'=>e h'.symm;obtain⟨y,h1,h2⟩:=c.tok u M h;refine⟨y,(Ea _ _ e').trans h1,fun b' pos' sz' hy=>?_⟩;obtain⟨a1,a2⟩:=h2 b' pos' sz' hy;have e2:b'≠b:=by intro e2;subst e2;rw[hκ]at a2;simp at a2;exact e a2.1
   exact⟨by simpa[BR,e2]using a1,a2⟩
 ·rw[MU];by_cases e:t=u
  ·simp[e]
  ·have e':u≠t:=fun h'=>e h'.symm;simp only[e,decide_false,jt];refine c.zc u ?_;simpa[BR,e']using h
def AO.q9n (c:AO Γ w s) {t L L' b sz:Nat} {x} {l:List Value} {arr:Array Value} {T:TypeId} (hτ:Γ.τ t=some (x,L)) (hw:w.heap[b]? =some (.cells arr T (0,0)))
  (hH:Γ.H b=some l) (hκ:Γ.κ b=none) (hz:Γ.Z b=none) (hsz:arr.size=sz) (hLL:L<L'):
  ∃Γ',Γ'.H=Γ.H/\Γ'.τ t=some (some (b,l.length,sz),L')/\AO Γ' w {s with tk:=(t,some L')::s.tk}/\BI Γ Γ'/\GLe Γ Γ':=by
 refine⟨{Γ with τ:=BR Γ.τ t (some (b,l.length,sz),L'),κ:=BR Γ.κ b (.tok t,sz)},rfl,Cb _ _ _,?_⟩;have oκ:∀b' o,Γ.κ b'=some o->BR Γ.κ b (.tok t,sz) b'=some o:=by
  intro b' o h;have:b'≠b:=by intro e;subst e;rw[hκ]at h;cases h
  rw[Ea _ _ this,h]
 have hp:BI Γ {Γ with τ:=BR Γ.τ t (some (b,l.length,sz),L'),κ:=BR Γ.κ b (.tok t,sz)}:=by
  refine⟨gu _,fun _ _ h=>h,fun u y M h=>?_,fun _ _ h=>h⟩;by_cases e:u=t
  ·subst e;rw[hτ]at h;cases h;exact⟨_,L',Cb _ _ _,by omega,fun e=>by omega⟩
  ·exact⟨y,M,(Ea _ _ e).trans h,ca _,fun _=>rfl⟩
 refine⟨?_,hp,⟨gu _,rfl,fun _ _=>rfl,fun _ _ h=>h,rfl,rfl,fun _ _ h=>h,fun _ h=>h⟩⟩;refine c.change hp rfl rfl rfl rfl c.hH (fun b' _=>rfl) (fun b' o sz' h=>?_) (fun k o h=>?_) (fun _ h _=>h) c.dom c.hσ c.inj (fun u M h=>?_) (fun u h=>?_) (ca _)
 ·by_cases e:b'=b
  ·subst e;have h':sz=sz':=by have:=h;simp[BR]at this;exact this.2
   subst h';exact⟨hz,by rw[hH];simp,arr,T,hw,hsz,by have:=h;simp[BR]at this;rw[<-this];trivial⟩
  ·exact c.hκ b' o sz' ((Ea _ _ e).symm.trans h)
 ·refine .inl ⟨h,fun hd=>⟨fun b' p sz' hb=>⟨(oκ b' _ hb).trans hb.symm,rfl⟩,fun b' τ hb=>?_⟩⟩;obtain⟨a1,_⟩:=c.ES hb h hd;exact⟨rfl,a1⟩
 ·rw[MW]at h;split at h
  ·rename_i e;subst e;cases h;refine⟨_,Cb _ _ _,fun b' pos' sz' e=>?_⟩;cases e;exact⟨⟨l,hH,rfl⟩,Cb _ _ _⟩
  ·rename_i e;have e':u≠t:=fun h'=>e h'.symm;obtain⟨y,h1,h2⟩:=c.tok u M h;refine⟨y,(Ea _ _ e').trans h1,fun b' pos' sz' hy=>?_⟩;obtain⟨a1,a2⟩:=h2 b' pos' sz' hy;exact⟨a1,oκ b' _ a2⟩
 ·rw[MU];by_cases e:t=u
  ·simp[e]
  ·have e':u≠t:=fun h'=>e h'.symm;simp only[e,decide_false,jt];refine c.zc u ?_;simpa[BR,e']using h
def AO.z3I (c:AO Γ w s) {t L:Nat} (hl:s.live t=some L):AO Γ w {s with tk:=(t,some L)::s.tk}:=by
 refine c.congr (fun _=>rfl) (fun u=>?_) (fun u h=>?_)
 ·rw[MW];split
  ·rename_i e;rw[<-e,hl]
  ·rfl
 ·rw[MU,h];simp
def mC (b:Nat):∀(vs:List Value) (o:Nat) (w:World) (arr:Array Value) (T:TypeId) (fr:Nat × Nat),w.heap[b]? =some (.cells arr T fr)->o+vs.length<=arr.size->
  ∃yy,(w.setCells b o vs).heap[b]? =some (.cells yy T fr)/\yy.toList=BN arr.toList o vs
 | [],o,w,arr,T,fr,h,_=>⟨arr,h,by simp[BN]⟩
 |v::vs,o,w,arr,T,fr,h,hl=>by
  have h1:(w.setCell ⟨b,o,none⟩ v).heap[b]? =some (.cells (arr.setIfInBounds o v) T fr):=by simp[xw,tp,h]
  obtain⟨yy,h2,h3⟩:=mC b vs (o+1) _ _ T fr h1 (by simp at hl ⊢;omega);refine⟨yy,h2,?_⟩;rw[h3];apply fl;intro j;simp only[cn]at hl;rw[Fo (by simp;omega),Fo (by simp;omega)];simp only[cn,rn,gf,jf];by_cases h4:o+1<=j/\j<o+1+vs.length
  ·rw[if_pos h4,if_pos (by omega),show j-o=(j-(o+1))+1 by omega,gh]
  ·rw[if_neg h4];by_cases h5:o=j
   ·subst h5;rw[if_pos rfl,if_pos (by omega),if_pos (by omega)];simp
   ·rw[if_neg h5,if_neg (by omega)]
def mD (b:Nat):∀(vs:List Value) (o:Nat) (w:World) (b':Nat),b'≠b->(w.setCells b o vs).heap[b']? =w.heap[b']?
 | [],_,_,_,_=>rfl
 |v::vs,o,w,b',h=>by
  rw[World.setCells,mD b vs _ _ b' h];have hb:b≠b':=fun e=>h e.symm;simp[xw,tp,hb]
def Nb (o:Oper) (x y:Operand) (t t':TypeId):Prop:=o.op= .call {callee:=.builtin .append,args:=#[x,y],argTypes:=#[t,t']}
def KK {o:Oper} {x y} {t t':TypeId} (ho:Nb o x y t t') {ρ w w' v}
  (h:(np #[t,t'] o.type #[ρ x,ρ y]).run P w= .ok v w'):(execOp ρ o).run P w= .ok (.value v) w':=by
 unfold Nb at ho;unfold execOp;simp[ho,resolve,invoke,builtin,h]
def q1c {t tx T E:TypeId} {i:TypeInfo} (ht:P.underlying t=some (.slice E)) (hi:P.info? E=some i) {a} {n cap:Nat} {x news} (hs:Src P i.size tx x 0 news w) (h:n<=cap):
  (np #[t,tx] T #[.slice a n cap,x]).run P w= .ok (.slice a n cap) w:=by
 have hn:news=[]:=fh (by rw[hs.newsLen];simp);subst hn;rcases hs.kind with⟨e',hk⟩|hk <;> cases a <;> simp[np,run_underlying ht,run_underlying hk,sizeOf,typeInfo,hi,hs.len,h,hs.cells,storeCells]
def KQ (P:Program) (s:S) (t':TypeId) (eb:Nat) (e:Ty) (Y:V) (ys:List C):Prop:=
 ((∃E',P.underlying t'=some (.slice E'))/\(Dz s Y=some (eb,e,ys)\/(Y= .ym/\ys=[])))\/
 (P.underlying t'=some .string/\Y.isStr/\e= .int .u8/\eb=1/\ys=Y.toStr.map fun b=>C.int b.toNat)
def Ud (c:AO Γ w s) {t':TypeId} {Y v} {eb:Nat} {e:Ty} {ys:List C} (hr:AG Γ Y v) (h:KQ P s t' eb e Y ys):
  ∃n news,Src P e.size t' v n news w/\ys.length=n/\n<=maxLen/\n*eb<=140737488355328/\∀i c',ys[i]? =some c'->AK Γ.H e (chunk news (i*e.size) e.size) c':=by
 rcases h with⟨⟨E',hu⟩,h|⟨rfl,rfl⟩⟩|⟨hu,h1,rfl,rfl,rfl⟩
 ·exact YW c hr h hu
 ·rw[FV hr];exact⟨0,[],uv w hu 0,rfl,dx _,by rw[gz];exact dx _,fun i c' hi=>by simp at hi⟩
 ·exact z39 hr h1 hu
def wO (c:AO Γ w s):Γ.κ w.heap.size=none/\Γ.Z w.heap.size=none:=by
 refine⟨?_,?_⟩
 ·cases hh:Γ.κ w.heap.size with
  |none=>rfl
  |some x=>exact absurd (c.κlt (by rw[hh];simp)) (qd _)
 ·cases hh:Γ.Z w.heap.size with
  |none=>rfl
  |some x=>exact absurd (c.Zlt (by rw[hh];simp)) (qd _)
def sE (hP:Aq P=true) (c:AO Γ w s) {o} {a:Act} {x y} {t t':TypeId} {n:Nat} {X Y ys} {eb:Nat} {e} (ho:Nb o x y t t')
  (ht:ty P t= .slice eb e) (hz:Bz P (Al P t)=true) (hn:s.known n=false)
  (hx:AG Γ X (a.eval x)) (hX:X= .ym\/∃eb' e',X= .emp eb' e') (hy:AG Γ Y (a.eval y)) (hel:KQ P s t' eb e Y ys):
  Au P o a w (BB Γ w {s with tk:=(n,some ys.length)::s.tk} (.sl eb e ys n)):=by
 obtain⟨hu,he,heb,hE⟩:=Le hP ht;obtain⟨a0,hx0⟩:∃a0,a.eval x= .slice a0 0 0:=by
  rcases hX with rfl|⟨eb',e',rfl⟩
  ·exact⟨none,FV hx⟩
  ·obtain⟨h1,_⟩:=(Bf rfl rfl).1 hx;simp only[AA]at h1;obtain⟨a0,h1⟩:=h1;exact⟨a0,by simpa using h1⟩
 obtain⟨m,news,hs,r1,r2,r3,r4⟩:=Ud c hy hel;obtain⟨i,z,hi,hzz,hzo,z5Q⟩:=Lk hz;have hcz:=NL hzo;have hsz:i.size=e.size:=by
  have:=Cf hP 11 (Al P t);rw[he,this];simp[ik,hi]
 have hby:i.bytes=eb:=by rw[heb];simp[nq,hi]
 rw[<-hsz]at hs;by_cases hm:m=0
 ·subst hm;have hys:ys=[]:=fh r1;subst hys;obtain⟨c1,p1,g1⟩:=c.DA hn (x:=none) (L:=0) (fun _ _ _ h=>by cases h);refine Au.val (v:=.slice a0 0 0) (w':=w) (KK ho ?_) ⟨_,g1,p1,c1,(Bf rfl rfl).2 ⟨?_,rfl⟩⟩
  ·rw[hx0];exact q1c hu hi hs (ca _)
  ·simp only[AA];exact⟨a0,0,0,rfl,Dh rfl (ca _) (dx _) (by rw[gz];exact dx _) (.inl rfl),none,0,by simp[G.DA,BR],ca _,fun _=>rfl⟩
 ·have zo:((0+m:Nat):Int)<=9223372036854775807:=by unfold maxLen at r2;omega
  have hge:=grownCap_ge w (0+m) 0 (Al P t);have hcm:=grownCap_le_maxLen w (0+m) 0 (Al P t) (by omega);have hold:(fw i.size 0 (.slice a0 0 0)).run P w.drew= .ok ([]:List Value).toArray w.drew:=by
   cases a0 with
   |none=>exact run_firstCells_none w.drew i.size 0 0 0
   |some ad=>exact run_firstCells_some w.drew i.size 0 ad 0 0 [] (by simp) (by simp)
  have run:=run_append_grow_src (P:=P) w t t' o.type _ i z hu hi hzz a0 0 0 [] hold (a.eval y) m news hs (by omega) zo (by
   rw[hby];exact growslice_fits (by omega) (by rw[cq];exact r3))
  rw[<-hx0]at run;have he:Ext w (w.drew.alloc (.cells ((([]:List Value)++news).toArray++fp z.cells (grownCap w (0+m) 0 (Al P t)-(0+m))) (Al P t))):=(Ext.drew w).trans (Ext.alloc _ _);have zh:=heap_alloc_new w.drew (.cells ((([]:List Value)++news).toArray++fp z.cells (grownCap w (0+m) 0 (Al P t)-(0+m))) (Al P t));obtain⟨c1,p1,g1⟩:=c.Dl he (l:=news) (r:=(fp z.cells (grownCap w (0+m) 0 (Al P t)-(0+m))).toList) zh (by simp);obtain⟨k1,k2⟩:=wO c;have hzc:z.cells.size=e.size:=by
   have h1:=Cf hP 11 (Al P t);have h2:=NH hP (Al P t);rw[‹e=_›,h1,<-h2,<-hcz];simp
  have hnl:news.length=m*e.size:=by rw[hs.newsLen,hsz]
  have zv:((([]:List Value)++news).toArray++fp z.cells (grownCap w (0+m) 0 (Al P t)-(0+m))).size=grownCap w (0+m) 0 (Al P t)*e.size:=by
   simp only[fz,qo,iu,size_zeroCells,hzc,hnl,<-de];congr 1;omega
  obtain⟨c2,p2,g2⟩:=c1.DA (t:=n) hn (x:=some (w.heap.size,news.length,grownCap w (0+m) 0 (Al P t)*e.size)) (L:=ys.length) (fun b pos sz h=>by
   cases h;exact⟨k1,k2,⟨news,Cb _ _ _,rfl⟩,_,_,zh,zv⟩)
  refine Au.val (KK ho run) ⟨_,g1.trans g2,p1.trans p2,c2,(Bf rfl rfl).2 ⟨?_,rfl⟩⟩;simp only[AA];rw[show 0+m=m by omega]at hge hcm ⊢;refine⟨_,m,_,rfl,Dh r1 hge hcm r3 (.inr ⟨w.heap.size,0,news,rfl,Cb _ _ _,by omega,fun i c' hi=>?_⟩),_,_,Cb _ _ _,ca _,fun _=>⟨rfl,hnl.symm,ca _⟩⟩;rw[cq];exact(r4 i c' hi).mono p1.H
def q41 (hP:Aq P=true) (c:AO Γ w s) {o} {a:Act} {x y} {t t':TypeId} {tk:Nat} {Y} {cs ys:List C} {eb:Nat} {e} (ho:Nb o x y t t')
  (ht:ty P t= .slice eb e) (hz:Bz P (Al P t)=true) (hl:s.live tk=some cs.length)
  (hx:AG Γ (.sl eb e cs tk) (a.eval x)) (hy:AG Γ Y (a.eval y)) (hel:KQ P s t' eb e Y ys) (hlen:(cs.length+ys.length)*eb<=140737488355328) (z6K:cs.length+ys.length<=maxLen):
  Au P o a w (BB Γ w {s with tk:=(tk,some (cs.length+ys.length))::s.tk} (.sl eb e (cs++ys) tk)):=by
 obtain⟨hu,he,heb,hE⟩:=Le hP ht;obtain⟨m,news,hs,r1,r2,r3,r4⟩:=Ud c hy hel;obtain⟨n,olds,hso,o1,o2,o3,o4⟩:=YW (P:=P) (tx:=t) c hx (show Dz s (.sl eb e cs tk)=some (eb,e,cs) from rfl) hu;obtain⟨h1,_⟩:=(Bf rfl rfl).1 hx;simp only[AA]at h1;obtain⟨aa,n',cap,hv,hrc,x0,L0,hτ,hL1,hL2⟩:=h1;simp at hv;obtain⟨x1,hτ1,z7C⟩:=c.tok tk _ hl;rw[hτ]at hτ1;cases hτ1;have hL2:=hL2 rfl;obtain⟨_,n1,z7D,e1,_,e2,hle,z6a,hnb,hm⟩:=Im hrc;simp at e1;obtain⟨rfl,rfl,rfl⟩:=e1;simp only[au]at e2 hm;have hnn:n=n':=by omega
 subst hnn;obtain⟨i,z,hi,hzz,hzo,z5Q⟩:=Lk hz;have hcz:=NL hzo;have hsz:i.size=e.size:=by
  have:=Cf hP 11 (Al P t);rw[he,this];simp[ik,hi]
 have hby:i.bytes=eb:=by rw[heb];simp[nq,hi]
 have hzc:z.cells.size=e.size:=by
  have h1:=Cf hP 11 (Al P t);have h2:=NH hP (Al P t);rw[‹e=_›,h1,<-h2,<-hcz];simp
 rw[<-hsz]at hs hso;have hnl:news.length=m*e.size:=by rw[hs.newsLen,hsz]
 have hol:olds.length=n*e.size:=by rw[hso.newsLen,hsz]
 by_cases hm0:m=0
 ·subst hm0;have hys:ys=[]:=fh r1;subst hys;refine Au.val (v:=.slice aa n cap) (w':=w) (KK ho ?_) ⟨Γ,.refl Γ,.refl Γ,?_,?_⟩
  ·rw[hv];exact q1c hu hi hs hle
  ·exact c.z3I (by simpa using hl)
  ·rw[List.append_nil,<-hv];exact hx
 ·have hys:0<ys.length:=by omega
  have z6L:(cs++ys).length=n+m:=by rw[bx,o1,r1]
  have hmx:n+m<=maxLen:=by omega
  have zo:((n+m:Nat):Int)<=9223372036854775807:=by unfold maxLen at hmx;omega
  have hbb:(n+m)*eb<=140737488355328:=by rw[<-o1,<-r1];exact hlen
  by_cases z5v:n+m<=cap
  · -- in the room behind
   cases x0 with
   |none=>simp only at hL2;omega
   |some y0=>
    obtain⟨b,pos,sz⟩:=y0;simp only at hL2;obtain⟨rfl,z6r,hcs⟩:=hL2;obtain⟨⟨l,hH,hlp⟩,hκ⟩:=z7C b pos sz rfl;obtain⟨hZ,_,arr,T,hw,has,_⟩:=c.hκ b _ _ hκ;have z5K:n*e.size+m*e.size<=arr.size:=by rw[has,<-de];exact px (cd _ z5v) hcs
    have run:=run_append_room_src (P:=P) w t t' o.type _ i hu hi b 0 n cap (a.eval y) m news hs z5v
     (fun j hj=>by
      rw[hnl]at hj;simp[nu,hw];rw[hsz];omega)
     (fun j hj=>by simp[World.frozen?,hw])
    rw[<-hv]at run;rw[cq,hsz]at run;obtain⟨yy,hw',z5W⟩:=mC b news (n*e.size) w arr T (0,0) hw (by rw[hnl];exact z5K);obtain⟨arr0,T0,fr0,r0,hw0,hl0⟩:=c.hH b l hH;rw[hw]at hw0;cases hw0;have z6W:yy.toList=l++news++r0.drop news.length:=by
     rw[z5W,hl0];unfold BN;rw[z6r,<-hlp,List.take_left',qs,kh (by omega)]
     ·simp
     ·rfl
    obtain⟨Γ',q1,q2,q3,q4,q5⟩:=c.q6C (w':=w.setCells b (n*e.size) news) hl hτ hw' hH hκ z6W (by rw[<-has,<-jf,<-jf,z5W,IE (by rw[hnl];simpa using z5K)])
     (fun b' hb'=>mD b news _ w b' hb') (show cs.length<cs.length+ys.length by omega) (by unfold oof;rw[World.os_setCells,World.output_setCells])
    refine Au.val (KK ho run) ⟨Γ',q5,q4,q3,(Bf rfl rfl).2 ⟨?_,rfl⟩⟩;simp only[AA];refine⟨_,n+m,cap,rfl,Dh z6L z5v z6a hbb (.inr ⟨b,0,l++news,rfl,q1,?_,fun j c' hj=>?_⟩),_,_,q2,by rw[bx];exact ca _,fun _=>⟨rfl,?_,hcs⟩⟩
    ·simp only[bx,hnl,hlp];rw[de];omega
    ·rw[cq];have hold:∀i c',cs[i]? =some c'->AK Γ'.H e (chunk l (i*e.size) e.size) c':=by
      intro i' c'' hi';rcases hm with hm|⟨b1,off,l1,e1,hb1,hs1,hc1⟩
      ·have:=(bz.1 hi').1;omega
      ·simp at e1;obtain⟨rfl,rfl⟩:=e1;rw[hH]at hb1;cases hb1;have:=hc1 i' c'' hi';rw[cq]at this;exact this.mono q4.H
     have zh:∀i c',ys[i]? =some c'->AK Γ'.H e (chunk news (i*e.size) e.size) c':=fun i c' hi=>(r4 i c' hi).mono q4.H;have:=cR (rest:=[]) e2 r1 (by rw[hlp];exact z6r.symm) hnl hold zh j c' hj;simpa using this
    ·simp only[bx,hnl,hlp,de,z6r]
  · -- a new block
   have hge:=grownCap_ge w (n+m) cap (Al P t);have hcm:=grownCap_le_maxLen w (n+m) cap (Al P t) hmx;have z6b:(fw i.size n (.slice aa n cap)).run P w.drew= .ok olds.toArray w.drew:=by rw[<-hv];exact hso.cellsD
   have run:=run_append_grow_src (P:=P) w t t' o.type _ i z hu hi hzz aa n cap olds z6b (a.eval y) m news hs (by omega) zo (by
    rw[hby];exact growslice_fits (by omega) hbb)
   rw[<-hv]at run;have z5R:Ext w (w.drew.alloc (.cells ((olds++news).toArray++fp z.cells (grownCap w (n+m) cap (Al P t)-(n+m))) (Al P t))):=(Ext.drew w).trans (Ext.alloc _ _);have zh:=heap_alloc_new w.drew (.cells ((olds++news).toArray++fp z.cells (grownCap w (n+m) cap (Al P t)-(n+m))) (Al P t));obtain⟨c1,p1,g1⟩:=c.Dl z5R (l:=olds++news) (r:=(fp z.cells (grownCap w (n+m) cap (Al P t)-(n+m))).toList) zh (by simp);obtain⟨k1,k2⟩:=wO c;have zv:((olds++news).toArray++fp z.cells (grownCap w (n+m) cap (Al P t)-(n+m))).size=grownCap w (n+m) cap (Al P t)*e.size:=by
    simp only[qo,iu,bx,size_zeroCells,hzc,hnl,hol,<-de];congr 1;omega
   obtain⟨Γ',q1,q2,q3,q4,q5⟩:=c1.q9n (t:=tk) (L':=cs.length+ys.length) (show(Γ.Dl w.heap.size (olds++news)).τ tk=some (x0,cs.length) from hτ) zh (Cb _ _ _) k1 k2 zv (by omega);refine Au.val (KK ho run) ⟨Γ',g1.trans q5,p1.trans q4,q3,(Bf rfl rfl).2 ⟨?_,rfl⟩⟩;simp only[AA];have hll:(olds++news).length=(n+m)*e.size:=by rw[bx,hol,hnl,de]
   refine⟨_,n+m,_,rfl,Dh z6L hge hcm hbb (.inr ⟨w.heap.size,0,olds++news,rfl,by rw[q1];exact Cb _ _ _,by omega,fun j c' hj=>?_⟩),_,_,q2,by rw[bx];exact ca _,fun _=>⟨rfl,hll.symm,ca _⟩⟩;rw[cq];have z7g:∀i c',cs[i]? =some c'->AK Γ'.H e (chunk olds (i*e.size) e.size) c':=fun i c' hi=>(o4 i c' hi).mono (p1.trans q4).H;have z7h:∀i c',ys[i]? =some c'->AK Γ'.H e (chunk news (i*e.size) e.size) c':=fun i c' hi=>(r4 i c' hi).mono (p1.trans q4).H;have:=cR (rest:=[]) e2 r1 hol hnl z7g z7h j c' hj;simpa using this
end
end
section
def cA {sz:Nat}:∀(vs:List Value) (i:Nat) (v:Value),(∀v∈vs,v.cells.size=sz)->vs[i]? =some v->chunk (vs.flatMap fun v=>v.cells.toList) (i*sz) sz=v.cells.toList
 | [],_,_,_,h=>by simp at h
 |u::vs,0,v,hs,h=>by
  simp at h;subst h;have:=hs u (by simp);simp only[chunk,gz,ib,jv];rw[qv (by simp[this]),List.take_of_length_le (by simp[this])]
 |u::vs,i+1,v,hs,h=>by
  have hu:=hs u (by simp);have ih:=cA vs i v (fun v hv=>hs v (by simp[hv])) (by simpa using h);simp only[chunk,jv]at ih ⊢;rw[qs,kh (by simp[hu,de]),fz];rw[show(i+1)*sz-u.cells.toList.length=i*sz by simp[hu,de]];exact ih
def uW (off:Nat):∀(l:List Value) (k:Nat) (cells:Array Value),off+k+l.length<=cells.size->
  ((l.zipIdx k).foldl (fun cs (p:Value × Nat)=>cs.setIfInBounds (off+p.2) p.1) cells).toList=cells.toList.take (off+k)++l++cells.toList.drop (off+k+l.length)
 | [],k,cells,_=>by simp
 |v::l,k,cells,h=>by
  simp only[cn]at h;simp only[List.zipIdx_cons,List.foldl_cons];rw[uW off l (k+1) _ (by simp;omega)];have hlt:off+k<cells.toList.length:=by simp;omega
  simp only[rn,cn];rw[show off+(k+1)=off+k+1 by omega,List.take_add_one];simp only[gf,if_true,hlt];rw[List.take_set_of_le (ca _),List.drop_set_of_lt (by omega)];rw[show off+k+1+l.length=off+k+(l.length+1) by omega];simp
def q6c {place} {cells:Array Value} {i off size:Nat} {v:Value} {rest} (hp:place i=some (off,size)) (hv:v.cells.size=size) (hl:off+size<=cells.size):
  ∃yt,yt.toList=BN cells.toList off v.cells.toList/\qc place cells ((i,v)::rest)=qc place yt rest:=by
 refine⟨v.cells.zipIdx.foldl (fun cs (c,j)=>cs.setIfInBounds (off+j) c) cells,?_,?_⟩
 ·rw[<-Array.foldl_toList,Array.toList_zipIdx];have:=uW off v.cells.toList 0 cells (by simp;omega);simpa[BN]using this
 ·simp only[qc,hp];rw[if_neg];simp[hv];omega
def Bj (τ:Ty) (y:V):V:=
 match y,τ with
 | .ym,.slice eb e=>.emp eb e
 |y,_=>y
def Ji (τ:Ty):V->List (Nat × V)->V
 |x,[]=>x
 |x,(i,v)::rest=>Ji τ (x.setAt [i] (Bj (τ.get i) v)) rest
def MB (τ:Ty):V->List (Nat × V)->Prop
 |_,[]=>True
 |x,(i,v)::rest=>(τ.child i).isSome=true/\(Bj (τ.get i) v).ty=τ.get i/\(Bj (τ.get i) v).plain=true/\x.at [i]≠.any/\MB τ (x.setAt [i] (Bj (τ.get i) v)) rest
section
variable {P:Program} {Γ:G} {w w':World} {s:S}
def ZN {τ y v} (h:AG Γ y v):AG Γ (Bj τ y) v:=by
 unfold Bj;split
 ·rw[FV h];exact Pt
 ·exact h
def YL {T:TypeId} {τ:Ty} (hP:Aq P=true) (ht:ty P T=τ) (hk:τ.known=true) {b off:Nat} {arr:Array Value} {E:TypeId} {fr} {w:World}
  (hb:w.heap[b]? =some (.cells arr E fr)) (hl:off+τ.size<=arr.size) (h1:Cm (chunk arr.toList off τ.size)):
  ∃v,(loadVar T ⟨b,off,none⟩).run P w= .ok v w/\v.cells.toList=chunk arr.toList off τ.size/\BJ v=τ.isAgg:=by
 have hno:∀s,τ≠.opq s:=by intro s e;subst e;simp[Ty.known]at hk
 have z52:=z3z (w:=w) ht hno;have hsz:=run_sizeOf (w:=w) hP (T:=T) (by intro s e;exact hno s (ht ▸ e));rw[ht]at hsz;unfold loadVar;cases ha:τ.isAgg with
 |true=>
  have hlen:(chunk arr.toList off τ.size).length=τ.size:=Dm _ _ _ (by simpa using hl)
  have:=run_loadCells_list (P:=P) w ⟨b,off,none⟩ (chunk arr.toList off τ.size) (fun j v hv=>by
   rw[IQ];rw[DY]at hv;split at hv
   ·simp[nu,hb];simpa using hv
   ·cases hv)
  rw[hlen]at this;refine⟨.agg (chunk arr.toList off τ.size).toArray,?_,by simp[fe],rfl⟩;simp[z52,ha,hsz,this]
 |false=>
  have h0:τ.size=1:=Ty.size_leaf hk ha;have hlt:off<arr.size:=by omega
  have hc:chunk arr.toList off τ.size=[arr[off]]:=by rw[h0];simp[chunk,List.drop_eq_getElem_cons (l:=arr.toList) (i:=off) (by simpa using hlt)]
  have z5F:arr[off].oneCell'=true:=h1 _ (by rw[hc];simp);have hna:BJ arr[off]=false:=by cases hv:arr[off] <;> simp_all[Value.oneCell',BJ]
  refine⟨arr[off],?_,by rw[CT hna,hc],hna⟩;have z5w:w.cell? ⟨b,off,none⟩=some arr[off]:=by simp[nu,hb,eh hlt]
  simp[z52,ha,z5w]
def eF (hP:Aq P=true) (c:AO Γ w s) {T:TypeId} {k} {q:List Nat} {τ:Ty} {x:V} {v}
  (hr:AG Γ (.ptr k q τ) v) (ho:s.obj k=some (.box x)) (hne:x.at q≠.any) (ht:τ=ty P T) (hk:τ.known=true):
  ∃u,(kz T v).run P w= .ok u w/\AG Γ (view (x.at q)) u:=by
 obtain⟨b,τ0,o,h1,h2,rfl⟩:=Gj hr;obtain⟨b',cells,E,e1,_,_,hb,hsz,za,hxp,_⟩:=c.own (by assumption) ho;rw[h1]at e1;cases e1;obtain⟨g1,g2,g3⟩:=za.at_ h2 hne hxp;have hcl:(chunk cells.toList 0 x.ty.size).length=x.ty.size:=Dm _ _ _ (by simpa using hsz);rw[hcl]at g2;have hch:chunk (chunk cells.toList 0 x.ty.size) o τ.size=chunk cells.toList o τ.size:=by rw[Dy _ _ _ _ _ g2,cq]
 rw[hch]at g3;have hpl:=V.TA g3 hne;obtain⟨u,r1,r2,r3⟩:=YL (T:=T) (E:=E) (fr:=(0,0)) hP ht.symm hk hb (by omega) (g3.one hpl);refine⟨u,?_,(BZ (by rw[z4F];exact hpl)).2 ⟨?_,by rw[q2u,g1,r3]⟩⟩
 ·simp[kz,jx,r1]
 ·rw[r2];exact q2t _ g3
def q2B:∀{q:List Nat} {τ0 f:Ty} {o:Nat} {i:Nat},τ0.walk (q++[i])=some (o,f)->∃o1 τ o2,τ0.walk q=some (o1,τ)/\τ.child i=some (o2,f)/\o=o1+o2
 | [],τ0,f,o,i,h=>by
  simp only[fz,vw]at h;cases hc:τ0.child i with
  |none=>rw[hc]at h;cases h
  |some x=>
   obtain⟨o2,f2⟩:=x;rw[hc]at h;simp only[eu,gp]at h;obtain⟨rfl,rfl⟩:=h;exact⟨0,τ0,o2,rfl,hc,by omega⟩
 |j::q,τ0,f,o,i,h=>by
  simp only[ji,vw]at h ⊢;cases hc:τ0.child j with
  |none=>rw[hc]at h;cases h
  |some x=>
   obtain⟨o3,f3⟩:=x;rw[hc]at h;simp only at h ⊢;cases hw:f3.walk (q++[i])with
   |none=>rw[hw]at h;cases h
   |some y=>
    obtain⟨o4,f4⟩:=y;rw[hw]at h;simp only[eu,gp]at h;obtain⟨rfl,rfl⟩:=h;obtain⟨o1,τ,o2,h1,h2,rfl⟩:=q2B hw;exact⟨o3+o1,τ,o2,by rw[h1],h2,by omega⟩
def q8t (hP:Aq P=true) (c:AO Γ w s) {T:TypeId} {k} {q:List Nat} {lo m M:Nat} {e} {x:V} {cc:C} {v}
  (hr:AG Γ (.ptr k (q++[lo]) e) v) (ho:s.obj k=some (.box x)) (hat:x.at q= .d (.arr M e) cc) (ht:ty P T= .arr m e) (hk:(Ty.arr m e).known=true) (hlo:lo+m<=M):
  ∃u,(kz T v).run P w= .ok u w/\AG Γ (.d (.arr m e) (.agg ((cc.elems.drop lo).take m))) u:=by
 obtain⟨b,τ0,o,h1,h2,rfl⟩:=Gj hr;obtain⟨b',cells,E,e1,_,_,hb,hsz,za,hxp,_⟩:=c.own (by assumption) ho;rw[h1]at e1;cases e1;obtain⟨o1,τ,o2,w1,w2,rfl⟩:=q2B h2;obtain⟨g1,g2,g3⟩:=za.at_ w1 (by rw[hat];simp) hxp;have hcl:(chunk cells.toList 0 x.ty.size).length=x.ty.size:=Dm _ _ _ (by simpa using hsz);rw[hcl]at g2;have hch:chunk (chunk cells.toList 0 x.ty.size) o1 τ.size=chunk cells.toList o1 τ.size:=by rw[Dy _ _ _ _ _ g2,cq]
 rw[hch,hat]at g3;rw[hat]at g1;simp only[qa]at g1;subst g1;simp only[AA,AK,iy]at g3;obtain⟨cs,rfl,r1,r2,r3,r4⟩:=g3;simp only[au];simp only[kg]at w2;split at w2
 ·rename_i hlM;simp only[eu,gp,and_true]at w2;subst w2;simp only[iy]at g2;have hlen:((cs.drop lo).take m).length=m:=by simp;omega
  have hms:(lo+m)*e.size<=M*e.size:=cd _ hlo;rw[de]at hms;have z6X:(chunk cells.toList (o1+lo*e.size) (m*e.size)).length=m*e.size:=Dm _ _ _ (by simp;omega);have hel:∀i c,((cs.drop lo).take m)[i]? =some c->AK Γ.H e (chunk (chunk cells.toList (o1+lo*e.size) (m*e.size)) (i*e.size) e.size) c:=by
   intro i c hi;rw[fv]at hi;split at hi
   ·rename_i hin;rw[jq]at hi;have h9:=r4 _ _ hi;have hle:(i+1)*e.size<=m*e.size:=cd _ hin;rw[de]at hle;rw[de]at h9;rw[Dy _ _ _ _ _ (by omega)]at h9 ⊢;rw[show o1+lo*e.size+i*e.size=o1+(lo*e.size+i*e.size) by omega];exact h9
   ·cases hi
  have h4:AK Γ.H (.arr m e) (chunk cells.toList (o1+lo*e.size) (Ty.arr m e).size) (.agg ((cs.drop lo).take m)):=by
   simp only[AK,iy];exact⟨_,rfl,hlen,z6X,j6 hlen z6X hel,hel⟩
  obtain⟨u,q1,q2,q3⟩:=YL (T:=T) (E:=E) (fr:=(0,0)) (off:=o1+lo*e.size) hP ht hk hb (by simp only[iy];omega) h4.one;refine⟨u,?_,Ct.2 ⟨by rw[q2];exact h4,q3⟩⟩;simp[kz,jx,q1]
 ·cases w2
def q8s (hP:Aq P=true) (c:AO Γ w s) {T:TypeId} {τ:Ty} {cc v}
  (hr:AG Γ (.yn τ cc) v) (ht:τ=ty P T) (hk:τ.known=true):
  ∃u,(kz T v).run P w= .ok u w/\AG Γ (.d τ cc) u:=by
 obtain⟨b,off,l,rfl,h2,h3,h4⟩:=UG hr;obtain⟨arr,E,fr,r,hb,hl⟩:=c.hH b l h2;have hch:chunk arr.toList off τ.size=chunk l off τ.size:=by rw[hl,Nn _ _ _ _ h3]
 have hsz:off+τ.size<=arr.size:=by rw[<-jf,hl,bx];omega
 obtain⟨u,r1,r2,r3⟩:=YL (T:=T) hP ht.symm hk hb hsz (by rw[hch];exact h4.one);exact⟨u,by simp[kz,jx,r1],Ct.2 ⟨by rw[r2,hch];exact h4,r3⟩⟩
def z40 {cells:Array Value} (h:Dj Lc cells.toList=true):cells=#[.pointer none,.slice none 0 0]:=by
 apply Array.ext';generalize cells.toList=l at h;simp only[Lc,Dj,Iy,bg,beq_iff_eq,decide_eq_true_eq,iy,chunk]at h;obtain⟨⟨h1,_⟩,⟨_,h2⟩,⟨_,h3⟩,_⟩:=h
 match l,h1 with
 | [a,b],_=>
  simp only[ib,List.take_succ_cons,xo,List.drop_succ_cons]at h2 h3;cases a <;> simp[NK]at h2;cases b <;> simp[NK]at h3;obtain⟨⟨rfl,rfl⟩,rfl⟩:=h3;subst h2;rfl
def Si (τ:Ty) (T:TypeId):O:=bif Ty.beq τ Lc then .it [] T else .box (Bv τ)
def q40 (c:AO Γ w s) {o:Oper} {a} {T:TypeId} {n:Nat} (ho:o.op= .alloc T) (hn:s.obj (.l n)=none) (hz:Bz P T=true):
  Au P o a w (BB Γ w {s with loc:=(.l n,Si (ty P T) T)::s.loc} (.ptr (.l n) [] (ty P T))):=by
 obtain⟨z,zi,hzo,hag⟩:=q1n hz;have hlen:=NL hzo;cases hB:Ty.beq (ty P T) Lc with
 |true=>
  have e:=(Ty.beq_iff _ _).1 hB;rw[e]at hzo;have hz2:z.cells=#[.pointer none,.slice none 0 0]:=z40 hzo;obtain⟨h1,h2,h3⟩:=c.Bp hn (Ext.alloc w (.cells z.cells T)) (τ:=Lc) (o:=.it [] T) fun Γ' hpr _ hι hH hZ=>⟨w.heap.size,.pointer none,.slice none 0 0,hι,hH,hZ,by rw[heap_alloc_new,hz2],.inl rfl,by simp,.inl ⟨rfl,rfl⟩⟩;simp only[Si,hB,cond_true];rw[e];refine Au.val (v:=.pointer (some ⟨w.heap.size,0,none⟩)) (w':=w.alloc (.cells z.cells T)) ?_ ⟨_,h3,h2,h1,(BZ rfl).2 ⟨?_,by simp[qa,jb,BJ]⟩⟩
  ·unfold execOp;simp only[ho,yb,da,zi,cu];simp[newVar,newRow]
  ·simp only[AA];exact⟨w.heap.size,Lc,0,by simp[G.Bp,DU],rfl,by simp[fe]⟩
 |false=>
 simp only[Si,hB,cond_false];have hX:AA Γ none [] (Bv (ty P T)) z.cells.toList:=Yq (ty P T) hzo;have hb:=Wt c hn (T:=T) (x:=Bv (ty P T)) (cells:=z.cells) (Ext.alloc w _) (heap_alloc_new w (.cells z.cells T)) (by rw[NM,<-hlen];simp) (by rw[NM,<-hlen,MC];exact hX) (Yp _) (q2O _);rw[NM]at hb;refine Au.val (v:=.pointer (some ⟨w.heap.size,0,none⟩)) (w':=w.alloc (.cells z.cells T)) ?_ hb;unfold execOp;simp only[ho,yb,da,zi,cu];simp[newVar,newRow]
def q43 (c:AO Γ w s) {o:Oper} {a:Act} {T:TypeId} {x} {n:Nat} {y:V} (ho:o.op= .box T x) (hn:s.obj (.l n)=none) (hr:AG Γ y (a.eval x)) (hpl:y.plain=true) (hns:y.Aw=true):
  Au P o a w (BB Γ w {s with loc:=(.l n,.box y)::s.loc} (.ptr (.l n) [] y.ty)):=by
 obtain⟨h1,_⟩:=(BZ hpl).1 hr;have hlen:=h1.length hpl;have hb:=Wt c hn (T:=T) (x:=y) (cells:=(a.eval x).cells) (Ext.alloc w _) (heap_alloc_new w (.cells (a.eval x).cells T)) (by rw[<-hlen];simp) (by rw[<-hlen,MC];exact h1) hpl hns;refine Au.val (v:=.pointer (some ⟨w.heap.size,0,none⟩)) (w':=w.alloc (.cells (a.eval x).cells T)) ?_ hb;unfold execOp;simp only[ho,wa];simp[newVar,newRow]
def q44 (c:AO Γ w s) {o:Oper} {a:Act} {T:TypeId} {x} {y:V} {cc} (ho:o.op= .box T x) (hr:AG Γ y (a.eval x)) (hpl:y.plain=true) (hc:Bl y=some cc):
  Au P o a w (BB Γ w s (.yn y.ty cc)):=by
 obtain⟨h1,_⟩:=(BZ hpl).1 hr;have hlen:=h1.length hpl;obtain⟨c1,p1,g1⟩:=c.Dl (l:=(a.eval x).cells.toList) (r:=[]) (Ext.alloc w _) (heap_alloc_new w (.cells (a.eval x).cells T)) (by simp);refine Au.val (v:=.pointer (some ⟨w.heap.size,0,none⟩)) (w':=w.alloc (.cells (a.eval x).cells T)) ?_ ⟨_,g1,p1,c1,Mv (l:=(a.eval x).cells.toList) (Cb _ _ _) (by rw[hlen];omega) ?_⟩
 ·unfold execOp;simp only[ho,wa];simp[newVar,newRow]
 ·have:=(Kc _ h1 hc).mono p1.H;rw[<-hlen,MC];exact this
def AO.write (c:AO Γ w s) {k} {x x':V} {b:Nat} {τ} {yt:Array Value} {T:TypeId}
  (ho:s.obj k=some (.box x)) (hι:Γ.ι k=some (b,τ)) (zh:w'.heap[b]? =some (.cells yt T (0,0))) (zg:∀b',b'≠b->w'.heap[b']? =w.heap[b']?) (hoo:oof w'=oof w)
  (hsz:x'.ty.size<=yt.size) (hx:AA Γ (some k) [] x' (chunk yt.toList 0 x'.ty.size)) (ht:x'.ty=x.ty) (hp:x'.plain=true) (hns:x'.Aw=true)
  (hcs:∀arr T fr,w.heap[b]? =some (.cells arr T fr)->yt.size=arr.size):
  AO Γ w' {s with loc:=(k,.box x')::s.loc}:=by
 obtain⟨hH,hZ,hlt,e2⟩:=c.ES hι ho rfl;simp only[O.ty]at e2;refine c.change (.refl Γ) rfl rfl rfl hoo (fun b' l h=>?_) (fun b' h=>zg b' (fun e=>by subst e;exact h hZ)) (fun b' o sz h=>?_) (fun j o h=>?_) (fun _ h _=>h) (fun j h=>?_) (fun b' sz h=>?_) (c.Jt (aK fun h=>by rw[EV ho]at h;cases h)) c.tok c.zc (mJ zh zg)
 ·rw[zg b' (fun e=>by subst e;rw[hH]at h;cases h)];exact c.hH b' l h
 ·obtain⟨a1,a2,a3⟩:=c.hκ b' o sz h;rw[zg b' (fun e=>by subst e;exact a2 hH)];exact⟨a1,a2,a3⟩
 ·rw[CU]at h;split at h
  ·rename_i e;subst e;cases h;exact .inr ⟨b,yt,T,by rw[hι,e2,ht],hH,hZ,zh,hsz,hx,hp,hns⟩
  ·rename_i e;refine .inl ⟨h,fun hd=>⟨fun _ _ _ _=>⟨rfl,rfl⟩,fun b' τ' hb=>?_⟩⟩;obtain⟨a1,a2,a3,_⟩:=c.ES hb h hd;refine⟨zg b' (fun e'=>?_),a1⟩;subst e';exact e (c.cY hι hb (by rw[EV ho];rfl) (by rw[EV h];exact hd))
 ·rw[CU];split
  ·simp
  ·exact c.dom j h
 ·obtain⟨arr,T1,fr,a1,a2⟩:=c.hσ b' sz h;by_cases e:b'=b
  ·subst e;exact⟨yt,T,(0,0),zh,by rw[hcs _ _ _ a1];exact a2⟩
  ·exact⟨arr,T1,fr,by rw[zg b' e];exact a1,a2⟩
def z3D {T:TypeId} {τ:Ty} (hP:Aq P=true) (ht:ty P T=τ) (hk:τ.known=true) {b off:Nat} {arr:Array Value} {E:TypeId} {v:Value}
  (hb:w.heap[b]? =some (.cells arr E (0,0))) (hl:off+τ.size<=arr.size) (hv:v.cells.toList.length=τ.size) (h1:Cm v.cells.toList):
  (storeVar T ⟨b,off,none⟩ v).run P w= .ok () (w.setRow b (BN arr.toList off v.cells.toList).toArray):=by
 have hsz:=run_sizeOf (w:=w) hP (T:=T) (by intro s e;rw[ht]at e;subst e;simp[Ty.known]at hk);rw[ht]at hsz;have hv':v.cells.size=τ.size:=by simpa using hv
 have hst:=run_storeCells_at P b off E v.cells.toList 0 arr w hb (by simp;omega) h1;simp only[Nat.add_zero]at hst;simp[storeVar,hsz,hv',hst,BN]
def q1L (vs ws:List Value) {o n:Nat} (h:o+ws.length<=n) (hn:n<=vs.length):chunk (BN vs o ws) 0 n=BN (chunk vs 0 n) o ws:=by
 apply fl;intro i;have hl:(chunk vs 0 n).length=n:=Dm _ _ _ (by omega);rw[DY,Fo (by omega),Fo (by omega),DY];simp only[cq];by_cases hi:i<n
 ·rw[if_pos hi,if_pos hi]
 ·rw[if_neg hi,if_neg (by omega),if_neg hi]
def q5g (hP:Aq P=true) (c:AO Γ w s) {o:Oper} {a:Act} {t:TypeId} {l cp:Operand} {L Cp:V} {k1 k2:IntKind} {nl nc:Nat} {n:Nat} {eb:Nat} {e:Ty}
  (ho:o.op= .makeSlice t l cp) (ht:ty P t= .slice eb e) (hz:Bz P (Al P t)=true) (hn:s.obj (.l n)=none)
  (hl:a.eval l= .int k1 nl) (hc:a.eval cp= .int k2 nc) (h1:nl<=nc) (h2:nc<=maxLen) (hb:nc*eb<=140737488355328) (hes:e.size≠0) {cpv:Option Nat} (z7E:∀c,cpv=some c->nc=c):
  Au P o a w (BB Γ w {s with loc:=(.l n,.box (.d (.arr nl e) (.agg (bf nl (AI e)))))::s.loc} (.sr (.l n) [] 0 nl cpv eb e)):=by
 obtain⟨hu,he,heb,hE⟩:=Le hP ht;obtain⟨i,z,hi,hzz,hzo,z5Q⟩:=Lk hz;have hcz:=NL hzo;have hsz:i.size=e.size:=by
  have:=Cf hP 11 (Al P t);rw[he,this];simp[ik,hi]
 have hby:i.bytes=eb:=by rw[heb];simp[nq,hi]
 have hzc:z.cells.size=e.size:=by
  have h1:=Cf hP 11 (Al P t);have h2:=NH hP (Al P t);rw[he,h1,<-h2,<-hcz];simp
 have w1:IntKind.i64.wrap (nl:Int)=nl:=dh _ (by unfold maxLen at h2;omega);have w2:IntKind.i64.wrap (nc:Int)=nc:=dh _ (by unfold maxLen at h2;omega);have hb':¬(281474976710656:Int)<(eb:Int)*(nc:Int):=by
  have:(eb:Int)*(nc:Int)=((nc*eb:Nat):Int):=by rw[Int.mul_comm];push_cast;rfl
  rw[this];omega
 have zi:(rh t (a.eval l) (a.eval cp)).run P w= .ok (.slice (some ⟨w.heap.size,0,none⟩) nl nc) (w.alloc (.cells ((ig (nc*e.size)).map (z.cells[· %z.cells.size]!)) (Al P t))):=by
  by_cases h0:nc=0
  ·subst h0;have:nl=0:=by omega
   subst this;have h00:(vx (fun _=>(default:Value)) (ig 0))=#[]:=by apply ia;simp
   have h01:(vx (fun x=>z.cells[x%z.cells.size]!) (ig 0))=#[]:=by apply ia;simp
   have w0:IntKind.i64.wrap 0=0:=by decide
   simp[rh,hl,hc,run_underlying hu,asInt,asIntOf,typeInfo,hi,w0,sizeOf,hsz,newRow,h00,h01]
  ·have h3:¬(nc*e.size=0):=xq h0 hes;have h4:¬((nc:Int)<(nl:Int)):=by omega
   have h5:¬((nc:Int)<0):=by omega
   have h6:¬((nl:Int)<0):=by omega
   simp[rh,hl,hc,run_underlying hu,asInt,asIntOf,typeInfo,hi,w1,w2,sizeOf,hsz,newRow,h3,hby,hb',h4,h5,h6,zeroValue,hzz]
 have zv:((ig (nc*e.size)).map (z.cells[· %z.cells.size]!)).size=nc*e.size:=by rw[Array.size_map,Array.size_range]
 have hnl:nl*e.size<=nc*e.size:=cd _ h1;have hX:∀j,j<nl->chunk ((ig (nc*e.size)).map (z.cells[· %z.cells.size]!)).toList (j*e.size) e.size=z.cells.toList:=by
  intro j hlt;apply fl;intro q;rw[DY];have hb2:(j+1)*e.size<=nc*e.size:=cd _ (by omega);rw[de]at hb2;split
  ·rename_i hq;have e1:(j*e.size+q)%z.cells.size=q:=by rw[hzc,Nat.add_comm,Nat.add_mul_mod_self_right,Nat.mod_eq_of_lt hq]
   rw[lu,di,Array.toList_range,iq (by omega)];simp only[Option.map_some,e1];have:q<z.cells.size:=by omega
   simp[getElem!_pos z.cells q this]
  ·rw[gd (by simp;omega)]
 have za:AA Γ none [] (.d (.arr nl e) (.agg (bf nl (AI e)))) (chunk ((ig (nc*e.size)).map (z.cells[· %z.cells.size]!)).toList 0 (V.d (.arr nl e) (.agg (bf nl (AI e)))).ty.size):=by
  simp only[AA,qa,iy];have hlen:(chunk ((ig (nc*e.size)).map (z.cells[· %z.cells.size]!)).toList 0 (nl*e.size)).length=nl*e.size:=Dm _ _ _ (by simp only[jf,zv];omega);have hel:∀i c',(bf nl (AI e))[i]? =some c'->AK Γ.H e (chunk (chunk ((ig (nc*e.size)).map (z.cells[· %z.cells.size]!)).toList 0 (nl*e.size)) (i*e.size) e.size) c':=by
   intro i c' hi;rw[nh]at hi;split at hi
   ·rename_i hlt;cases hi;have hb2:(i+1)*e.size<=nl*e.size:=cd _ hlt;rw[de]at hb2;rw[Dy _ _ _ _ _ (by omega),cq,hX i hlt,he];exact Gq z5Q
   ·cases hi
  simp only[AK];exact⟨_,rfl,by simp,hlen,PC (by simp) hlen hel,hel⟩
 obtain⟨Γ',q1,q2,q3,q4⟩:=Wt c hn (T:=Al P t) (Ext.alloc w _) (heap_alloc_new w (.cells ((ig (nc*e.size)).map (z.cells[· %z.cells.size]!)) (Al P t))) (by rw[zv];exact hnl) za rfl rfl;obtain⟨y1,y2,y3⟩:=q3.Hf (heap_alloc_new w (.cells ((ig (nc*e.size)).map (z.cells[· %z.cells.size]!)) (Al P t)));refine Au.val (v:=.slice (some ⟨w.heap.size,0,none⟩) nl nc) (w':=w.alloc (.cells ((ig (nc*e.size)).map (z.cells[· %z.cells.size]!)) (Al P t))) ?_ ⟨_,q1.trans y3,q2.trans y2,y1,?_⟩
 ·unfold execOp;simp only[ho,da,zi,cu,fc]
 ·obtain⟨b,τ0,o',r1,r2,r3⟩:=Gj q4;simp at r3;obtain⟨rfl,rfl⟩:=r3;exact YD (show(G.Hf Γ' _ _).ι (.l n)=_ from r1) r2 (by omega) (.inr (by simp)) h1 h2 (px (cd _ h1) hb) z7E (fun _=>.inr ⟨_,Cb _ _ _,by rw[zv,cq,cq];exact ca _⟩)
def qD (hP:Aq P=true) (w:World) (a:Act) {t:TypeId} {len:Nat} {parts:Array (Nat × Operand)} {eb:Nat} {e:Ty}
  (ht:ty P t= .slice eb e) (hz:Bz P (Al P t)=true) (hlen:0<len) (hes:e.size≠0) (zx:len*e.size<=16777216)
  (z5u:parts.toList.map (·.1)=fi len) (zy:∀v∈(parts.toList.map fun x=>a.eval x.2),v.cells.size=e.size):
  (vo t len (parts.map fun(i,x)=>(i,a.eval x))).run P w= .ok (.slice (some ⟨w.heap.size,0,none⟩) len len) (w.alloc (.cells ((parts.toList.map fun x=>a.eval x.2).flatMap fun v=>v.cells.toList).toArray (Al P t)))/\
  ((parts.toList.map fun x=>a.eval x.2).flatMap fun v=>v.cells.toList).length=len*e.size:=by
 obtain⟨hu,he,heb,hE⟩:=Le hP ht;obtain⟨i,z,hi,hzz,hzo,z5Q⟩:=Lk hz;have hcz:=NL hzo;have hsz:i.size=e.size:=by
  have:=Cf hP 11 (Al P t);rw[he,this];simp[ik,hi]
 have hzc:z.cells.size=e.size:=by
  have h1:=Cf hP 11 (Al P t);have h2:=NH hP (Al P t);rw[he,h1,<-h2,<-hcz];simp
 have hpl:parts.toList.length=len:=by have:=congrArg aq z5u;simpa using this
 have hvs:(parts.map fun(i,x)=>(i,a.eval x)).toList=((parts.toList.map fun x=>a.eval x.2).zipIdx 0).map fun x=>(x.2,x.1):=by
  apply fl;intro j;simp only[lu,di,List.getElem?_zipIdx];cases hj:parts.toList[j]? with
  |none=>simp
  |some x=>
   have:(parts.toList.map (·.1))[j]? =some x.1:=by simp[hj]
   rw[z5u]at this;have hlt:j<len:=by rw[<-hpl];exact(bz.1 hj).1
   simp[iq hlt]at this;simp[this]
 have hf:=Great.fill_whole (s:=e.size) (by omega) (parts.toList.map fun x=>a.eval x.2) ((ig (len*e.size)).map (z.cells[· %z.cells.size]!)) zy (by simp[hpl]);have run:=run_buildSlice (P:=P) w t (Al P t) len (parts.map fun(i,x)=>(i,a.eval x)) _ i z hu hi hzz (by rw[hsz];omega) (by rw[hsz];exact xq (by omega) hes) (by rw[hsz,hvs];exact hf);refine⟨run,?_⟩;simp only[List.length_flatMap];have:(List.map (fun v=>v.cells.toList.length) (parts.toList.map fun x=>a.eval x.2))=bf len e.size:=by
  apply List.eq_replicate_iff.2;refine⟨by simp[hpl],fun b hb=>?_⟩;obtain⟨v,hv,rfl⟩:=List.mem_map.1 hb;simpa using zy v hv
 rw[this];simp
def sG (hP:Aq P=true) (c:AO Γ w s) {o:Oper} {a:Act} {t:TypeId} {len:Nat} {parts:Array (Nat × Operand)} {cs:List C} {eb:Nat} {e:Ty}
  (ho:o.op= .buildSlice t len parts) (ht:ty P t= .slice eb e) (hz:Bz P (Al P t)=true) (hlen:0<len) (hes:e.size≠0) (zx:len*e.size<=16777216) (hb:len*eb<=140737488355328)
  (z5u:parts.toList.map (·.1)=fi len) (hcs:cs.length=len)
  (hx:∀(i:Nat) (x:Nat × Operand) (cc:C),parts.toList[i]? =some x->cs[i]? =some cc->AG Γ (.d e cc) (a.eval x.2)):
  Au P o a w (fun v w'=>(∃ad,v= .slice ad len len)/\BB Γ w s (.d (.slice eb e) (.slice cs)) v w'):=by
 have hpl:parts.toList.length=len:=by have:=congrArg aq z5u;simpa using this
 have za:∀(j:Nat) (v:Value),(parts.toList.map fun x=>a.eval x.2)[j]? =some v->∃cc,cs[j]? =some cc/\AG Γ (.d e cc) v:=by
  intro j v hj;simp only[di]at hj;cases hx':parts.toList[j]? with
  |none=>simp[hx']at hj
  |some x=>
   simp[hx']at hj;have hlt:j<len:=by rw[<-hpl];exact(bz.1 hx').1
   have hcj:cs[j]? =some cs[j]:=bm (by omega);exact⟨_,hcj,hj ▸ hx j x _ hx' hcj⟩
 have zy:∀v∈(parts.toList.map fun x=>a.eval x.2),v.cells.size=e.size:=by
  intro v hv;obtain⟨j,hj⟩:=oc.1 hv;obtain⟨cc,_,hr⟩:=za j v hj;have:=(Ct.1 hr).1.length;simpa using this
 obtain⟨run,z5O⟩:=qD hP w a ht hz hlen hes zx z5u zy;obtain⟨c1,p1,g1⟩:=c.Dl (Ext.alloc w _) (l:=(parts.toList.map fun x=>a.eval x.2).flatMap fun v=>v.cells.toList) (r:=[]) (heap_alloc_new w (.cells ((parts.toList.map fun x=>a.eval x.2).flatMap fun v=>v.cells.toList).toArray (Al P t))) (by simp);refine Au.val (v:=.slice (some ⟨w.heap.size,0,none⟩) len len) (w':=w.alloc (.cells ((parts.toList.map fun x=>a.eval x.2).flatMap fun v=>v.cells.toList).toArray (Al P t))) ?_ ⟨⟨_,rfl⟩,_,g1,p1,c1,Pv (Dh hcs (ca _) (by have:=tv len (vr hes);unfold maxLen;omega) hb (.inr ⟨w.heap.size,0,_,rfl,Cb _ _ _,by rw[z5O];omega,fun j c' hj=>?_⟩))⟩
 ·unfold execOp;simp only[ho,da,run,cu,fc]
 ·have hlt:j<len:=by rw[<-hcs];exact(bz.1 hj).1
  have hv:(parts.toList.map fun x=>a.eval x.2)[j]? =some ((parts.toList.map fun x=>a.eval x.2)[j]'(by simp[hpl];omega)):=bm _;obtain⟨cc,hcc,hr⟩:=za j _ hv;rw[hj]at hcc;cases hcc;have:=cA _ j _ zy hv;rw[cq,this];exact(Ct.1 hr).1.mono p1.H
def q0T {Γ} {τ:Ty} {cells:List Value}:∀(xs:List V) (p:List Nat) (i:Nat),(∀(j:Nat) y,xs[j]? =some y->∃o f,τ.child (i+j)=some (o,f)/\y.ty=f/\o+f.size<=cells.length/\AA Γ none [] y (chunk cells o f.size))->AZ Γ none p i τ xs cells
 | [],_,_,_=>by simp only[AZ]
 |x::xs,p,i,h=>by
  simp only[AZ];obtain⟨o,f,h1,h2,h3,h4⟩:=h 0 x rfl;exact⟨⟨o,f,h1,h2,h3,h4.DW⟩,q0T xs p (i+1) fun j y hy=>by rw[show i+1+j=i+(j+1) by omega];exact h (j+1) y hy⟩
def q49 (hP:Aq P=true) (c:AO Γ w s) {o:Oper} {a:Act} {t:TypeId} {len:Nat} {parts:Array (Nat × Operand)} {vs:List V} {eb:Nat} {e:Ty} {n:Nat} (hn:s.obj (.l n)=none)
  (ho:o.op= .buildSlice t len parts) (ht:ty P t= .slice eb e) (hz:Bz P (Al P t)=true) (hlen:0<len) (hes:e.size≠0) (zx:len*e.size<=16777216) (hb:len*eb<=140737488355328)
  (z5u:parts.toList.map (·.1)=fi len) (hcs:vs.length=len)
  (hx:∀(i:Nat) (x:Nat × Operand) (y:V),parts.toList[i]? =some x->vs[i]? =some y->AG Γ y (a.eval x.2)) (hy:∀y∈vs,y.ty=e/\y.plain=true) (hns:V.CC vs=true):
  Au P o a w (BB Γ w {s with loc:=(.l n,.box (.agg (.arr len e) vs))::s.loc} (.sr (.l n) [] 0 len (some len) eb e)):=by
 have hpl:parts.toList.length=len:=by have:=congrArg aq z5u;simpa using this
 have za:∀(j:Nat) (v:Value),(parts.toList.map fun x=>a.eval x.2)[j]? =some v->∃y,vs[j]? =some y/\y.ty=e/\y.plain=true/\AA Γ none [] y v.cells.toList:=by
  intro j v hj;simp only[di]at hj;cases hx':parts.toList[j]? with
  |none=>simp[hx']at hj
  |some x=>
   simp[hx']at hj;have hlt:j<len:=by rw[<-hpl];exact(bz.1 hx').1
   have hcj:vs[j]? =some vs[j]:=bm (by omega);obtain⟨h1,h2⟩:=hy _ (fg hcj);exact⟨_,hcj,h1,h2,hj ▸ ((BZ h2).1 (hx j x _ hx' hcj)).1⟩
 have zy:∀v∈(parts.toList.map fun x=>a.eval x.2),v.cells.size=e.size:=by
  intro v hv;obtain⟨j,hj⟩:=oc.1 hv;obtain⟨y,_,h1,h2,hr⟩:=za j v hj;have:=hr.length h2;rw[h1]at this;simpa using this
 obtain⟨run,z5O⟩:=qD hP w a ht hz hlen hes zx z5u zy;have z5F:Cm ((parts.toList.map fun x=>a.eval x.2).flatMap fun v=>v.cells.toList):=by
  intro u hu;obtain⟨v,hv,hu⟩:=List.mem_flatMap.1 hu;obtain⟨j,hj⟩:=oc.1 hv;obtain⟨y,_,_,h2,hr⟩:=za j v hj;exact hr.one h2 u hu
 have hX:AA Γ none [] (.agg (.arr len e) vs) ((parts.toList.map fun x=>a.eval x.2).flatMap fun v=>v.cells.toList):=by
  simp only[AA];refine⟨z5O,z5F,hcs,rfl,q0T _ _ _ fun j y hj=>?_⟩;have hlt:j<len:=by rw[<-hcs];exact(bz.1 hj).1
  have hv:(parts.toList.map fun x=>a.eval x.2)[j]? =some ((parts.toList.map fun x=>a.eval x.2)[j]'(by simp[hpl];omega)):=bm _;obtain⟨y',hy',h1,h2,hr⟩:=za j _ hv;rw[hj]at hy';cases hy';have:=cA _ j _ zy hv;have hm:(j+1)*e.size<=len*e.size:=cd _ hlt;rw[de]at hm;refine⟨j*e.size,e,by simp only[kg,cq];rw[if_pos hlt],h1,by rw[z5O];omega,?_⟩;rw[this];exact hr
 obtain⟨Γ',q1,q2,q3,q4⟩:=Wt c hn (T:=Al P t) (Ext.alloc w _) (heap_alloc_new w (.cells ((parts.toList.map fun x=>a.eval x.2).flatMap fun v=>v.cells.toList).toArray (Al P t)))
  (x:=.agg (.arr len e) vs) (by rw[iu,z5O];exact ca _) (by rw[show(V.agg (.arr len e) vs).ty.size=((parts.toList.map fun x=>a.eval x.2).flatMap fun v=>v.cells.toList).length from z5O.symm,mn,MC];exact hX) rfl hns
 refine Au.val (v:=.slice (some ⟨w.heap.size,0,none⟩) len len) (w':=w.alloc (.cells ((parts.toList.map fun x=>a.eval x.2).flatMap fun v=>v.cells.toList).toArray (Al P t))) ?_ ⟨Γ',q1,q2,q3,?_⟩
 ·unfold execOp;simp only[ho,da,run,cu,fc]
 ·obtain⟨b,τ0,o',r1,r2,r3⟩:=Gj q4;simp at r3;obtain⟨rfl,rfl⟩:=r3;exact YD (show Γ'.ι (.l n)=_ from r1) r2 (by omega) (.inr (by simp)) (ca _) (by have:=tv len (vr hes);unfold maxLen;omega) hb (fun c h=>by cases h;rfl) (fun h=>by cases h)
def q47 (hP:Aq P=true) (c:AO Γ w s) {o:Oper} {a:Act} {t:TypeId} {len:Nat} {parts:Array (Nat × Operand)} {cs:List C} {eb:Nat} {e:Ty}
  (ho:o.op= .buildSlice t len parts) (ht:ty P t= .slice eb e) (hz:Bz P (Al P t)=true) (hlen:0<len) (hes:e.size≠0) (zx:len*e.size<=16777216) (hb:len*eb<=140737488355328)
  (z5u:parts.toList.map (·.1)=fi len) (hcs:cs.length=len)
  (hx:∀(i:Nat) (x:Nat × Operand) (cc:C),parts.toList[i]? =some x->cs[i]? =some cc->AG Γ (.d e cc) (a.eval x.2)):
  Au P o a w (BB Γ w s (.d (.slice eb e) (.slice cs))):=
 (sG hP c ho ht hz hlen hes zx hb z5u hcs hx).mono fun _ _ h=>h.2
def q5a (hP:Aq P=true) (c:AO Γ w s) {o:Oper} {a:Act} {t:TypeId} {len:Nat} {parts:Array (Nat × Operand)} {cs:List C} {eb:Nat} {e:Ty} {n:Nat} (hn:s.known n=false)
  (ho:o.op= .buildSlice t len parts) (ht:ty P t= .slice eb e) (hz:Bz P (Al P t)=true) (hlen:0<len) (hes:e.size≠0) (zx:len*e.size<=16777216) (hb:len*eb<=140737488355328)
  (z5u:parts.toList.map (·.1)=fi len) (hcs:cs.length=len)
  (hx:∀(i:Nat) (x:Nat × Operand) (cc:C),parts.toList[i]? =some x->cs[i]? =some cc->AG Γ (.d e cc) (a.eval x.2)):
  Au P o a w (BB Γ w {s with tk:=(n,some cs.length)::s.tk} (.sl eb e cs n)):=by
 refine(sG hP c ho ht hz hlen hes zx hb z5u hcs hx).mono ?_;rintro v w' ⟨⟨ad,rfl⟩,Γ',g1,p1,c1,hr⟩;obtain⟨c2,p2,g2⟩:=c1.DA hn (x:=none) (L:=cs.length) (fun _ _ _ h=>by cases h);refine⟨_,g1.trans g2,p1.trans p2,c2,(Bf rfl rfl).2 ⟨?_,rfl⟩⟩;obtain⟨h1,_⟩:=(Bf rfl rfl).1 (hr.BL p2);simp only[AA]at h1 ⊢;exact⟨ad,len,len,rfl,h1,none,cs.length,by simp[G.DA,BR],ca _,fun _=>rfl⟩
def q48 (hP:Aq P=true) (c:AO Γ w s) {o:Oper} {a} {t:TypeId} {eb:Nat} {e} (ho:o.op= .buildSlice t 0 #[]) (ht:ty P t= .slice eb e):
  Au P o a w (BB Γ w s (.emp eb e)):=by
 obtain⟨hu,he,heb,hE⟩:=Le hP ht;have hz:=Ip (f:=11) hP (w:=w) hE;refine Au.val (v:=.slice (some ⟨w.heap.size,0,none⟩) 0 0) (w':=w.alloc (.cells #[] (Al P t))) ?_ (.ext c (Ext.alloc _ _) Pt);have h0:(vx (fun _=>(default:Value)) (ig 0))=#[]:=by apply ia;simp
 unfold execOp;simp[ho,vo,run_underlying hu,hz,qc,newRow,h0]
def bU {place:Nat->Option (Nat × Nat)} {τ:Ty} (hd:τ.Ch=true) (hpl:∀i o f,τ.child i=some (o,f)->place i=some (o,f.size)) {ρ:Operand->V} {ev:Operand->Value}:
  ∀(L:List (Nat × Operand)) (x:V) (cells:Array Value),AA Γ none [] x cells.toList->x.ty=τ->x.plain=true->(∀p∈L,AG Γ (ρ p.2) (ev p.2))->MB τ x (L.map fun p=>(p.1,ρ p.2))->
  ∃yt,qc place cells (L.map fun p=>(p.1,ev p.2))=some yt/\AA Γ none [] (Ji τ x (L.map fun p=>(p.1,ρ p.2))) yt.toList/\(Ji τ x (L.map fun p=>(p.1,ρ p.2))).ty=τ/\(Ji τ x (L.map fun p=>(p.1,ρ p.2))).plain=true
 | [],x,cells,hx,ht,hp,_,_=>⟨cells,rfl,hx,ht,hp⟩
 |(i,y)::L,x,cells,hx,ht,hp,hr,hok=>by
  simp only[ed,MB]at hok;obtain⟨h1,h2,h3,h4,h6⟩:=hok;obtain⟨⟨o,f⟩,hc⟩:=Option.isSome_iff_exists.1 h1;have hf:=Qh hc;rw[hf]at h2 h3 h6;have hy:=ZN (τ:=f) (hr (i,y) (by simp));obtain⟨q1,q2⟩:=(BZ h3).1 hy;have z6M:x.ty.walk [i]=some (o,(Bj f (ρ y)).ty):=by rw[ht,h2];simp[vw,hc]
  obtain⟨g1,g2,_⟩:=hx.at_ z6M h4 hp;have hlen:=q1.length h3;rw[h2]at hlen g2;have q3:AA Γ none ([]++[i]) (Bj f (ρ y)) (ev y).cells.toList:=q1.DW;obtain⟨r1,r2,r3⟩:=AA.setAt hx hp (by rw[ht];exact hd) z6M h4 q3 h3;obtain⟨yt,e1,e2⟩:=q6c (rest:=L.map fun p=>(p.1,ev p.2)) (hpl i o f hc) (by simpa using hlen) (by simpa using g2);simp only[ed,e2,Ji,hf];exact bU hd hpl L _ yt (by rw[e1];exact r1) (by rw[r2,ht]) r3 (fun p hp'=>hr p (by simp[hp'])) h6
def q8C {gs:List Field}:∀{places:List (Nat × Nat)} {j:Nat} {g:Field},gs.mapM (fun f=>(P.info? f.type).map fun i=>(f.offset,i.size))=some places->gs[j]? =some g->places[j]? =some (g.offset,P.cellsOf g.type):=by
 induction gs with
 |nil=>intro places j g _ hj;simp at hj
 |cons g0 gs ih=>
  intro places j g h hj;simp only[uc,Option.bind_eq_bind,Option.pure_def]at h;cases hi:P.info? g0.type with
  |none=>simp[hi]at h
  |some it=>
   cases hr:gs.mapM (fun f=>(P.info? f.type).map fun i=>(f.offset,i.size))with
   |none=>simp[hi,hr]at h
   |some rest=>
    simp[hi,hr]at h;subst h;cases j with
    |zero=>simp at hj;subst hj;simp[ik,hi]
    |succ j=>simpa using ih hr (by simpa using hj)
def mapM_some {gs:List Field} (h:∀g∈gs,g.type<P.types.size):∃places,gs.mapM (fun f=>(P.info? f.type).map fun i=>(f.offset,i.size))=some places:=by
 induction gs with
 |nil=>exact⟨[],rfl⟩
 |cons g gs ih=>
  obtain⟨rest,hr⟩:=ih fun g' hg'=>h g' (by simp[hg']);have hlt:=h g (by simp);cases hi:P.info? g.type with
  |none=>simp[ue,hlt]at hi
  |some it=>exact⟨(g.offset,it.size)::rest,by simp[uc,hi,hr]⟩
def q46 (hP:Aq P=true) {T:TypeId} {parts:Array (Nat × Operand)} {ρ:Operand->V} {ev:Operand->Value} (hz:Bz P T=true) (hd:(ty P T).Ch=true) (hs:(ty P T).isAgg=true)
  (hr:∀p∈parts.toList,AG Γ (ρ p.2) (ev p.2)) (hok:MB (ty P T) (Bv (ty P T)) (parts.toList.map fun p=>(p.1,ρ p.2))):
  ∃v,(Instr.build T (parts.map fun p=>(p.1,ev p.2))).run P w= .ok v w/\AG Γ (Ji (ty P T) (Bv (ty P T)) (parts.toList.map fun p=>(p.1,ρ p.2))) v:=by
 obtain⟨it,z,hi,hzz,hzo,_⟩:=Lk hz;have hX:AA Γ none [] (Bv (ty P T)) z.cells.toList:=Yq (ty P T) hzo;have hXp:=Yp (ty P T);cases hτ:ty P T with
 |struct sz os fs=>
  obtain⟨gs,hu,rfl,rfl,hsz,hgs⟩:=nE hP hτ;obtain⟨places,hpm⟩:=mapM_some (P:=P) (gs:=gs.toList) fun g hg=>(hgs g hg).1;have hpl:∀i o f,(ty P T).child i=some (o,f)->(places.toArray[i]?)=some (o,f.size):=by
   intro i o f hc;rw[hτ]at hc;simp only[kg,di]at hc;cases hg:gs.toList[i]? with
   |none=>rw[hg]at hc;simp at hc
   |some g=>
    rw[hg]at hc;simp at hc;obtain⟨rfl,rfl⟩:=hc;rw[Cf hP 11 g.type];simpa using q8C hpm hg
  obtain⟨yt,e1,e2,e3,e4⟩:=bU (Γ:=Γ) hd hpl parts.toList (Bv (ty P T)) z.cells hX (NM _) hXp hr hok;refine⟨.agg yt,run_build w T _ yt ?_,?_⟩
  ·simp only[wh,hi,hu,hzz,hpm,lu];exact e1
  ·rw[<-hτ];refine(BZ e4).2 ⟨by simpa[fe]using e2,?_⟩;rw[e3,hτ];simp[BJ,jb]
 |arr n e=>
  obtain⟨E,hu,he⟩:=QJ hτ;have hT:T<P.types.size:=by
   rcases kn T P.types.size with hh|hh
   ·exact hh
   ·unfold ty tyF at hτ;rw[if_neg (Nat.not_lt.2 hh)]at hτ;cases hτ
  have z5L:=Ii hP hT;unfold okT at z5L;simp only[hu]at z5L;simp at z5L;obtain⟨ie,hie⟩:∃i,P.info? E=some i:=by
   cases hi:P.info? E with
   |none=>simp[ue,z5L.2]at hi
   |some i=>exact⟨i,rfl⟩
  have hes:ie.size=e.size:=by
   have:=Cf hP 11 E;rw[he,this];simp[ik,hie]
  have hpl:∀i o f,(ty P T).child i=some (o,f)->(fun i=>some (i*ie.size,ie.size):Nat->Option (Nat × Nat)) i=some (o,f.size):=by
   intro i o f hc;rw[hτ]at hc;simp only[kg]at hc;split at hc
   ·simp at hc;obtain⟨rfl,rfl⟩:=hc;simp[hes]
   ·cases hc
  obtain⟨yt,e1,e2,e3,e4⟩:=bU (Γ:=Γ) hd hpl parts.toList (Bv (ty P T)) z.cells hX (NM _) hXp hr hok;refine⟨.agg yt,run_build w T _ yt ?_,?_⟩
  ·simp only[wh,hi,hu,hzz,hie,lu];exact e1
  ·rw[<-hτ];refine(BZ e4).2 ⟨by simpa[fe]using e2,?_⟩;rw[e3,hτ];simp[BJ,jb]
 |int|bool|str|slice|ptr|map|func|iface|opq=>rw[hτ]at hs;simp[jb]at hs
end
end
section
mutual
def V.sites (lv:Nat->Option Nat):List Nat->V->List (Nat × List Nat)
 |p,.sl _ _ cs t=>if lv t=some cs.length then[(t,p)]else[]
 |p,.agg _ vs=>V.UZ lv p 0 vs
 |_,_=>[]
def V.UZ (lv:Nat->Option Nat):List Nat->Nat->List V->List (Nat × List Nat)
 |_,_,[]=>[]
 |p,i,x::xs=>V.sites lv (p++[i]) x++V.UZ lv p (i+1) xs
end
mutual
def V.Bd (σ:List (Nat × List Nat)) (lv:Nat->Option Nat):List Nat->V->V
 |p,.sl eb e cs t=>if look σ t=some p/\lv t=some cs.length then .ts eb e cs else .d (.slice eb e) (.slice cs)
 |p,.agg τ vs=>.agg τ (V.Hn σ lv p 0 vs)
 |_,x=>x
def V.Hn (σ:List (Nat × List Nat)) (lv:Nat->Option Nat):List Nat->Nat->List V->List V
 |_,_,[]=>[]
 |p,i,x::xs=>V.Bd σ lv (p++[i]) x::V.Hn σ lv p (i+1) xs
end
def V.wC (σ:List (Nat × List Nat)) (lv:Nat->Option Nat):∀(p:List Nat) (i:Nat) (xs:List V),(V.Hn σ lv p i xs).length=xs.length
 |_,_,[]=>rfl
 |p,i,x::xs=>by simp[V.Hn,V.wC σ lv p (i+1) xs]
def V.Rc (σ:List (Nat × List Nat)) (lv:Nat->Option Nat) (p:List Nat) (x:V):(x.Bd σ lv p).ty=x.ty:=by cases x <;> simp only[V.Bd] <;> (try split) <;> simp[qa]
def V.vZ (σ:List (Nat × List Nat)) (lv:Nat->Option Nat) (p:List Nat) (x:V):(x.Bd σ lv p).plain=x.plain:=by cases x <;> simp only[V.Bd] <;> (try split) <;> simp[V.plain]
mutual
def V.okH:V->Bool
 | .fn _ vs=>V.CC vs
 | .agg _ vs=>V.Sl vs
 | .tup _=>false
 |_=>true
def V.Sl:List V->Bool
 | []=>true
 |x::xs=>x.okH&&V.Sl xs
end
mutual
def V.cW (σ:List (Nat × List Nat)) (lv:Nat->Option Nat):∀(x:V) (p:List Nat),x.okH=true->(x.Bd σ lv p).Aw=true
 | .sl eb e cs t,p,_=>by simp only[V.Bd];split <;> rfl
 | .agg τ vs,p,h=>by simp only[V.Bd,V.Aw];exact V.wD σ lv vs p 0 (by simpa[V.okH]using h)
 | .fn f vs,p,h=>by simpa[V.Bd,V.Aw,V.okH]using h
 | .tup _,p,h=>by simp[V.okH]at h
 | .d _ _,_,_| .ts _ _ _,_,_| .emp _ _,_,_| .ym,_,_| .ptr _ _ _,_,_| .yn _ _,_,_| .sr _ _ _ _ _ _ _,_,_| .mp _,_,_| .top _,_,_| .any,_,_=>by simp[V.Bd,V.Aw]
def V.wD (σ:List (Nat × List Nat)) (lv:Nat->Option Nat):∀(xs:List V) (p:List Nat) (i:Nat),V.Sl xs=true->V.CC (V.Hn σ lv p i xs)=true
 | [],_,_,_=>rfl
 |x::xs,p,i,h=>by
  simp only[V.Sl,bg]at h;simp only[V.Hn,V.CC,bg];exact⟨V.cW σ lv x _ h.1,V.wD σ lv xs _ _ h.2⟩
end
def G.home (Γ:G) (k:Key) (σ:List (Nat × List Nat)):G:=
 {Γ with κ:=fun b=>match Γ.κ b with
   |some (.tok t,sz)=>match look σ t with
    |some p=>some (.home k p,sz)
    |none=>some (.tok t,sz)
   |x=>x}
def Jk (σ:List (Nat × List Nat)):List (Nat × Option Nat):=σ.map fun x=>(x.1,none)
def Wj (σ:List (Nat × List Nat)) (tk:List (Nat × Option Nat)) (t:Nat):look (Jk σ++tk) t=match look σ t with|some _=>some none|none=>look tk t:=by
 induction σ with
 |nil=>rfl
 |cons x σ ih=>
  obtain⟨u,p⟩:=x;simp only[Jk,ed,ji,look]at ih ⊢;split
  ·rfl
  ·exact ih
section
variable {P:Program} {Γ:G} {w w':World} {s:S}
def BI.home (Γ:G) (k:Key) (σ:List (Nat × List Nat)):BI Γ (Γ.home k σ):=⟨gu _,fun _ _ h=>h,fun t x L h=>⟨x,L,h,ca _,fun _=>rfl⟩,fun _ _ h=>h⟩
mutual
def AA.Bd (c:AO Γ w s) (k:Key) (σ:List (Nat × List Nat)):∀(x:V) {p:List Nat} {vs:List Value},AA Γ none p x vs->AA (Γ.home k σ) (some k) p (x.Bd σ s.live p) vs
 | .sl eb e cs t,p,vs,h=>by
  simp only[AA]at h;obtain⟨a,n,cap,rfl,h2,x,L,h3,h4,h5⟩:=h;simp only[V.Bd];split
  ·rename_i hc;obtain⟨hσ,hl⟩:=hc;obtain⟨x',h6,h7⟩:=c.tok t _ hl;rw[h3]at h6;cases h6;have h5:=h5 rfl;simp only[AA];refine⟨a,n,cap,k,rfl,rfl,h2,?_⟩;cases x with
   |none=>exact .inl h5
   |some y=>
    obtain⟨b,pos,sz⟩:=y;simp only at h5;obtain⟨⟨l,a1,a2⟩,a3⟩:=h7 b pos sz rfl;exact .inr ⟨b,l,sz,h5.1,a1,by rw[a2];exact h5.2.1,by simp[G.home,a3,hσ],h5.2.2⟩
  ·simp only[AA];exact h2
 | .agg τ xs,p,vs,h=>by
  simp only[AA]at h;simp only[V.Bd,AA];exact⟨h.1,h.2.1,by rw[V.wC];exact h.2.2.1,h.2.2.2.1,AZ.Bd c k σ xs h.2.2.2.2⟩
 | .ts _ _ _,_,_,h=>by
  simp only[AA]at h;obtain⟨_,_,_,_,h0,_⟩:=h;cases h0
 | .tup _,_,_,h=>by simp only[AA]at h
 | .d τ cc,_,_,h=>by simp only[V.Bd];exact(AA.BL (BI.home Γ k σ) (hm:=none) trivial _ h).DW
 | .emp _ _,_,_,h=>by simp only[V.Bd];exact(AA.BL (BI.home Γ k σ) (hm:=none) trivial _ h).DW
 | .ym,_,_,h=>by simp only[V.Bd];exact(AA.BL (BI.home Γ k σ) (hm:=none) trivial _ h).DW
 | .ptr _ _ _,_,_,h=>by simp only[V.Bd];exact(AA.BL (BI.home Γ k σ) (hm:=none) trivial _ h).DW
 | .yn _ _,_,_,h=>by simp only[V.Bd];exact(AA.BL (BI.home Γ k σ) (hm:=none) trivial _ h).DW
 | .sr _ _ _ _ _ _ _,_,_,h=>by simp only[V.Bd];exact(AA.BL (BI.home Γ k σ) (hm:=none) trivial _ h).DW
 | .mp _,_,_,h=>by simp only[V.Bd];exact(AA.BL (BI.home Γ k σ) (hm:=none) trivial _ h).DW
 | .fn _ _,_,_,h=>by simp only[V.Bd];exact(AA.BL (BI.home Γ k σ) (hm:=none) trivial _ h).DW
 | .top _,_,_,h=>by simp only[V.Bd];exact(AA.BL (BI.home Γ k σ) (hm:=none) trivial _ h).DW
 | .any,_,_,_=>by simp only[V.Bd,AA]
def AZ.Bd (c:AO Γ w s) (k:Key) (σ:List (Nat × List Nat)):∀(xs:List V) {p:List Nat} {i:Nat} {τ:Ty} {vs:List Value},AZ Γ none p i τ xs vs->AZ (Γ.home k σ) (some k) p i τ (V.Hn σ s.live p i xs) vs
 | [],_,_,_,_,_=>by simp only[V.Hn,AZ]
 |x::xs,_,_,_,_,h=>by
  simp only[AZ]at h;simp only[V.Hn,AZ,V.Rc];obtain⟨⟨o,f,h1,h2,h3,h4⟩,h5⟩:=h;exact⟨⟨o,f,h1,h2,h3,AA.Bd c k σ x h4⟩,AZ.Bd c k σ xs h5⟩
end
def AO.home (c:AO Γ w s) (k:Key) (σ:List (Nat × List Nat)):AO (Γ.home k σ) w {s with tk:=Jk σ++s.tk}/\GLe Γ (Γ.home k σ):=by
 refine⟨?_,⟨gu _,rfl,fun _ _=>rfl,fun _ _ h=>h,rfl,rfl,fun _ _ h=>h,fun _ h=>h⟩⟩;have z5G:∀t L,S.live {s with tk:=Jk σ++s.tk} t=some L->look σ t=none/\s.live t=some L:=by
  intro t L h;unfold S.live Du at h;simp only[Wj]at h;cases hs:look σ t with
  |some p=>simp[hs]at h
  |none=>rw[hs]at h;exact⟨rfl,h⟩
 refine c.change (BI.home Γ k σ) rfl rfl rfl rfl c.hH (fun _ _=>rfl) (fun b o sz h=>?_) (fun j o h=>?_) (fun _ h _=>h) c.dom c.hσ c.inj (fun t L h=>?_) (fun t h=>?_) (ca _)
 ·simp only[G.home]at h;cases hk:Γ.κ b with
  |none=>simp[hk]at h
  |some y=>
   obtain⟨o',sz'⟩:=y;have:sz'=sz:=by
    cases o' with
    |home=>simp[hk]at h;exact h.2
    |tok t=>simp only[hk]at h;split at h <;> simp at h <;> exact h.2
   subst this;obtain⟨a1,a2,arr,T,a3,a4,a5⟩:=c.hκ b o' sz' hk;refine⟨a1,a2,arr,T,a3,a4,?_⟩;cases o' with
   |home=>simp[hk]at h;rw[<-h];exact a5
   |tok t=>simp only[hk]at h;split at h <;> simp at h <;> rw[<-h] <;> trivial
 ·refine .inl ⟨h,fun hd=>⟨fun b p sz hb=>⟨by simp[G.home,hb],rfl⟩,fun b τ hb=>?_⟩⟩;obtain⟨a1,_⟩:=c.ES hb h hd;exact⟨rfl,a1⟩
 ·obtain⟨h1,h2⟩:=z5G t L h;obtain⟨x,h3,h4⟩:=c.tok t L h2;refine⟨x,h3,fun b pos sz hx=>?_⟩;obtain⟨a1,a2⟩:=h4 b pos sz hx;exact⟨a1,by simp[G.home,a2,h1]⟩
 ·have:=c.zc t h;unfold S.known at this ⊢;rw[Wj];split
  ·rfl
  ·exact this
def q9s (c:AO Γ w s) {n:Nat} (hn:s.obj (.l n)=none) {x:V} {cells:Array Value} {T:TypeId} (he:Ext w w') (hw:w'.heap[w.heap.size]? =some (.cells cells T (0,0))) (hsz:x.ty.size<=cells.size)
  (hx:AA Γ none [] x (chunk cells.toList 0 x.ty.size)) (hp:x.plain=true) (hok:x.okH=true):
  BB Γ w {s with loc:=(.l n,.box (x.Bd (x.sites s.live []) s.live []))::s.loc,tk:=Jk (x.sites s.live [])++s.tk} (.ptr (.l n) [] x.ty) (.pointer (some ⟨w.heap.size,0,none⟩)) w':=by
 obtain⟨c0,g0⟩:=c.home (.l n) (x.sites s.live []);have p0:=BI.home Γ (.l n) (x.sites s.live []);have hx':=hx.Bd c (.l n) (x.sites s.live [])
 obtain⟨h1,h2,h3⟩:=c0.Bp (k:=.l n) hn he (τ:=x.ty) (o:=.box (x.Bd (x.sites s.live []) s.live [])) fun Γ' hpr hkh hι hH hZ=>
  ⟨_,cells,T,by rw[V.Rc];exact hι,hH,hZ,hw,by rw[V.Rc];exact hsz,by rw[V.Rc];exact hx'.BL hpr hkh,by rw[V.vZ];exact hp,V.cW _ _ _ _ hok⟩
 exact⟨_,g0.trans h3,p0.trans h2,h1,Pu (τ0:=x.ty) (by simp[G.Bp,DU]) rfl⟩
def q45 (c:AO Γ w s) {o:Oper} {a:Act} {T:TypeId} {x} {n:Nat} {y:V} (ho:o.op= .box T x) (hn:s.obj (.l n)=none) (hr:AG Γ y (a.eval x)) (hpl:y.plain=true) (hok:y.okH=true):
  Au P o a w (BB Γ w {s with loc:=(.l n,.box (y.Bd (y.sites s.live []) s.live []))::s.loc,tk:=Jk (y.sites s.live [])++s.tk} (.ptr (.l n) [] y.ty)):=by
 obtain⟨h1,_⟩:=(BZ hpl).1 hr;have hlen:=h1.length hpl;have hb:=q9s c hn (T:=T) (x:=y) (cells:=(a.eval x).cells) (Ext.alloc w _) (heap_alloc_new w (.cells (a.eval x).cells T)) (by rw[<-hlen];simp) (by rw[<-hlen,MC];exact h1) hpl hok;refine Au.val (v:=.pointer (some ⟨w.heap.size,0,none⟩)) (w':=w.alloc (.cells (a.eval x).cells T)) ?_ hb;unfold execOp;simp only[ho,wa];simp[newVar,newRow]
def fT:∀{xs:List V} {i:Nat} {y:V},V.CC xs=true->y.Aw=true->V.CC (xs.set i y)=true
 | [],_,_,_,_=>rfl
 |x::xs,0,y,h,hy=>by simp[V.CC]at h ⊢;exact⟨hy,h.2⟩
 |x::xs,i+1,y,h,hy=>by simp[V.CC]at h ⊢;exact⟨h.1,fT h.2 hy⟩
def x4 (c:C):∀(j:Nat) (fs:List Ty),V.CC (Gx c j fs)=true
 |_,[]=>rfl
 |j,f::fs=>by simp[Gx,V.CC,V.Aw,x4 c (j+1) fs]
def V.q9v:∀(x:V) (i:Nat) (y:V),x.Aw=true->y.Aw=true->(x.set i y).Aw=true
 | .d τ c,i,y,_,hy=>by
  cases y <;> simp only[V.set] <;> first|rfl|(simp only[V.Aw];exact fT (x4 _ _ _) hy)
 | .agg τ vs,i,y,hx,hy=>by simp only[V.set,V.Aw];exact fT (by simpa[V.Aw]using hx) hy
 | .sl _ _ _ _,_,_,h,_=>by simp[V.Aw]at h
 | .ts _ _ _,_,_,_,_| .emp _ _,_,_,_,_| .ym,_,_,_,_| .ptr _ _ _,_,_,_,_| .yn _ _,_,_,_,_| .sr _ _ _ _ _ _ _,_,_,_,_| .mp _,_,_,_,_| .fn _ _,_,_,_,_| .tup _,_,_,_,_| .top _,_,_,_,_| .any,_,_,_,_=>by simp[V.set,V.Aw]
def x5:∀{xs:List V} {i:Nat} {x:V},V.CC xs=true->xs[i]? =some x->x.Aw=true
 | [],_,_,_,h=>by simp at h
 |y::ys,0,x,h,hx=>by simp[V.CC]at h;simp at hx;subst hx;exact h.1
 |y::ys,i+1,x,h,hx=>by simp[V.CC]at h;exact x5 h.2 (by simpa using hx)
def V.q9u {x:V} (h:x.Aw=true) (i:Nat):(x.get i).Aw=true:=by
 cases x <;> simp only[xv] <;> (try rfl)
 case agg τ vs=>
  cases hi:vs[i]? with
  |none=>simp[bp,hi,V.Aw]
  |some y=>simp[bp,hi];exact x5 (by simpa[V.Aw]using h) hi
def V.Wx:∀(q:List Nat) (x y:V),x.Aw=true->y.Aw=true->(x.setAt q y).Aw=true
 | [],_,_,_,hy=>hy
 |i::q,x,y,hx,hy=>by simp only[V.setAt];exact V.q9v x i _ hx (V.Wx q _ y (V.q9u hx i) hy)
def AO.Aw (c:AO Γ w s) {k} {x:V} {y} (hι:Γ.ι k=some y) (h:s.obj k=some (.box x)):x.Aw=true:=by
 obtain⟨_,_,_,_,_,_,_,_,_,_,h⟩:=c.own hι h;exact h
def q5j (hP:Aq P=true) (c:AO Γ w s) {o:Oper} {a:Act} {T:TypeId} {p y k} {q:List Nat} {τ:Ty} {x Y:V}
  (ho:o.op= .store T p y) (hr:AG Γ (.ptr k q τ) (a.eval p)) (hy:AG Γ Y (a.eval y)) (yr:s.obj k=some (.box x))
  (ht:τ=ty P T) (hk:τ.known=true) (hY:(Bj τ Y).ty=τ) (hYp:(Bj τ Y).plain=true) (hne:x.at q≠.any) (hd:x.ty.Ch=true) (hok:(Bj τ Y).okH=true):
  Au P o a w (BB Γ w {s with loc:=(k,.box (x.setAt q ((Bj τ Y).Bd ((Bj τ Y).sites s.live q) s.live q)))::s.loc,tk:=Jk ((Bj τ Y).sites s.live q)++s.tk} .any):=by
 obtain⟨c0,g0⟩:=c.home k ((Bj τ Y).sites s.live q);have p0:=BI.home Γ k ((Bj τ Y).sites s.live q);obtain⟨b,τ0,off,h1,h2,hpv⟩:=Gj (hr.BL p0);obtain⟨b2,cells,E,e1,e2,e3,e4,e5,e6,e7,e8⟩:=c0.own h1 yr;rw[h1]at e1;cases e1;obtain⟨g1,g2,_⟩:=e6.at_ h2 hne e7;have hcl:(chunk cells.toList 0 x.ty.size).length=x.ty.size:=Dm _ _ _ (by simpa using e5);rw[hcl]at g2;have hy':=ZN (τ:=τ) hy;obtain⟨q1,q2⟩:=(BZ hYp).1 hy';have hlen:=q1.length hYp;rw[hY]at hlen;have q3:=(q1.DW (hm:=none) (p':=q)).Bd c k ((Bj τ Y).sites s.live q);obtain⟨r1,r2,r3⟩:=AA.setAt (q:=q) (p:=[]) (y:=(Bj τ Y).Bd ((Bj τ Y).sites s.live q) s.live q) e6 e7 hd (by rw[V.Rc,hY];exact h2) hne q3 (by rw[V.vZ];exact hYp);have zi:=z3D (w:=w) (T:=T) (τ:=τ) (v:=a.eval y) (off:=off) hP ht.symm hk e4 (by omega) hlen (q1.one hYp);have hlc:off+(a.eval y).cells.toList.length<=cells.toList.length:=by rw[hlen];simp;omega
 have hs2:(BN cells.toList off (a.eval y).cells.toList).toArray.size=cells.size:=by simp only[iu,IE hlc];simp
 have c':=c0.write (x':=x.setAt q ((Bj τ Y).Bd ((Bj τ Y).sites s.live q) s.live q)) (yt:=(BN cells.toList off (a.eval y).cells.toList).toArray) (w':=w.setRow b (BN cells.toList off (a.eval y).cells.toList).toArray) yr h1
  (setRow_heap w b cells _ E (0,0) e4) (fun b' hb'=>setRow_other w b b' _ hb') rfl (by rw[r2,hs2];exact e5)
  (by rw[r2,mn,q1L _ _ (by rw[hlen];exact g2) (by simpa using e5)];exact r1) r2 r3 (V.Wx q x _ (c0.Aw h1 yr) (V.cW _ _ _ _ hok)) (fun arr T fr h=>by rw[e4]at h;cases h;exact hs2)
 refine Au.skip (w':=w.setRow b (BN cells.toList off (a.eval y).cells.toList).toArray) ?_ ⟨_,g0,p0,c',by simp[AG]⟩;unfold execOp;simp[ho,Instr.storeAt,hpv,jx,zi]
def V.LH:V->Bool
 | .ts _ _ _=>false
 |_=>true
mutual
def AA.TB {Γ Γ':G} (hp:BI Γ Γ') {k} {q:List Nat} (hk:∀b p sz,Γ.κ b=some (.home k p,sz)->p≠q->Γ'.κ b=Γ.κ b/\Γ'.H b=Γ.H b):
  ∀(x:V) {p:List Nat} {vs:List Value},(∀r,p++r=q->(x.at r).LH=true)->AA Γ (some k) p x vs->AA Γ' (some k) p x vs
 | .ts eb e cs,p,_,hn,h=>by
  simp only[AA]at h ⊢;obtain⟨a,n,cap,k',h0,h1,h2,h3⟩:=h;cases h0;refine⟨a,n,cap,k,rfl,h1,h2.mono hp.H,?_⟩;have hpq:p≠q:=by
   intro e;have:=hn [] (by simpa using e);simp[V.at,V.LH]at this
  rcases h3 with h3|⟨b,l,sz,a1,a2,a3,a4,a5⟩
  ·exact .inl h3
  ·obtain⟨e1,e2⟩:=hk b p sz a4 (fun e=>hpq (by injection e));exact .inr ⟨b,l,sz,a1,by rw[e2,a2],a3,by rw[e1,a4],a5⟩
 | .agg τ xs,p,vs,hn,h=>by
  simp only[AA]at h ⊢;refine⟨h.1,h.2.1,h.2.2.1,h.2.2.2.1,AZ.TB hp hk xs (fun i r hr=>?_) h.2.2.2.2⟩;have:=hn (i::r) (by simpa using hr);simp only[V.at,xv]at this;simpa using this
 | .d _ _,_,_,_,h=>by simp only[AA]at h ⊢;exact h.mono hp.H
 | .sl eb e cs t,_,_,_,h=>by
  simp only[AA]at h ⊢;obtain⟨a,n,cap,h1,h2,h3⟩:=h;exact⟨a,n,cap,h1,h2.mono hp.H,h3.BL hp⟩
 | .emp _ _,_,_,_,h=>by simpa only[AA]using h
 | .ym,_,_,_,h=>by simpa only[AA]using h
 | .ptr k q τ,_,_,_,h=>by
  simp only[AA]at h ⊢;obtain⟨b,τ0,o,h1,h2⟩:=h;exact⟨b,τ0,o,hp.ι _ _ h1,h2⟩
 | .yn τ c,_,_,_,h=>by
  simp only[AA]at h ⊢;obtain⟨b,off,l,h1,h2,h3,h4⟩:=h;obtain⟨l',a1,a2,a3⟩:=aE hp.H h2 h3 h4;exact⟨b,off,l',h1,a1,a2,a3⟩
 | .sr _ _ _ _ _ _ _,_,_,_,h=>by
  simp only[AA]at h ⊢;rcases h with h|⟨b,τ0,o,m,cap,h1,h2,h3,h4,h5,h6,h7,h8,h9⟩
  ·exact .inl h
  exact .inr ⟨b,τ0,o,m,cap,hp.ι _ _ h1,h2,h3,h4,h5,h6,h7,h8,fun e=>(h9 e).imp id fun⟨sz,a1,a2⟩=>⟨sz,hp.σ _ _ a1,a2⟩⟩
 | .mp _,_,_,_,h=>by
  simp only[AA]at h ⊢;obtain⟨b,h1,h2⟩:=h;exact⟨b,hp.ι _ _ h1,h2⟩
 | .fn f yp,_,_,_,h=>by
  simp only[AA]at h ⊢;obtain⟨cv,h1,h2⟩:=h;exact⟨cv,h1,BC.BL hp yp h2⟩
 | .tup _,_,_,_,h=>by simp only[AA]at h
 | .top _,_,_,_,h=>by simpa only[AA]using h
 | .any,_,_,_,_=>by simp only[AA]
def AZ.TB {Γ Γ':G} (hp:BI Γ Γ') {k} {q:List Nat} (hk:∀b p sz,Γ.κ b=some (.home k p,sz)->p≠q->Γ'.κ b=Γ.κ b/\Γ'.H b=Γ.H b):
  ∀(xs:List V) {p:List Nat} {i:Nat} {τ:Ty} {vs:List Value},(∀j r,p++[i+j]++r=q->((xs.getD j .any).at r).LH=true)->AZ Γ (some k) p i τ xs vs->AZ Γ' (some k) p i τ xs vs
 | [],_,_,_,_,_,_=>by simp only[AZ]
 |x::xs,p,i,τ,vs,hn,h=>by
  simp only[AZ]at h ⊢;obtain⟨⟨o,f,h1,h2,h3,h4⟩,h5⟩:=h;refine⟨⟨o,f,h1,h2,h3,AA.TB hp hk x (fun r hr=>?_) h4⟩,AZ.TB hp hk xs (fun j r hr=>?_) h5⟩
  ·have:=hn 0 r (by simpa using hr);simpa using this
  ·have:=hn (j+1) r (by rw[show i+(j+1)=i+1+j by omega];exact hr);simpa using this
end
def V.pF:∀(q:List Nat) (x:V) {τ:Ty} {c:C},(∃eb e cs,x.at q= .ts eb e cs)->(x.setAt q (.d τ c)).at q= .d τ c
 | [],_,_,_,_=>rfl
 |i::q,x,τ,c,hx=>by
  obtain⟨eb,e,cs,hx⟩:=hx;simp only[V.at]at hx;have ih:=V.pF q (x.get i) (τ:=τ) (c:=c) ⟨eb,e,cs,hx⟩;cases x <;> (try (simp only[xv,V.QX]at hx;cases hx;done))
  case d τ' c'=>
   exfalso;have:∀(q:List Nat) (τ:Ty) (c:C),∃τ' c',(V.d τ c).at q= .d τ' c':=by
    intro q
    induction q with
    |nil=>intro τ c;exact⟨τ,c,rfl⟩
    |cons j q ih=>intro τ c;simp only[V.at,xv];exact ih _ _
   obtain⟨_,_,h⟩:=this q (τ'.get i) (c'.get i);simp only[xv]at hx;rw[h]at hx;cases hx
  case agg τ' vs=>
   have hlt:i<vs.length:=by
    rcases kn i vs.length with h|h
    ·exact h
    ·simp[xv,bp,gd h,V.QX]at hx
   simp only[V.setAt,V.set,V.at];have:(V.agg τ' (vs.set i ((V.agg τ' vs).get i |>.setAt q (.d τ c)))).get i=((V.agg τ' vs).get i).setAt q (.d τ c):=by simp[xv,bp,hlt]
   rw[this];exact ih
def AO.take (c:AO Γ w s) {k} {q:List Nat} {x:V} {eb:Nat} {e cs} {t b:Nat} {τ0:Ty} {o0:Nat} (ho:s.obj k=some (.box x)) (hx:x.at q= .ts eb e cs) (hd:x.ty.Ch=true) (ht:s.known t=false)
  (hι:Γ.ι k=some (b,τ0)) (hw:τ0.walk q=some (o0,.slice eb e)) {a:Option Addr} {n cap:Nat} (z5w:w.cell? ⟨b,o0,none⟩=some (.slice a n cap)):
  ∃Γ',GLe Γ Γ'/\BI Γ Γ'/\AO Γ' w {s with loc:=(k,.box (x.setAt q (.d (.slice eb e) (.slice cs))))::s.loc,tk:=(t,some cs.length)::s.tk}/\AG Γ' (.sl eb e cs t) (.slice a n cap):=by
 obtain⟨b2,cells,E,e1,e2,e3,e4,e5,e6,e7,e8⟩:=c.own hι ho;rw[hι]at e1;cases e1;obtain⟨g1,g2,g3⟩:=e6.at_ hw (by rw[hx];simp) e7;have hcl:(chunk cells.toList 0 x.ty.size).length=x.ty.size:=Dm _ _ _ (by simpa using e5);rw[hcl]at g2;simp only[iy]at g2 g3;have hch:chunk (chunk cells.toList 0 x.ty.size) o0 1=chunk cells.toList o0 1:=by rw[Dy _ _ _ _ _ (by omega),cq]
 have hce:chunk cells.toList o0 1=[.slice a n cap]:=by
  apply fl;intro j;rw[DY];by_cases hj:j<1
  ·have:j=0:=by omega
   subst this;simp[nu,e4]at z5w;simpa using z5w
  ·simp[hj]
 rw[hch,hce,hx]at g3;simp only[AA]at g3;obtain⟨a',n',z5P,k',hk',hv,hrc,z6s⟩:=g3;simp at hk' hv;subst hk';obtain⟨rfl,rfl,rfl⟩:=hv;have z7i:BN (chunk cells.toList 0 x.ty.size) o0 [.slice a n cap]=chunk cells.toList 0 x.ty.size:=by
  apply fl;intro j;rw[Fo (by simp;omega)];split
  ·rename_i hj;simp at hj;have:j=o0:=by omega
   subst this;have h0:(chunk (chunk cells.toList 0 x.ty.size) j 1)[0]? =some (.slice a n cap):=by rw[hch,hce];rfl
   rw[DY]at h0;simp at h0 ⊢;exact h0.symm
  ·rfl
 have hw':x.ty.walk q=some (o0,(V.d (.slice eb e) (.slice cs)).ty):=hw;obtain⟨r1,r2,r3⟩:=AA.setAt (p:=[]) (ws:=[.slice a n cap]) (y:=.d (.slice eb e) (.slice cs)) e6 e7 hd hw' (by rw[hx];simp) (by simpa only[AA]using hrc) rfl;rw[z7i]at r1;have hns:(x.setAt q (.d (.slice eb e) (.slice cs))).Aw=true:=V.Wx q x _ e8 rfl
 -- the object as it is then, first under the old ghost
 have c1:AO Γ w {s with loc:=(k,.box (x.setAt q (.d (.slice eb e) (.slice cs))))::s.loc}:=
  c.write ho hι e4 (fun _ _=>rfl) rfl (by rw[r2];exact e5) (by rw[r2];exact r1) r2 r3 hns (fun arr T fr h=>by rw[e4]at h;cases h;rfl)
 obtain⟨_,n1,z7D,f1,_,f2,f3,f4,f5,f6⟩:=Im hrc;simp at f1;obtain⟨rfl,rfl,rfl⟩:=f1;simp only[au]at f2;rcases z6s with z6s|⟨b1,l,sz,rfl,h1,h2,h3,h4⟩
 ·obtain⟨c2,p2,g2'⟩:=c1.DA (t:=t) (x:=none) (L:=cs.length) ht (fun _ _ _ h=>by cases h);refine⟨_,g2',p2,c2,(Bf rfl rfl).2 ⟨?_,rfl⟩⟩;simp only[AA];exact⟨a,n,cap,rfl,hrc,none,cs.length,Cb _ _ _,ca _,fun _=>z6s⟩
 ·have hτ:Γ.τ t=none:=c.q2T ht;obtain⟨z1,z2,arr,T,z3,z4,_⟩:=c.hκ b1 _ _ h3
  have hp:BI Γ {Γ with τ:=BR Γ.τ t (some (b1,l.length,sz),cs.length),κ:=BR Γ.κ b1 (.tok t,sz)}:=
   ⟨gu _,fun _ _ h=>h,fun u y M h=>by
    have:u≠t:=by intro e;subst e;rw[hτ]at h;cases h
    exact⟨y,M,(Ea _ _ this).trans h,ca _,fun _=>rfl⟩,fun _ _ h=>h⟩
  have hne:∀b' o',Γ.κ b'=some o'->b'≠b1->BR Γ.κ b1 (.tok t,sz) b'=some o':=fun b' o' h hb=>(Ea _ _ hb).trans h;refine⟨{Γ with τ:=BR Γ.τ t (some (b1,l.length,sz),cs.length),κ:=BR Γ.κ b1 (.tok t,sz)},⟨gu _,rfl,fun _ _=>rfl,fun _ _ h=>h,rfl,rfl,fun _ _ h=>h,fun _ h=>h⟩,hp,?_,(Bf rfl rfl).2 ⟨?_,rfl⟩⟩
  ·refine c1.change hp rfl rfl rfl rfl c.hH (fun _ _=>rfl) (fun b' o' sz' h=>?_) (fun j o' h=>?_) (fun _ h _=>h) c1.dom c.hσ c1.inj (fun u M h=>?_) (fun u h=>?_) (ca _)
   ·by_cases e:b'=b1
    ·subst e;have h':sz=sz':=by have:=h;simp[BR]at this;exact this.2
     subst h';exact⟨z1,z2,arr,T,z3,z4,by have:=h;simp[BR]at this;rw[<-this];trivial⟩
    ·exact c.hκ b' o' sz' ((Ea _ _ e).symm.trans h)
   ·have h':S.obj {s with loc:=(k,.box (x.setAt q (.d (.slice eb e) (.slice cs))))::s.loc} j=some o':=h;by_cases hj:k=j
    ·subst hj;rw[CU,if_pos rfl]at h';cases h';refine .inr ⟨b,cells,E,by rw[r2];exact hι,e2,e3,e4,by rw[r2];exact e5,?_,r3,hns⟩;rw[r2];refine AA.TB (q:=q) hp (fun b' p sz' hb hpq=>?_) _ (fun r hr=>?_) r1
     ·have:b'≠b1:=by intro e;subst e;rw[h3]at hb;simp at hb;exact hpq hb.1.symm
      exact⟨(hne b' _ hb this).trans hb.symm,rfl⟩
     ·rw[fz]at hr;subst hr;have:(x.setAt r (.d (.slice eb e) (.slice cs))).at r= .d (.slice eb e) (.slice cs):=V.pF r x ⟨_,_,_,hx⟩;rw[this];rfl
    ·refine .inl ⟨h',fun hd=>⟨fun b' p sz' hb=>?_,fun b' τ hb=>?_⟩⟩
     ·have:b'≠b1:=by intro e;subst e;rw[h3]at hb;simp at hb;exact hj hb.1.1
      exact⟨(hne b' _ hb this).trans hb.symm,rfl⟩
     ·obtain⟨a1,_⟩:=c1.ES hb h' hd;exact⟨rfl,a1⟩
   ·have h9:(if t=u then some cs.length else s.live u)=some M:=(MW {s with loc:=(k,.box (x.setAt q (.d (.slice eb e) (.slice cs))))::s.loc} t u (some cs.length)).symm.trans h;clear h;split at h9
    ·rename_i e;subst e;cases h9;refine⟨_,Cb _ _ _,fun b' pos sz' e=>?_⟩;cases e;exact⟨⟨l,h1,rfl⟩,Cb _ _ _⟩
    ·rename_i e;have e':u≠t:=fun h'=>e h'.symm;obtain⟨y,a1,a2⟩:=c.tok u M h9;refine⟨y,(Ea _ _ e').trans a1,fun b' pos sz' hy=>?_⟩;obtain⟨a3,a4⟩:=a2 b' pos sz' hy;exact⟨a3,hne b' _ a4 (fun e=>by subst e;rw[h3]at a4;cases a4)⟩
   ·refine(MU {s with loc:=(k,.box (x.setAt q (.d (.slice eb e) (.slice cs))))::s.loc} t u (some cs.length)).trans ?_;by_cases e:t=u
    ·simp[e]
    ·have e':u≠t:=fun h'=>e h'.symm;simp only[e,decide_false,jt];refine c.zc u ?_;simpa[BR,e']using h
  ·simp only[AA];exact⟨_,n,cap,rfl,hrc,_,_,Cb _ _ _,ca _,fun _=>⟨rfl,h2,h4⟩⟩
end
end
end Go.E
