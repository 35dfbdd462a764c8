/-
 A framework for runs of Go code over abstract data: what it needs, and that it is sound, part 2.
 Conditions: none.
-/
import Derived.Test.YtpemdagggddcfaaGreatDoorEa
import Derived.Deep.AppendSrc
import Derived.Deep.Upon
import Derived.Great.FillDense
import Derived.Great.BuildSlice
set_option linter.all false
set_option maxRecDepth 100000
set_option maxHeartbeats 4000000
open Array renaming eq_empty_of_size_eq_zero->ib,getElem?_eq_getElem->ee,getElem?_modify->rz,length_toList->im,map->ue,range->ik,size_append->ti,toList_map->lz,toList_setIfInBounds->kq
open Bool renaming and_eq_true->bz,false_or->ju
open Go.Builtin renaming append_->mg,firstCells->gf,zeroCells->fl
open Go.E.C renaming elems->bq
open Go.E.Hp renaming le_refl->ij
open Go.E.Ty renaming child->jk,isAgg->jb,size->ig,walk->ud
open Go.Instr renaming alloc->vt,buildSlice->tr,fill->ou,loadAt->kr,makeSlice->qg,sureAddr->lq
open Go.IntWalk renaming i64_in->je
open Go.Program renaming built->uj,bytesOf->pk,cellsOf->iw
open Go.Result renaming andThen_ok->de
open Go.Sem renaming run_bind->dh,run_pure->fb
open Go.Src renaming ofNil->tc,ofSlice->oe
open Go.Tables renaming info?->sq
open Go.Value renaming cells->fc
open Go.World renaming cell?->lj,frozen?->vl,setCell->vm
open List renaming all_eq_true->eh,append_assoc->jh,append_nil->ur,drop_append->po,drop_eq_nil_of_le->jt,drop_zero->mb,eq_nil_of_length_eq_zero->gm,ext_getElem?->fg,flatMap_cons->tz,getElem?_append_left->ga,getElem?_append_right->ia,getElem?_cons_succ->fu,getElem?_drop->iz,getElem?_eq_getElem->cq,getElem?_eq_none->gp,getElem?_eq_some_iff->cm,getElem?_map->dx,getElem?_range->iq,getElem?_replicate->mc,getElem?_set->jv,getElem?_take->fh,length->bn,length_append->da,length_cons->dq,length_take->kn,mapM_cons->sk,map_cons->ep,mem_iff_getElem?->mw,mem_of_getElem?->fk,nil_append->jm,range->gq,replicate->db,size_toArray->iu,take_append_of_le_length->py,take_zero->vf
open Nat renaming add_mul->dr,eq_zero_or_pos->ng,le_mul_of_pos_right->se,le_refl->cn,le_trans->oh,lt_irrefl->ow,lt_or_ge->ko,mul_le_mul_right->cr,mul_ne_zero->vh,pos_of_ne_zero->ua,zero_add->cf,zero_le->ed,zero_mul->gz
open Option.some renaming injEq->eu
open Prod.mk renaming injEq->gb
namespace Go.E
open Go
section
mutual
def Ty.q4B:Ty->Bool
 | .slice _ _=>false| .struct _ _ fs=>Ty.Zy fs| .opq _=>false|_=>true
def Ty.Zy:List Ty->Bool
 | []=>true|f::fs=>f.q4B&&Ty.Zy fs
end
mutual
def AL:Ty->C
 | .int _=>.int 0| .bool=>.bool false| .str=>.str []| .slice _ _=>.slice []| .arr n e=>.agg (db n (AL e))| .struct _ _ fs=>.agg (PM fs)|_=>.nil
def PM:List Ty->List C
 | []=>[]|f::fs=>AL f::PM fs
end
mutual
def Ai:Ty->V
 | .slice eb e=>.emp eb e| .struct sz os fs=>if Ty.Zy fs then .d (.struct sz os fs) (.agg (PM fs))else .agg (.struct sz os fs) (KK fs)|τ=>.d τ (AL τ)
def KK:List Ty->List V
 | []=>[]|f::fs=>Ai f::KK fs
end
def Mj:Ty->Value->Bool
 | .int k,.int k' n=>k==k'&&n==0| .bool,.bool b=> !b| .str,.string s=>s.data.toList.isEmpty| .slice _ _,.slice a n c=>a.isNone&&n==0&&c==0| .ptr,.pointer a=>a.isNone| .map,.map r=>r.isNone| .func,.nilFunc=>true| .iface,.nilIface=>true|_,_=>false
mutual
def Dw:Ty->List Value->Bool
 | .arr n e,vs=>vs.length==n*e.size&&vs.all (·.oneCell')&&(gq n).all fun i=>Dw e (chunk vs (i*e.size) e.size)| .struct sz os fs,vs=>vs.length==sz&&vs.all (·.oneCell')&&Ik fs os vs|τ,vs=>match vs with| [v]=>Mj τ v|_=>false
def Ik:List Ty->List Nat->List Value->Bool
 | [],_,_=>true|f::fs,o::os,vs=>decide (o+f.size<=vs.length)&&Dw f (chunk vs o f.size)&&Ik fs os vs|_::_,[],_=>false
end
def CE (P:Program) (T:TypeId):Bool:=
 match(P.info? T).bind (·.zero)with
 |some z=>Dw (ty P T) z.cells.toList&&Ba z==(ty P T).isAgg&&Dw (tyF P 11 T) z.cells.toList|none=>false
theorem nU (k:IntKind):k.min<=0/\0<=k.max:=by cases k <;> decide
theorem q8x {H:Hp} {τ:Ty} {v:Value} (h:Mj τ v=true):AH H τ [v] (AL τ):=by
 unfold Mj at h;split at h <;> simp at h <;> simp only[AH,AL];{obtain⟨rfl,rfl⟩:=h;exact⟨0,rfl,rfl,(nU _).1,(nU _).2⟩};{subst h;exact⟨false,rfl,rfl⟩}
 ·rename_i s;refine⟨[],rfl,?_,by simp⟩;have:s=⟨#[]⟩:=by apply ByteArray.ext;simpa using h
  rw[this]
 ·obtain⟨⟨h1,rfl⟩,rfl⟩:=h;exact⟨_,0,0,[],rfl,rfl,rfl,cn _,by decide,by simp,.inl rfl⟩
 ·subst h;simp
 ·subst h;simp
 ·simp
 ·simp
mutual
theorem GY {H:Hp}:∀{τ:Ty} {vs:List Value},Dw τ vs=true->AH H τ vs (AL τ)
 | .arr n e,vs,h=>by simp only[Dw,bz,beq_iff_eq,eh,List.mem_range]at h;simp only[AH,AL];refine⟨_,rfl,by simp,h.1.1,h.1.2,fun i c hi=>?_⟩;simp only[mc]at hi;split at hi;{cases hi;exact GY (h.2 i ‹_›)};{cases hi}
 | .struct sz os fs,vs,h=>by simp only[Dw,bz,beq_iff_eq,eh]at h;simp only[AH,AL];exact⟨_,rfl,h.1.1,h.1.2,zH h.2⟩
 | .int _,[v],h| .bool,[v],h| .str,[v],h| .slice _ _,[v],h| .ptr,[v],h| .map,[v],h| .func,[v],h| .iface,[v],h=>by simp only[Dw]at h;exact q8x h
 | .opq _,[v],h=>by simp[Dw,Mj]at h
 | .int _,[],h| .bool,[],h| .str,[],h| .slice _ _,[],h| .ptr,[],h| .map,[],h| .func,[],h| .iface,[],h| .opq _,[],h=>by simp[Dw]at h
 | .int _,_::_::_,h| .bool,_::_::_,h| .str,_::_::_,h| .slice _ _,_::_::_,h| .ptr,_::_::_,h| .map,_::_::_,h| .func,_::_::_,h| .iface,_::_::_,h| .opq _,_::_::_,h=>by simp[Dw]at h
theorem zH {H:Hp}:∀{fs:List Ty} {os:List Nat} {vs:List Value},Ik fs os vs=true->Bj H fs os vs (PM fs)
 | [],_,_,_=>by simp[Bj,PM]
 |f::fs,o::os,vs,h=>by simp only[Ik,bz,decide_eq_true_eq]at h;simp only[Bj,PM];exact⟨_,_,rfl,h.1.1,GY h.1.2,zH h.2⟩
 |_::_,[],_,h=>by simp[Ik]at h
end
theorem Ml:∀(τ:Ty),(Ai τ).ty=τ
 | .struct sz os fs=>by simp only[Ai];split <;> simp[V.ty]
 | .slice _ _=>by simp[Ai,V.ty]
 | .int _| .bool| .str| .ptr| .map| .func| .iface| .opq _| .arr _ _=>by simp[Ai,V.ty]
theorem zJ:∀(fs:List Ty),(KK fs).length=fs.length
 | []=>rfl|f::fs=>by simp[KK,zJ fs]
theorem zG:∀{fs:List Ty} {os:List Nat} {vs:List Value} {i:Nat} {f:Ty},Ik fs os vs=true->fs[i]? =some f->∃o,os[i]? =some o/\o+f.size<=vs.length/\Dw f (chunk vs o f.size)=true
 | [],_,_,_,_,_,h=>by simp at h
 |f::fs,o::os,vs,0,g,h,hg=>by simp only[Ik,bz,decide_eq_true_eq]at h;simp at hg;subst hg;exact⟨o,rfl,h.1.1,h.1.2⟩
 |f::fs,o::os,vs,i+1,g,h,hg=>by simp only[Ik,bz,decide_eq_true_eq]at h;obtain⟨o',a,b,c⟩:=zG h.2 (show fs[i]? =some g by simpa using hg);exact⟨o',by simpa using a,b,c⟩
 |_::_,[],_,_,_,h,_=>by simp[Ik]at h
theorem WR (τ:Ty):(Ai τ).plain=true:=by cases τ <;> simp only[Ai] <;> (try split) <;> rfl
mutual
theorem zI:∀(τ:Ty),(Ai τ).BJ=true
 | .struct sz os fs=>by simp only[Ai];split <;> simp[V.BJ,zK fs]
 | .slice _ _=>by simp[Ai,V.BJ]
 | .int _| .bool| .str| .ptr| .map| .func| .iface| .opq _| .arr _ _=>by simp[Ai,V.BJ]
theorem zK:∀(fs:List Ty),V.Cf (KK fs)=true
 | []=>rfl|f::fs=>by simp[KK,V.Cf,zI f,zK fs]
end
section
variable {Γ:G} {hm:Option Key}
mutual
theorem WS:∀(τ:Ty) {p:List Nat} {vs:List Value},Dw τ vs=true->AA Γ hm p (Ai τ) vs
 | .struct sz os fs,p,vs,h=>by simp only[Ai];split;{simp only[AA];exact GY (τ:=.struct sz os fs) h};{simp only[Dw,bz,beq_iff_eq,eh]at h;simp only[AA];exact⟨h.1.1,h.1.2,by simp[Ty.kids,zJ],rfl,zL fs sz os fs 0 (fun i f hf=>by simpa using hf) h.2⟩}
 | .slice eb e,p,vs,h=>by
  match vs,h with
  | [v],h=>
   simp only[Dw]at h;cases v <;> simp[Mj]at h;obtain⟨⟨rfl,rfl⟩,rfl⟩:=h;simp only[Ai,AA];exact⟨none,rfl⟩
  | [],h=>simp[Dw]at h|_::_::_,h=>simp[Dw]at h
 | .int k,p,vs,h=>by simp only[Ai,AA];exact GY h
 | .bool,p,vs,h=>by simp only[Ai,AA];exact GY h
 | .str,p,vs,h=>by simp only[Ai,AA];exact GY h
 | .ptr,p,vs,h=>by simp only[Ai,AA];exact GY h
 | .map,p,vs,h=>by simp only[Ai,AA];exact GY h
 | .func,p,vs,h=>by simp only[Ai,AA];exact GY h
 | .iface,p,vs,h=>by simp only[Ai,AA];exact GY h
 | .opq s,p,vs,h=>by simp only[Ai,AA];exact GY h
 | .arr n e,p,vs,h=>by simp only[Ai,AA];exact GY h
theorem zL:∀(gs:List Ty) (sz:Nat) (os:List Nat) (fs:List Ty) (i:Nat) {p:List Nat} {vs:List Value},(∀(j:Nat) (f:Ty),gs[j]? =some f->fs[i+j]? =some f)->Ik fs os vs=true->
  AU Γ hm p i (.struct sz os fs) (KK gs) vs
 | [],_,_,_,_,_,_,_,_=>by simp[KK,AU]
 |f::gs,sz,os,fs,i,p,vs,hg,h=>by have hf:=hg 0 f rfl;obtain⟨o,a,b,c⟩:=zG h hf;simp only[KK,AU,Ml];refine⟨⟨o,f,by simp[jk,show os[i]? =some o by simpa using a,show fs[i]? =some f by simpa using hf],rfl,b,WS f c⟩,zL gs sz os fs (i+1) (fun j g hj=>?_) h⟩;rw[show i+1+j=i+(j+1) by omega];exact hg (j+1) g (by simpa using hj)
end
end
theorem wI {P:Program} {T:TypeId} (h:CE P T=true):∃z,(∀w,(zeroValue T).run P w= .ok z w)/\Dw (ty P T) z.cells.toList=true/\Ba z=(ty P T).isAgg:=by
 unfold CE at h;cases hi:P.info? T with
 |none=>simp[hi]at h|some i=>
  cases hz:i.zero with
  |none=>simp[hi,hz]at h|some z=>
   simp[hi,hz]at h;exact⟨z,fun w=>by simp[zeroValue,typeInfo,hi,hz],h.1.1,h.1.2⟩
mutual
def view:V->V
 | .ts eb e cs=>.d (.slice eb e) (.slice cs)| .agg τ vs=>.agg τ (views vs)|x=>x
def views:List V->List V
 | []=>[]|x::xs=>view x::views xs
end
theorem yU:∀xs:List V,(views xs).length=xs.length
 | []=>rfl|x::xs=>by simp[views,yU xs]
theorem yS (x:V):(view x).ty=x.ty:=by cases x <;> simp[view,V.ty]
theorem q8m (x:V):(view x).plain=x.plain:=by cases x <;> simp[view,V.plain]
section
variable {Γ:G} {hm:Option Key}
mutual
theorem yR:∀(x:V) {p p':List Nat} {vs:List Value},AA Γ hm p x vs->AA Γ none p' (view x) vs
 | .ts eb e cs,_,_,_,h=>by simp only[AA,view]at h ⊢;obtain⟨a,n,cap,k,_,rfl,h2,_⟩:=h;exact h2
 | .agg τ xs,_,_,_,h=>by simp only[AA,view]at h ⊢;exact⟨h.1,h.2.1,by rw[yU];exact h.2.2.1,h.2.2.2.1,yV xs h.2.2.2.2⟩
 | .d _ _,_,_,_,h| .sl _ _ _ _,_,_,_,h| .emp _ _,_,_,_,h| .wk,_,_,_,h| .ptr _ _ _,_,_,_,h| .wm _ _,_,_,_,h| .sr _ _ _ _ _ _ _,_,_,_,h| .mp _,_,_,_,h| .fn _ _,_,_,_,h| .top _,_,_,_,h=>by simpa only[AA,view]using h
 | .any,_,_,_,h=>by simp only[AA,view]
 | .tup _,_,_,_,h=>by simp only[AA]at h
theorem yV:∀(xs:List V) {p p':List Nat} {i:Nat} {τ:Ty} {vs:List Value},AU Γ hm p i τ xs vs->AU Γ none p' i τ (views xs) vs
 | [],_,_,_,_,_,_=>by simp only[views,AU]
 |x::xs,_,_,_,_,_,h=>by simp only[AU,views,yS]at h ⊢;obtain⟨⟨o,f,h1,h2,h3,h4⟩,h5⟩:=h;exact⟨⟨o,f,h1,h2,h3,yR x h4⟩,yV xs h5⟩
end
end
mutual
def CF:V->Option C
 | .d _ c=>some c| .emp _ _=>some (.slice [])| .sl _ _ cs _=>some (.slice cs)| .ts _ _ cs=>some (.slice cs)| .agg _ vs=>(ED vs).map .agg|_=>none
def ED:List V->Option (List C)
 | []=>some []|x::xs=>match CF x,ED xs with|some c,some cs=>some (c::cs)|_,_=>none
end
theorem XK:∀{xs:List V} {cs:List C},ED xs=some cs->cs.length=xs.length/\∀(i:Nat) (x:V) (c:C),xs[i]? =some x->cs[i]? =some c->CF x=some c
 | [],cs,h=>by simp[ED]at h;subst h;simp
 |x::xs,cs,h=>by
  simp only[ED]at h;cases h1:CF x with
  |none=>simp[h1]at h|some c=>
   cases h2:ED xs with
   |none=>simp[h1,h2]at h|some cs'=>
    simp[h1,h2]at h;subst h;obtain⟨a,b⟩:=XK h2;refine⟨by simp[a],fun i y d hy hd=>?_⟩;cases i with
    |zero=>simp at hy hd;subst hy;subst hd;exact h1|succ i=>exact b i y d (by simpa using hy) (by simpa using hd)
section
variable {Γ:G} {hm:Option Key}
mutual
theorem KU:∀(x:V) {p:List Nat} {vs:List Value} {c:C},AA Γ hm p x vs->CF x=some c->AH Γ.H x.ty vs c
 | .d τ c,_,_,_,h,hc=>by simp[CF]at hc;subst hc;simpa only[AA,V.ty]using h
 | .emp eb e,_,_,_,h,hc=>by simp[CF]at hc;subst hc;simp only[AA]at h;obtain⟨a,rfl⟩:=h;exact Dv rfl (cn _) (ed _) (by rw[gz];exact ed _) (.inl rfl)
 | .sl eb e cs t,_,_,_,h,hc=>by simp[CF]at hc;subst hc;simp only[AA]at h;obtain⟨a,n,cap,rfl,h2,_⟩:=h;exact h2
 | .ts eb e cs,_,_,_,h,hc=>by simp[CF]at hc;subst hc;simp only[AA]at h;obtain⟨a,n,cap,k,_,rfl,h2,_⟩:=h;exact h2
 | .agg τ xs,_,vs,_,h,hc=>by
  simp only[CF]at hc;cases h1:ED xs with
  |none=>simp[h1]at hc|some cs=>
   simp[h1]at hc;subst hc;simp only[AA]at h;obtain⟨a1,a2,a3,a4,a5⟩:=h;obtain⟨b1,b2⟩:=XK h1;have kid:=iE xs a5 h1;simp only[V.ty];cases τ <;> simp[jb]at a4
   case arr n e=>
    simp only[AH];refine⟨cs,rfl,by rw[b1,a3];rfl,by simpa[ig]using a1,a2,fun i c hi=>?_⟩;obtain⟨o,f,k1,_,k3⟩:=kid i c hi;simp only[cf,jk]at k1;split at k1;{simp at k1;obtain⟨rfl,rfl⟩:=k1;exact k3};{cases k1}
   case struct sz os fs=>
    simp only[AH];refine⟨cs,rfl,by simpa[ig]using a1,a2,Bj.Kx (by rw[b1,a3];rfl) fun i f c hf hi=>?_⟩;obtain⟨o,f',k1,k2,k3⟩:=kid i c hi;simp only[cf,jk]at k1;cases ho:os[i]? with
    |none=>simp[ho]at k1|some o'=>simp[ho,hf]at k1;obtain⟨rfl,rfl⟩:=k1;exact⟨o',rfl,k2,k3⟩
 | .wk,_,_,_,_,hc| .ptr _ _ _,_,_,_,_,hc| .wm _ _,_,_,_,_,hc| .sr _ _ _ _ _ _ _,_,_,_,_,hc| .mp _,_,_,_,_,hc| .fn _ _,_,_,_,_,hc| .top _,_,_,_,_,hc| .any,_,_,_,_,hc| .tup _,_,_,_,_,hc=>by simp[CF]at hc
theorem iE:∀(xs:List V) {p:List Nat} {i0:Nat} {τ:Ty} {vs:List Value} {cs:List C},AU Γ hm p i0 τ xs vs->ED xs=some cs->
  ∀(i:Nat) (c:C),cs[i]? =some c->∃o f,τ.child (i0+i)=some (o,f)/\o+f.size<=vs.length/\AH Γ.H f (chunk vs o f.size) c
 | [],_,_,_,_,_,_,h,i,c,hc=>by simp[ED]at h;subst h;simp at hc
 |x::xs,_,i0,τ,vs,cs,h,hcs,i,c,hc=>by
  simp only[AU]at h;simp only[ED]at hcs;cases h1:CF x with
  |none=>simp[h1]at hcs|some d=>
   cases h2:ED xs with
   |none=>simp[h1,h2]at hcs|some ds=>
    simp[h1,h2]at hcs;subst hcs;cases i with
    |zero=>
     simp at hc;subst hc;obtain⟨⟨o,f,k1,k2,k3,k4⟩,_⟩:=h;have:=KU x k4 h1;rw[k2]at this;exact⟨o,f,k1,k3,this⟩
    |succ i=>
     have:=iE xs h.2 h2 i c (by simpa using hc);rw[show i0+(i+1)=i0+1+i by omega];exact this
end
end
end
section
theorem Dg (vs:List Value) (o n i:Nat):(chunk vs o n)[i]? =if i<n then vs[o+i]? else none:=by simp[chunk,fh,iz]
def Bh (vs:List Value) (o:Nat) (ws:List Value):List Value:=vs.take o++ws++vs.drop (o+ws.length)
theorem Hu {vs ws:List Value} {o:Nat} (h:o+ws.length<=vs.length):(Bh vs o ws).length=vs.length:=by simp[Bh];omega
theorem Fh {vs ws:List Value} {o:Nat} (h:o+ws.length<=vs.length) (i:Nat):
  (Bh vs o ws)[i]? =if o<=i/\i<o+ws.length then ws[i-o]? else vs[i]?:=by
 unfold Bh;by_cases h1:i<o;{rw[if_neg (by omega),jh,ga (by simp;omega),fh,if_pos h1]};{by_cases h2:i<o+ws.length;{rw[if_pos (by omega),jh,ia (by simp;omega),ga (by simp;omega)];simp only[kn];congr 1;omega};{rw[if_neg (by omega),ia (by simp;omega),iz];simp only[da,kn];congr 1;omega}}
theorem XH {vs ws:List Value} {o n:Nat} (h:o+ws.length<=vs.length) (hn:ws.length=n):chunk (Bh vs o ws) o n=ws:=by apply fg;intro i;rw[Dg,Fh h];split;{rw[if_pos (by omega)];congr 1;omega};{rw[gp (by omega)]}
theorem Pb {vs ws:List Value} {o o' n:Nat} (h:o+ws.length<=vs.length) (hd:o'+n<=o\/o+ws.length<=o'):chunk (Bh vs o ws) o' n=chunk vs o' n:=by apply fg;intro i;rw[Dg,Dg,Fh h];split;{rw[if_neg (by omega)]};{rfl}
theorem o9 {vs ws:List Value} {o o1 n1 o2:Nat} (h:o1+n1<=vs.length) (hw:o2+ws.length<=n1) (ho:o=o1+o2):chunk (Bh vs o ws) o1 n1=Bh (chunk vs o1 n1) o2 ws:=by subst ho;apply fg;intro i;have hl:(chunk vs o1 n1).length=n1:=EC _ _ _ h;rw[Dg,Fh (by omega),Fh (by omega),Dg];by_cases hi:i<n1;{rw[if_pos hi,if_pos hi];by_cases h2:o2<=i/\i<o2+ws.length;{rw[if_pos (by omega),if_pos h2];congr 1;omega};{rw[if_neg (by omega),if_neg h2]}};{rw[if_neg hi,if_neg hi,if_neg (by omega)]}
theorem DR.Bh {vs ws:List Value} {o:Nat} (h1:DR vs) (h2:DR ws):DR (Bh vs o ws):=by intro v hv;simp only[Go.E.Bh,List.mem_append]at hv;rcases hv with(hv|hv)|hv;{exact h1 v (List.mem_of_mem_take hv)};{exact h2 v hv};{exact h1 v (List.mem_of_mem_drop hv)}
def Pz (o n:Nat):List Nat->List Ty->Bool
 |o'::os,f::fs=>decide (o'+f.size<=o\/o+n<=o')&&Pz o n os fs|_,_=>true
def NV:List Nat->List Ty->Bool
 |o::os,f::fs=>Pz o f.size os fs&&NV os fs|_,_=>true
mutual
def Ty.CG:Ty->Bool
 | .struct _ os fs=>NV os fs&&Ty.QA fs| .arr _ e=>e.CG|_=>true
def Ty.QA:List Ty->Bool
 | []=>true|f::fs=>f.CG&&Ty.QA fs
end
theorem jP:∀{os:List Nat} {fs:List Ty} {o n j o':Nat} {f:Ty},Pz o n os fs=true->os[j]? =some o'->fs[j]? =some f->o'+f.size<=o\/o+n<=o'
 | [],_,_,_,_,_,_,_,h,_=>by simp at h
 |_::_,[],_,_,_,_,_,_,_,h=>by simp at h
 |o1::os,f1::fs,o,n,0,o',f,h,h1,h2=>by simp only[Pz,bz,decide_eq_true_eq]at h;simp at h1 h2;subst h1;subst h2;exact h.1
 |o1::os,f1::fs,o,n,j+1,o',f,h,h1,h2=>by simp only[Pz,bz]at h;exact jP h.2 (show os[j]? =some o' by simpa using h1) (show fs[j]? =some f by simpa using h2)
theorem Xo:∀{os:List Nat} {fs:List Ty} {i j o o':Nat} {f f':Ty},NV os fs=true->i<j->os[i]? =some o->fs[i]? =some f->os[j]? =some o'->fs[j]? =some f'->o'+f'.size<=o\/o+f.size<=o'
 | [],_,_,_,_,_,_,_,_,_,h,_,_,_=>by simp at h
 |_::_,[],_,_,_,_,_,_,_,_,_,h,_,_=>by simp at h
 |o1::os,f1::fs,0,j+1,o,o',f,f',h,_,h1,h2,h3,h4=>by simp only[NV,bz]at h;simp at h1 h2;subst h1;subst h2;exact jP h.1 (show os[j]? =some o' by simpa using h3) (show fs[j]? =some f' by simpa using h4)
 |o1::os,f1::fs,i+1,j+1,o,o',f,f',h,hij,h1,h2,h3,h4=>by simp only[NV,bz]at h;exact Xo h.2 (show i<j by omega) (show os[i]? =some o by simpa using h1) (show fs[i]? =some f by simpa using h2) (show os[j]? =some o' by simpa using h3) (show fs[j]? =some f' by simpa using h4)
 |_::_,_::_,_,0,_,_,_,_,_,hij,_,_,_,_=>by omega
theorem jQ {os:List Nat} {fs:List Ty} {i j o o':Nat} {f f':Ty} (h:NV os fs=true) (hij:i≠j) (h1:os[i]? =some o) (h2:fs[i]? =some f) (h3:os[j]? =some o') (h4:fs[j]? =some f'):
  o'+f'.size<=o\/o+f.size<=o':=by
 rcases ko i j with h5|h5;{exact Xo h h5 h1 h2 h3 h4};{have:=Xo h (show j<i by omega) h3 h4 h1 h2;omega}
theorem jR:∀{fs:List Ty} {i:Nat} {f:Ty},Ty.QA fs=true->fs[i]? =some f->f.CG=true
 | [],_,_,_,h=>by simp at h
 |f1::fs,0,f,h,h1=>by simp only[Ty.QA,bz]at h;simp at h1;subst h1;exact h.1
 |f1::fs,i+1,f,h,h1=>by simp only[Ty.QA,bz]at h;exact jR h.2 (show fs[i]? =some f by simpa using h1)
def Ty.DS:Ty->List Ty
 | .struct _ _ fs=>fs| .arr n e=>db n e|_=>[]
def C.set:C->Nat->C->C
 | .agg cs,i,c=>.agg (cs.set i c)|c,_,_=>c
def Gf (c:C):Nat->List Ty->List V
 |_,[]=>[]|j,f::fs=>.d f (c.get j)::Gf c (j+1) fs
def V.set:V->Nat->V->V
 | .d τ c,i,.d _ c'=>.d τ (c.set i c')| .d τ c,i,y=>.agg τ ((Gf c 0 τ.DS).set i y)| .agg τ vs,i,y=>.agg τ (vs.set i y)|_,_,_=>.any
def V.setAt:V->List Nat->V->V
 |_,[],y=>y|x,i::q,y=>x.set i ((x.get i).setAt q y)
theorem Ty.q2D (τ:Ty):τ.DS.length=τ.kids:=by cases τ <;> simp[Ty.DS,Ty.kids]
theorem AH.child {H:Hp} {τ f:Ty} {vs:List Value} {c:C} {i:Nat} (h:AH H τ vs c) (hf:τ.DS[i]? =some f):∃o,τ.child i=some (o,f):=by
 cases τ <;> simp only[Ty.DS,List.getElem?_nil,reduceCtorEq]at hf
 case arr n e=>
  rw[mc]at hf;split at hf;{cases hf;rename_i hi;exact⟨_,by simp only[jk];rw[if_pos hi]⟩};{cases hf}
 case struct sz os fs=>
  simp only[AH]at h;obtain⟨cs,rfl,_,_,h3⟩:=h;obtain⟨o,c,a,_⟩:=h3.get hf;exact⟨o,by simp[jk,a,hf]⟩
theorem o8 {τ f f':Ty} {i j o o':Nat} (hd:τ.CG=true) (h1:τ.child i=some (o,f)) (h2:τ.child j=some (o',f')) (hij:i≠j):o'+f'.size<=o\/o+f.size<=o':=by
 cases τ <;> simp only[jk,reduceCtorEq]at h1 h2
 case arr n e=>
  split at h1 <;> simp at h1;split at h2 <;> simp at h2;obtain⟨rfl,rfl⟩:=h1;obtain⟨rfl,rfl⟩:=h2;rcases ko j i with hlt|hge;{left;have:(j+1)*e.size<=i*e.size:=cr _ (by omega);rw[dr]at this;omega};{right;have:(i+1)*e.size<=j*e.size:=cr _ (by omega);rw[dr]at this;omega}
 case struct sz os fs=>
  simp only[Ty.CG,bz]at hd;cases ho:os[i]? with
  |none=>simp[ho]at h1|some a=>
   cases hf:fs[i]? with
   |none=>simp[ho,hf]at h1|some g=>
    cases ho':os[j]? with
    |none=>simp[ho']at h2|some a'=>
     cases hf':fs[j]? with
     |none=>simp[ho',hf']at h2|some g'=>
      simp[ho,hf]at h1;simp[ho',hf']at h2;obtain⟨rfl,rfl⟩:=h1;obtain⟨rfl,rfl⟩:=h2;exact jQ hd.1 hij ho hf ho' hf'
section
variable {Γ:G} {hm:Option Key}
theorem AH.set {H:Hp} {τ f:Ty} {vs ws:List Value} {c c':C} {i o:Nat} (h:AH H τ vs c) (hd:τ.CG=true) (hc:τ.child i=some (o,f)) (hr:AH H f ws c'):
  AH H τ (Bh vs o ws) (c.set i c'):=by
 have hwl:=hr.length;have hb:=(h.get hc).2.1;cases τ <;> simp only[jk,reduceCtorEq]at hc
 case arr n e=>
  split at hc <;> simp at hc;rename_i hi;obtain⟨rfl,rfl⟩:=hc;simp only[AH]at h ⊢;obtain⟨cs,rfl,h1,h2,h3,h4⟩:=h;refine⟨cs.set i c',rfl,by simpa using h1,by rw[Hu (by omega)];exact h2,h3.Bh hr.one,fun j cc hj=>?_⟩;rw[jv]at hj;split at hj;{rename_i hij;subst hij;split at hj;{cases hj;rw[XH (by omega) hwl];exact hr};{cases hj}}
  ·rename_i hij;have hjl:j<n:=by rw[<-h1];exact(cm.1 hj).1
   rw[Pb (by omega)];{exact h4 j cc hj};{rcases ko j i with hlt|hge;{left;have:(j+1)*e.size<=i*e.size:=cr _ (by omega);rw[dr]at this;omega};{right;have:(i+1)*e.size<=j*e.size:=cr _ (by omega);rw[dr]at this;omega}}
 case struct sz os fs=>
  simp only[AH]at h ⊢;simp only[Ty.CG,bz]at hd;obtain⟨cs,rfl,h1,h2,h3⟩:=h;cases ho:os[i]? with
  |none=>simp[ho]at hc|some o'=>
   cases hf:fs[i]? with
   |none=>simp[ho,hf]at hc|some f'=>
    simp[ho,hf]at hc;obtain⟨rfl,rfl⟩:=hc;have hl:=h3.pF;refine⟨cs.set i c',rfl,by rw[Hu (by omega)];exact h1,h2.Bh hr.one,Bj.Kx (by simpa using hl) fun j g cc hg hcc=>?_⟩;rw[jv]at hcc;obtain⟨oj,cj,a,b,d,r⟩:=h3.get hg;refine⟨oj,a,by rw[Hu (by omega)];exact d,?_⟩;split at hcc;{rename_i hij;subst hij;rw[hf]at hg;cases hg;rw[ho]at a;cases a;split at hcc;{cases hcc;rw[XH (by omega) hwl];exact hr};{cases hcc}};{rename_i hij;rw[b]at hcc;cases hcc;rw[Pb (by omega)];{exact r};{have:=jQ hd.1 (fun e=>hij e) ho hf a hg;omega}}
theorem AU.Kx {p:List Nat} {τ:Ty}:∀{xs:List V} {i0:Nat} {vs:List Value},
  (∀(i:Nat) (x:V),xs[i]? =some x->∃o f,τ.child (i0+i)=some (o,f)/\x.ty=f/\o+f.size<=vs.length/\AA Γ hm (p++[i0+i]) x (chunk vs o f.size))->AU Γ hm p i0 τ xs vs
 | [],_,_,_=>by simp[AU]
 |x::xs,i0,vs,h=>by simp only[AU];refine⟨h 0 x rfl,AU.Kx fun i y hy=>?_⟩;have:=h (i+1) y (by simpa using hy);rw[show i0+1+i=i0+(i+1) by omega];exact this
theorem lH (c:C):∀(fs:List Ty) (j i:Nat),(Gf c j fs)[i]? =(fs[i]?).map fun f=>.d f (c.get (j+i))
 | [],_,_=>by simp[Gf]
 |f::fs,j,0=>by simp[Gf]
 |f::fs,j,i+1=>by simp only[Gf,fu];rw[lH c fs (j+1) i,show j+(i+1)=j+1+i by omega]
theorem lI (c:C):∀(fs:List Ty) (j:Nat),(Gf c j fs).length=fs.length
 | [],_=>rfl|f::fs,j=>by simp[Gf,lI c fs]
theorem q1E {τ:Ty} {c:C} {p:List Nat} {vs:List Value} (h:AH Γ.H τ vs c) (ha:τ.isAgg=true):AA Γ hm p (.agg τ (Gf c 0 τ.DS)) vs:=by
 simp only[AA];refine⟨h.length,h.one,by rw[lI,Ty.q2D],ha,AU.Kx fun i x hx=>?_⟩;rw[lH]at hx;cases hf:τ.DS[i]? with
 |none=>simp[hf]at hx|some f=>
  simp[hf]at hx;subst hx;obtain⟨o,ho⟩:=h.child hf;obtain⟨_,h2,h3⟩:=h.get ho;refine⟨o,f,by simpa using ho,rfl,h2,?_⟩;simpa only[AA]using h3
theorem o5 {τ f:Ty} {i o:Nat} (h:τ.child i=some (o,f)):τ.isAgg=true:=by cases τ <;> simp[jk]at h <;> rfl
theorem fJ {p:List Nat} {τ:Ty} {xs:List V} {y:V} {vs ws:List Value} {i o:Nat} (h:AA Γ hm p (.agg τ xs) vs) (hd:τ.CG=true) (hc:τ.child i=some (o,y.ty))
  (hr:AA Γ hm (p++[i]) y ws) (hy:y.plain=true) (hb:o+y.ty.size<=vs.length):AA Γ hm p (.agg τ (xs.set i y)) (Bh vs o ws):=by
 simp only[AA]at h ⊢;obtain⟨h1,h2,h3,h4,h5⟩:=h;have hwl:=hr.length hy;refine⟨by rw[Hu (by omega)];exact h1,h2.Bh (hr.one hy),by simpa using h3,h4,AU.Kx fun j x hx=>?_⟩;rw[jv]at hx;split at hx;{rename_i hij;subst hij;split at hx;{cases hx;refine⟨o,_,by simpa using hc,rfl,by rw[Hu (by omega)];exact hb,?_⟩;rw[XH (by omega) hwl];simpa using hr};{cases hx}};{rename_i hij;obtain⟨o',f',a,b,d,r⟩:=h5.get hx;refine⟨o',f',a,b,by rw[Hu (by omega)];exact d,?_⟩;rw[Pb (by omega)];{exact r};{rw[cf]at a;have:=o8 hd hc a hij;omega}}
theorem AA.set {p:List Nat} {x y:V} {vs ws:List Value} {i o:Nat} (h:AA Γ hm p x vs) (hd:x.ty.CG=true) (hc:x.ty.child i=some (o,y.ty)) (hg:x.get i≠.any)
  (hr:AA Γ hm (p++[i]) y ws) (hy:y.plain=true):AA Γ hm p (x.set i y) (Bh vs o ws)/\(x.set i y).ty=x.ty/\(x.set i y).plain=true:=by
 have hb:=(h.get hc hg).2.1;have gen:∀{τ:Ty} {c:C},x= .d τ c->AA Γ hm p (.agg τ ((Gf c 0 τ.DS).set i y)) (Bh vs o ws):=by intro τ c e;subst e;simp only[AA]at h;simp only[V.ty]at hc hd;exact fJ (q1E h (o5 hc)) hd hc hr hy hb
 cases x <;> (try (simp only[V.get,ne_eq,not_true_eq_false]at hg;done))
 case d τ c=>
  have:=gen rfl;cases y
  case d τ' c'=>
   simp only[V.set];refine⟨?_,rfl,rfl⟩;simp only[AA]at h hr ⊢;simp only[V.ty]at hc hd;exact h.set hd hc hr
  all_goals (simp only[V.set];exact⟨this,rfl,rfl⟩)
 case agg τ xs=>
  simp only[V.set];exact⟨fJ h hd hc hr hy hb,rfl,rfl⟩
theorem o7 {τ f:Ty} {i o:Nat} (h:τ.CG=true) (hc:τ.child i=some (o,f)):f.CG=true:=by
 cases τ <;> simp only[jk,reduceCtorEq]at hc
 case arr n e=>split at hc <;> simp at hc;rw[<-hc.2];simpa[Ty.CG]using h
 case struct sz os fs=>
  simp only[Ty.CG,bz]at h;cases ho:os[i]? with
  |none=>simp[ho]at hc|some o'=>
   cases hf:fs[i]? with
   |none=>simp[ho,hf]at hc|some f'=>simp[ho,hf]at hc;rw[<-hc.2];exact jR h.2 hf
theorem AA.setAt:∀{q:List Nat} {p:List Nat} {x y:V} {vs ws:List Value} {o:Nat},AA Γ hm p x vs->x.plain=true->x.ty.CG=true->x.ty.walk q=some (o,y.ty)->x.at q≠.any->
  AA Γ hm (p++q) y ws->y.plain=true->
  AA Γ hm p (x.setAt q y) (Bh vs o ws)/\(x.setAt q y).ty=x.ty/\(x.setAt q y).plain=true
 | [],p,x,y,vs,ws,o,h,hp,hd,hw,hx,hr,hy=>by
  simp[ud]at hw;obtain⟨rfl,ht⟩:=hw;have h1:=h.length hp;have h2:=hr.length hy;have:Bh vs 0 ws=ws:=by simp only[Bh,vf,jm,cf];rw[jt (by rw[h1,h2,ht];exact cn _)];simp
  simp only[V.setAt,this];exact⟨by simpa using hr,ht.symm,hy⟩
 |i::q,p,x,y,vs,ws,o,h,hp,hd,hw,hx,hr,hy=>by
  simp only[ud]at hw;cases hc:x.ty.child i with
  |none=>simp[hc]at hw|some of=>
   obtain⟨o1,f⟩:=of;simp only[hc]at hw;cases hw2:f.walk q with
   |none=>simp[hw2]at hw|some ot=>
    obtain⟨o2,t⟩:=ot;simp only[hw2,eu,gb]at hw;obtain⟨rfl,rfl⟩:=hw;have hne:x.get i≠.any:=by intro e;apply hx;simp only[V.at,e];exact V.PV q
    obtain⟨h1,h2,h3⟩:=h.get hc hne;have hpl:(x.get i).plain=true:=V.Rv h3 hne;have _hget:=PZ hc;have ih:=AA.setAt (q:=q) h3 hpl (by rw[h1];exact o7 hd hc) (by rw[h1];exact hw2) (by simpa[V.at]using hx) (by simpa using hr) hy;obtain⟨i1,i2,i3⟩:=ih;have hwl:=hr.length hy;have hb2:o2+y.ty.size<=f.size:=by
     obtain⟨_,hb,_⟩:=h3.at_ (by rw[h1];exact hw2) (by simpa[V.at]using hx) hpl
     rwa [EC _ _ _ h2]at hb
    have zj:=AA.set (i:=i) (o:=o1) (y:=(x.get i).setAt q y) h hd (by rw[i2,h1];exact hc) hne i1 i3;have e1:Bh vs o1 (Bh (chunk vs o1 f.size) o2 ws)=Bh vs (o1+o2) ws:=by
     have hl1:(chunk vs o1 f.size).length=f.size:=EC _ _ _ h2;have hl2:(Bh (chunk vs o1 f.size) o2 ws).length=f.size:=by rw[Hu (by omega)];exact hl1
     apply fg;intro j;rw[Fh (vs:=vs) (o:=o1) (by omega),Fh (vs:=vs) (o:=o1+o2) (ws:=ws) (by omega),hl2];by_cases hj:o1<=j/\j<o1+f.size;{rw[if_pos hj,Fh (by omega),Dg];by_cases hk:o1+o2<=j/\j<o1+o2+ws.length;{rw[if_pos (by omega),if_pos hk];congr 1;omega};{rw[if_neg (by omega),if_neg hk,if_pos (by omega)];congr 1;omega}};{rw[if_neg hj,if_neg (by omega)]}
    rw[e1]at zj;simp only[V.setAt];exact zj
end
end
section
def Ar (P:Program) (o:Oper) (a:Act) (w:World) (BP:Value->World->Prop):Prop:=
 ∀(next:Act->World->Prop) (Q:Exit->Act->World->Prop),(∀v w',BP v w'->next (a.put o.dst v) w')->o.wp P a w next Q
section
variable {P:Program} {o:Oper} {a:Act} {w w':World} {BP:Value->World->Prop}
theorem Ar.val {v:Value} (h:(execOp a.eval o).run P w= .ok (.value v) w') (hp:BP v w'):Ar P o a w BP:=by
 intro next Q hn
 unfold Oper.wp;rw[h];exact hn v w' hp
theorem Ar.skip (h:(execOp a.eval o).run P w= .ok .skip w') (hp:BP undef w'):Ar P o a w BP:=by
 intro next Q hn
 unfold Oper.wp;rw[h];exact hn _ w' hp
theorem Ar.enter {f:FuncId} {args:Array Value} (h:(execOp a.eval o).run P w= .ok (.enter f args) w')
  (hc:Calls P f args w' fun e w''=>∃v,e= .returned v/\BP v w''):Ar P o a w BP:=by
 intro next Q hn
 unfold Oper.wp;rw[h];refine Calls.mono hc ?_;rintro e w'' ⟨v,rfl,hp⟩;exact hn v w'' hp
theorem Ar.mono {z4w:Value->World->Prop} (h:Ar P o a w BP) (hp:∀v w',BP v w'->z4w v w'):Ar P o a w z4w:=
 fun next Q hn=>h next Q fun v w' hv=>hn v w' (hp v w' hv)
end
structure Ext (w w':World):Prop where
 size:w.heap.size<=w'.heap.size
 old:∀b,b<w.heap.size->w'.heap[b]? =w.heap[b]?
 oo:oof w'=oof w
theorem Ext.refl (w:World):Ext w w:=⟨cn _,fun _ _=>rfl,rfl⟩
theorem Ext.trans {a b c:World} (h:Ext a b) (h':Ext b c):Ext a c:=
 ⟨oh h.size h'.size,fun x hx=>(h'.old x (Nat.lt_of_lt_of_le hx h.size)).trans (h.old x hx),h'.oo.trans h.oo⟩
theorem Ext.alloc (w:World) (o:Obj):Ext w (w.alloc o):=⟨by simp,fun _ hb=>heap_alloc_old w o hb,rfl⟩
theorem Ext.drew (w:World):Ext w w.drew:=⟨cn _,fun _ _=>rfl,rfl⟩
def Dl {α:Type} (f:Key->Option α) (k:Key) (x:α):Key->Option α:=fun j=>if j=k then some x else f j
def Bl {α:Type} (f:Nat->Option α) (k:Nat) (x:α):Nat->Option α:=fun j=>if j=k then some x else f j
theorem DD {α:Type} (f:Nat->Option α) (k:Nat) (x:α):Bl f k x k=some x:=by simp[Bl]
theorem Eg {α:Type} (f:Nat->Option α) {k j:Nat} (x:α) (h:j≠k):Bl f k x j=f j:=by simp[Bl,h]
def BP (Γ:G) (w:World) (s':S) (x:V) (v:Value) (w':World):Prop:=
 ∃Γ',GLe Γ Γ'/\BZ Γ Γ'/\AJ Γ' w' s'/\AE Γ' x v
section
variable {Γ:G} {w w':World} {s:S}
theorem AJ.Zlt (c:AJ Γ w s) {b:Nat} (h:Γ.Z b≠none):b<w.heap.size:=by
 cases hk:Γ.Z b with
 |none=>exact absurd hk h|some o=>exact Hj (c.hZ b o hk)
theorem AJ.congr (c:AJ Γ w s) {s':S} (h1:∀k,s'.obj k=s.obj k) (h2:∀t,s'.live t=s.live t) (h3:∀t,s.known t=true->s'.known t=true):AJ Γ w s':=
 ⟨c.hH,c.hZ,c.hκ,fun k o h=>c.obj k o (by rw[<-h1];exact h),fun k h=>by rw[h1];exact c.dom k h,c.Jp (fun k h=>by unfold S.Br at h ⊢;rw[h1];exact h),fun t L h=>c.tok t L (by rw[<-h2];exact h),fun t h=>h3 t (c.xg t h),c.hgl,c.hoo,c.hσ⟩
theorem AJ.σlt (c:AJ Γ w s) {b:Nat} {sz:Nat} (h:Γ.σ b=some sz):b<w.heap.size:=by obtain⟨arr,T,fr,h1,_⟩:=c.hσ b sz h;exact Hj h1
theorem AJ.eW (c:AJ Γ w s) (he:Ext w w'):∀b sz,Γ.σ b=some sz->∃arr T fr,w'.heap[b]? =some (.cells arr T fr)/\arr.size=sz:=fun b sz h=>by rw[he.old b (c.σlt h)];exact c.hσ b sz h
theorem AJ.env (c:AJ Γ w s) (e:List (Nat × V)):AJ Γ w {s with env:=e}:=c.congr (fun _=>rfl) (fun _=>rfl) (fun _ h=>h)
theorem AJ.ext (c:AJ Γ w s) (he:Ext w w'):AJ Γ w' s:=by refine c.change (BZ.refl Γ) rfl rfl rfl he.oo (fun b l h=>?_) (fun b h=>he.old b (c.Zlt h)) (fun b o sz h=>?_) (fun k o h=>?_) (fun _ h _=>h) c.dom (c.eW he) c.inj c.tok c.xg he.size;{rw[he.old b (c.Hlt (by rw[h];simp))];exact c.hH b l h};{rw[he.old b (c.κlt (by rw[h];simp))];exact c.hκ b o sz h};{refine .inl ⟨h,fun hd=>⟨fun b p sz _=>⟨rfl,rfl⟩,fun b τ hb=>?_⟩⟩;obtain⟨a1,a2,a3,_⟩:=c.EY hb h hd;exact⟨he.old b a3,a1⟩}
theorem BP.same (c:AJ Γ w s) {x:V} {v:Value} (h:AE Γ x v):BP Γ w s x v w:=⟨Γ,.refl Γ,.refl Γ,c,h⟩
theorem BP.ext (c:AJ Γ w s) (he:Ext w w') {x:V} {v:Value} (h:AE Γ x v):BP Γ w s x v w':=⟨Γ,.refl Γ,.refl Γ,c.ext he,h⟩
theorem MH {α:Type} (n:Key) (x:α) (l:List (Key × α)):AK ((n,x)::l) n=some x:=by simp[AK]
theorem Uf {α:Type} (n:Nat) (x:α) (l:List (Nat × α)):look ((n,x)::l) n=some x:=by simp[look]
theorem Cz (s:S) (k j:Key) (o:O):S.obj {s with loc:=(k,o)::s.loc} j=if k=j then some o else s.obj j:=by unfold S.obj CR;by_cases h:k=j;{subst h;simp[AK]};{simp[AK,h]}
theorem Xi {s:S} {k:Key} {o:O} (h:s.Br k=true->o.EV=true) (j:Key) (hj:s.Br j=true):S.Br {s with loc:=(k,o)::s.loc} j=true:=by unfold S.Br;rw[Cz];split;{rename_i e;subst e;exact h hj};{exact hj}
theorem MG (s:S) (t u:Nat) (L:Option Nat):S.live {s with tk:=(t,L)::s.tk} u=if t=u then L else s.live u:=by unfold S.live Dt;by_cases h:t=u;{subst h;simp only[Uf,if_true];cases L <;> rfl};{simp[look,h]}
theorem MB (s:S) (t u:Nat) (L:Option Nat):S.known {s with tk:=(t,L)::s.tk} u=(decide (t=u)||s.known u):=by unfold S.known;by_cases h:t=u;{subst h;simp[look]};{simp[look,h]}
theorem AJ.PN (c:AJ Γ w s) {k:Key} (h:s.obj k=none):Γ.ι k=none:=by
 cases hk:Γ.ι k with
 |none=>rfl|some x=>exact absurd h (c.dom k (by rw[hk];simp))
theorem AJ.zN (c:AJ Γ w s) {t:Nat} (h:s.known t=false):Γ.τ t=none:=by
 cases hk:Γ.τ t with
 |none=>rfl|some x=>have:=c.xg t (by rw[hk];simp);rw[h]at this;cases this
def G.addKey (Γ:G) (k:Key) (b:Nat) (τ:Ty):G:={Γ with ι:=Dl Γ.ι k (b,τ)}
theorem AJ.addKey (c:AJ Γ w s) {k:Key} (hn:s.obj k=none) (he:Ext w w') {τ:Ty} {o:O} (ho:∀Γ':G,BZ Γ Γ'->Mr Γ Γ' (some k)->Γ'.ι k=some (w.heap.size,τ)->Γ'.H w.heap.size=none->Γ'.Z w.heap.size=none->Own Γ' w' k o) (hkl:∀i,k≠.g i:=by intro i h;cases h):
  AJ (Γ.addKey k w.heap.size τ) w' {s with loc:=(k,o)::s.loc}/\BZ Γ (Γ.addKey k w.heap.size τ)/\GLe Γ (Γ.addKey k w.heap.size τ):=by
 have hk:=c.PN hn;have hι:∀j x,Γ.ι j=some x->(Γ.addKey k w.heap.size τ).ι j=some x:=by
  intro j x hj;have:j≠k:=by intro e;subst e;rw[hk]at hj;cases hj
  simp[G.addKey,Dl,this,hj]
 have hp:BZ Γ (Γ.addKey k w.heap.size τ):=⟨ij _,hι,fun t x L h=>⟨x,L,h,cn _,fun _=>rfl⟩,fun _ _ h=>h⟩
 refine⟨?_,hp,⟨ij _,rfl,fun _ _=>rfl,fun j x h=>hι _ _ h,rfl,rfl,fun _ _ h=>h,fun i h=>by
  have:Key.g i≠k:=fun e=>hkl i e.symm;simpa[G.addKey,Dl,this]using h⟩⟩
 refine c.change hp rfl rfl rfl he.oo (fun b l h=>?_) (fun b h=>he.old b (c.Zlt h)) (fun b o sz h=>?_) (fun j o' h=>?_) (fun j h h'=>by
  have:j≠k:=fun e=>by subst e;exact h' hn
  simpa[G.addKey,Dl,this]using h) (fun j h=>?_) (c.eW he) (fun j j' b τ1 τ2 h1 h2=>?_) c.tok c.xg he.size
 ·have h':Γ.H b=some l:=h;rw[he.old b (c.Hlt (by rw[h'];simp))];exact c.hH b l h
 ·have h':Γ.κ b=some (o,sz):=h;rw[he.old b (c.κlt (by rw[h'];simp))];exact c.hκ b o sz h
 ·rw[Cz]at h;split at h;{rename_i e;cases h;subst e;refine .inr (ho _ hp (fun _ _ _ _=>⟨rfl,rfl⟩) (by simp[G.addKey,Dl]) ?_ ?_);{cases hh:Γ.H w.heap.size with|none=>exact hh|some l=>exact absurd (c.Hlt (by rw[hh];simp)) (ow _)};{cases hh:Γ.Z w.heap.size with|none=>exact hh|some l=>exact absurd (c.Zlt (by rw[hh];simp)) (ow _)}};{refine .inl ⟨h,fun hd=>⟨fun b p sz _=>⟨rfl,rfl⟩,fun b τ hb=>?_⟩⟩;obtain⟨a1,a2,a3,_⟩:=c.EY hb h hd;exact⟨he.old b a3,a1⟩}
 ·rw[Cz];split;{simp};{rename_i e;refine c.dom j ?_;have:j≠k:=fun h=>e h.symm;simpa[G.addKey,Dl,this]using h}
 ·have key:∀j b τ',(Γ.addKey k w.heap.size τ).ι j=some (b,τ')->(j=k/\b=w.heap.size)\/(j≠k/\Γ.ι j=some (b,τ')/\b<w.heap.size):=by
   intro j b τ' h;by_cases hjk:j=k;{left;simp[G.addKey,Dl,hjk]at h;exact⟨hjk,h.1.symm⟩}
   ·right;have h':Γ.ι j=some (b,τ'):=by simpa[G.addKey,Dl,hjk]using h
    obtain⟨_,_,_,hlt,_⟩:=c.zM h';exact⟨hjk,h',hlt⟩
  rcases key j b τ1 h1 with⟨e1,e2⟩|⟨e1,e2,e3⟩ <;> rcases key j' b τ2 h2 with⟨f1,f2⟩|⟨f1,f2,f3⟩;{exact .inl (by rw[e1,f1])};{omega};{omega};{refine(c.inj _ _ _ _ _ e2 f2).imp id (And.imp (Or.imp (fun h=>?_) (fun h=>?_)) id);{unfold S.Br at h ⊢;rw[Cz,if_neg (fun e=>e1 e.symm)];exact h};{unfold S.Br at h ⊢;rw[Cz,if_neg (fun e=>f1 e.symm)];exact h}}
theorem RW (c:AJ Γ w s) {n:Nat} (hn:s.obj (.l n)=none) {x:V} {cells:Array Value} {T:TypeId} {fz:Nat × Nat} (he:Ext w w') (hw:w'.heap[w.heap.size]? =some (.cells cells T fz)) (hsz:x.ty.size<=cells.size)
  (hx:AA Γ none [] x (chunk cells.toList 0 x.ty.size)) (hp:x.plain=true) (hns:x.BJ=true) (hfz:fz.2<=fz.1\/cells.size<=fz.1:=by exact .inl (cn _)):
  BP Γ w {s with loc:=(.l n,.box x)::s.loc} (.ptr (.l n) [] x.ty) (.pointer (some ⟨w.heap.size,0,none⟩)) w':=by
 obtain⟨h1,h2,h3⟩:=c.addKey hn he (τ:=x.ty) (o:=.box x) fun Γ' hpr _ hι hH hZ=>⟨_,cells,T,hι,hH,hZ,⟨fz,hw,hfz⟩,hsz,(hx.Bd hpr (by trivial)).Dn,hp,hns⟩;exact⟨_,h3,h2,h1,Oi (τ0:=x.ty) (by simp[G.addKey,Dl]) rfl⟩
def G.Dz (Γ:G) (b:Nat) (l:List Value):G:={Γ with H:=Bl Γ.H b l}
theorem AJ.Dz (c:AJ Γ w s) (he:Ext w w') {arr:Array Value} {T:TypeId} {fr:Nat × Nat} {l r:List Value} (hw:w'.heap[w.heap.size]? =some (.cells arr T fr)) (hl:arr.toList=l++r):
  AJ (Γ.Dz w.heap.size l) w' s/\BZ Γ (Γ.Dz w.heap.size l)/\GLe Γ (Γ.Dz w.heap.size l):=by
 have oH:∀b,b<w.heap.size->(Γ.Dz w.heap.size l).H b=Γ.H b:=fun b hb=>Eg _ _ (by omega);have hle:Γ.H.le (Γ.Dz w.heap.size l).H:=fun b l' h=>⟨[],by rw[oH b (c.Hlt (by rw[h];simp)),h];simp⟩;have hp:BZ Γ (Γ.Dz w.heap.size l):=⟨hle,fun _ _ h=>h,fun t x L h=>⟨x,L,h,cn _,fun _=>rfl⟩,fun _ _ h=>h⟩;refine⟨?_,hp,⟨hle,rfl,fun b h=>oH b (c.Zlt h),fun _ _ h=>h,rfl,rfl,fun _ _ h=>h,fun _ h=>h⟩⟩;refine c.change hp rfl rfl rfl he.oo (fun b l' h=>?_) (fun b h=>he.old b (c.Zlt h)) (fun b o sz h=>?_) (fun k o h=>?_) (fun _ h _=>h) c.dom (c.eW he) c.inj (fun t L h=>?_) c.xg he.size
 ·by_cases hb:b=w.heap.size;{subst hb;simp[G.Dz,Bl]at h;subst h;exact⟨arr,T,fr,r,hw,hl⟩}
  ·have h':Γ.H b=some l':=by simpa[G.Dz,Bl,hb]using h
   rw[he.old b (c.Hlt (by rw[h'];simp))];exact c.hH b l' h'
 ·have h':Γ.κ b=some (o,sz):=h;have hlt:=c.κlt (by rw[h'];simp);rw[he.old b hlt,oH b hlt];exact c.hκ b o sz h
 ·refine .inl ⟨h,fun hd=>⟨fun b p sz hb=>⟨rfl,oH b (c.κlt (by rw[hb];simp))⟩,fun b τ hb=>?_⟩⟩;obtain⟨a1,a2,a3,_⟩:=c.EY hb h hd;exact⟨he.old b a3,by rw[oH b a3];exact a1⟩
 ·obtain⟨x,h1,h2⟩:=c.tok t L h;refine⟨x,h1,fun b pos sz hx=>?_⟩;obtain⟨a1,a2⟩:=h2 b pos sz hx;rw[oH b (c.κlt (by rw[a2];simp))];exact⟨a1,a2⟩
def G.GJ (Γ:G) (b sz:Nat):G:={Γ with σ:=Bl Γ.σ b sz}
theorem AJ.GJ (c:AJ Γ w s) {b:Nat} {arr:Array Value} {T:TypeId} {fr:Nat × Nat} (hw:w.heap[b]? =some (.cells arr T fr)):
  AJ (Γ.GJ b arr.size) w s/\BZ Γ (Γ.GJ b arr.size)/\GLe Γ (Γ.GJ b arr.size):=by
 have hσ:∀b' sz,Γ.σ b'=some sz->(Γ.GJ b arr.size).σ b'=some sz:=by intro b' sz h;by_cases e:b'=b;{subst e;obtain⟨xc,T',fr',a1,a2⟩:=c.hσ b' sz h;rw[hw]at a1;cases a1;rw[<-a2];exact DD _ _ _};{exact(Eg _ _ e).trans h}
 have hp:BZ Γ (Γ.GJ b arr.size):=⟨ij _,fun _ _ h=>h,fun t x L h=>⟨x,L,h,cn _,fun _=>rfl⟩,hσ⟩;refine⟨?_,hp,⟨ij _,rfl,fun _ _=>rfl,fun _ _ h=>h,rfl,rfl,hσ,fun _ h=>h⟩⟩;refine c.change hp rfl rfl rfl rfl c.hH (fun _ _=>rfl) c.hκ (fun k o h=>?_) (fun _ h _=>h) c.dom (fun b' sz h=>?_) c.inj c.tok c.xg (cn _);{refine .inl ⟨h,fun hd=>⟨fun b p sz _=>⟨rfl,rfl⟩,fun b τ hb=>?_⟩⟩;obtain⟨a1,a2,a3,_⟩:=c.EY hb h hd;exact⟨rfl,a1⟩}
 ·by_cases e:b'=b
  ·subst e;have:arr.size=sz:=by have h':Bl Γ.σ b' arr.size b'=some sz:=h;rw[DD]at h';exact Option.some.inj h'
   exact⟨arr,T,fr,hw,this⟩
  ·exact c.hσ b' sz ((Eg _ _ e).symm.trans h)
def G.DX (Γ:G) (t:Nat) (x:Option (Nat × Nat × Nat)) (L:Nat):G:=
 {Γ with τ:=Bl Γ.τ t (x,L),κ:=match x with|none=>Γ.κ|some (b,_,sz)=>Bl Γ.κ b (.tok t,sz)}
theorem AJ.DX (c:AJ Γ w s) {t:Nat} (ht:s.known t=false) {x:Option (Nat × Nat × Nat)} {L:Nat}
  (hx:∀b pos sz,x=some (b,pos,sz)->Γ.κ b=none/\Γ.Z b=none/\(∃l,Γ.H b=some l/\l.length=pos)/\∃arr T,w.heap[b]? =some (.cells arr T (0,0))/\arr.size=sz):
  AJ (Γ.DX t x L) w {s with tk:=(t,some L)::s.tk}/\BZ Γ (Γ.DX t x L)/\GLe Γ (Γ.DX t x L):=by
 have hτ:=c.zN ht;have oκ:∀b o,Γ.κ b=some o->(Γ.DX t x L).κ b=some o:=by
  intro b o h;cases x with
  |none=>exact h|some y=>
   obtain⟨b',pos,sz⟩:=y;have:b≠b':=by intro e;subst e;rw[(hx b pos sz rfl).1]at h;cases h
   simp[G.DX,Bl,this,h]
 have hp:BZ Γ (Γ.DX t x L):=⟨ij _,fun _ _ h=>h,fun u y M h=>by
  have:u≠t:=by intro e;subst e;rw[hτ]at h;cases h
  exact⟨y,M,by simp[G.DX,Bl,this,h],cn _,fun _=>rfl⟩,fun _ _ h=>h⟩
 refine⟨?_,hp,⟨ij _,rfl,fun _ _=>rfl,fun _ _ h=>h,rfl,rfl,fun _ _ h=>h,fun _ h=>h⟩⟩;refine c.change hp rfl rfl rfl rfl c.hH (fun b _=>rfl) (fun b o sz h=>?_) (fun k o h=>?_) (fun _ h _=>h) c.dom c.hσ c.inj (fun u M h=>?_) (fun u h=>?_) (cn _)
 ·cases hk:Γ.κ b with
  |some o'=>rw[oκ b o' hk]at h;cases h;exact c.hκ b o sz hk
  |none=>
   cases x with
   |none=>have h':Γ.κ b=some (o,sz):=h;rw[hk]at h';cases h'
   |some y=>
    obtain⟨b',pos,sz'⟩:=y;by_cases e:b=b';{subst e;simp[G.DX,Bl]at h;obtain⟨_,a2,⟨l,a3,_⟩,a4⟩:=hx b pos sz' rfl;rw[<-h.2];obtain⟨arr,T,q1,q2⟩:=a4;exact⟨a2,by show Γ.H b≠none;rw[a3];simp,arr,T,q1,q2,by rw[<-h.1];trivial⟩};{simp[G.DX,Bl,e,hk]at h}
 ·refine .inl ⟨h,fun hd=>⟨fun b p sz hb=>⟨by rw[oκ b _ hb,hb],rfl⟩,fun b τ hb=>?_⟩⟩;obtain⟨a1,a2,a3,_⟩:=c.EY hb h hd;exact⟨rfl,a1⟩
 ·rw[MG]at h;split at h;{rename_i e;subst e;cases h;refine⟨x,by simp[G.DX,Bl],fun b pos sz e=>?_⟩;obtain⟨a1,a2,a3,a4⟩:=hx b pos sz e;subst e;exact⟨a3,by simp[G.DX,Bl]⟩};{rename_i e;obtain⟨y,h1,h2⟩:=c.tok u M h;have e':u≠t:=fun h'=>e h'.symm;refine⟨y,by simp[G.DX,Bl,e',h1],fun b pos sz hy=>?_⟩;obtain⟨a1,a2⟩:=h2 b pos sz hy;exact⟨a1,oκ b _ a2⟩}
 ·rw[MB];by_cases e:t=u;{simp[e]};{simp only[e,decide_false,ju];have e':u≠t:=fun h'=>e h'.symm;refine c.xg u ?_;simpa[G.DX,Bl,e']using h}
end
end
section
def EO (s:S):V->Option (Nat × Ty × List C)
 | .sr k q lo n _ eb e=>match s.obj k with
  |some (.box x)=>match x.at q with| .d _ c=>some (eb,e,(c.elems.drop lo).take n)|_=>none
  |_=>none
 |x=>x.Eh
theorem OO {H:Hp} {e:Ty} {ys:List C} {m:Nat} {news:List Value} (h1:ys.length=m) (hl:news.length=m*e.size) (hr:∀i c',ys[i]? =some c'->AH H e (chunk news (i*e.size) e.size) c'):DR news:=by
 intro v hv;obtain⟨j,hj⟩:=List.getElem?_of_mem hv;have hjl:j<m*e.size:=by rw[<-hl];exact(cm.1 hj).1
 have hs:0<e.size:=by rcases ng e.size with h|h;· rw[h,Nat.mul_zero]at hjl;omega
                      ·exact h
 have hi:j / e.size<ys.length:=by rw[h1];exact(Nat.div_lt_iff_lt_mul hs).2 hjl
 have hdm:=Nat.div_add_mod j e.size;have za:=Nat.mod_lt j hs;refine(hr _ _ (cq hi)).one v (fk (i:=j%e.size) ?_);rw[Dg,if_pos za,Nat.mul_comm,hdm];exact hj
section
variable {P:Program} {Γ:G} {w:World} {s:S}
theorem gZ {b off k:Nat} {arr:Array Value} {T:TypeId} {fr:Nat × Nat} {l r:List Value} (hb:w.heap[b]? =some (.cells arr T fr)) (hl:arr.toList=l++r) {j:Nat} {u:Value} (h:(chunk l off k)[j]? =some u):
  w.cell? ⟨b,off+j,none⟩=some u:=by
 rw[Dg]at h;split at h
 ·have hlt:=(cm.1 h).1;have:arr[off+j]? =some u:=by rw[<-Array.getElem?_toList,hl,ga hlt];exact h
  simp[lj,hb,this]
 ·cases h
theorem WA (c:AJ Γ w s) {Y:V} {v:Value} {eb:Nat} {e:Ty} {ys:List C} (hr:AE Γ Y v) (he:EO s Y=some (eb,e,ys)) {tx E':TypeId} (hu:P.underlying tx=some (.slice E')):
  ∃n news,Src P e.size tx v n news w/\ys.length=n/\n<=maxLen/\n*eb<=140737488355328/\∀i c',ys[i]? =some c'->AH Γ.H e (chunk news (i*e.size) e.size) c':=by
 -- a slice that is known as data
 have frozen:∀{eb:Nat} {e:Ty} {ys:List C},Y.Eh=some (eb,e,ys)->∃n news,Src P e.size tx v n news w/\ys.length=n/\n<=maxLen/\n*eb<=140737488355328/\∀i c',ys[i]? =some c'->AH Γ.H e (chunk news (i*e.size) e.size) c':=by
  intro eb e ys he;obtain⟨a,n,cap,rfl,h1,h2,h3,h4,h5⟩:=KB hr he;obtain⟨a',n',yz,e1,_,e2,e3,e4,e5,e6⟩:=Ic h5;simp at e1;obtain⟨rfl,rfl,rfl⟩:=e1;simp only[bq]at e6;have hz:∀{ad:Addr},n=0->Src P e.size tx (.slice (some ad) n cap) n [] w:=by intro ad h0;subst h0;exact oe w hu _ 0 cap [] (by simp) (by simp) (by simp)
  by_cases h0:n=0;{refine⟨n,[],?_,h1,by omega,h4,fun i c' hi=>?_⟩;{cases a with|none=>subst h0;exact tc w hu cap|some ad=>exact hz h0};{have:=(cm.1 hi).1;omega}}
  ·rcases e6 with e6|⟨b,off,l,rfl,hb,hs,hc⟩;{exact absurd e6 h0}
   ·obtain⟨arr,T,fr,r,hw,hl⟩:=c.hH b l hb;have hnl:(chunk l off (n*e.size)).length=n*e.size:=EC _ _ _ hs;have xd:∀i c',ys[i]? =some c'->AH Γ.H e (chunk (chunk l off (n*e.size)) (i*e.size) e.size) c':=by
     intro i c' hi;have hil:i<n:=by rw[<-h1];exact(cm.1 hi).1
     have hle:(i+1)*e.size<=n*e.size:=cr _ hil;rw[dr]at hle;rw[EK _ _ _ _ _ (by omega)];exact hc i c' hi
    exact⟨n,chunk l off (n*e.size),oe w hu _ n cap _ hnl (fun j u hj=>by rw[IA];exact gZ hw hl hj) (OO h1 hnl xd),h1,by omega,h4,xd⟩
 cases Y <;> (try exact frozen he)
 case sr k q lo n cp eb' e'=>
  simp only[EO]at he;cases ho:s.obj k with
  |none=>simp[ho]at he|some o=>
   cases o with
   |map=>simp[ho]at he|it=>simp[ho]at he|dead=>simp[ho]at he|box x=>
    simp only[ho]at he;cases hx:x.at q with
    |d τ cc=>
     simp only[hx,eu,gb]at he;obtain⟨rfl,rfl,rfl⟩:=he;rcases Gw hr with⟨_,rfl,a,rfl⟩|⟨b,τ0,o0,m,cap,a,a1,a2,a3,rfl,a4,a5,a6,a7,_⟩;{refine⟨0,[],?_,by simp,by unfold maxLen;omega,by rw[gz];exact ed _,fun i c' hi=>by simp at hi⟩;cases a with|none=>exact tc w hu 0|some ad=>exact oe w hu _ 0 0 [] (by simp) (by simp) (by simp)};obtain⟨b',cells,T,g1,g2,g3,g4,g5,g6,g7,_⟩:=c.own a1 ho;obtain⟨fr0,g4,xk⟩:=g4;rw[a1]at g1;cases g1;obtain⟨q1,q2,q3⟩:=g6.at_ a2 (by rw[hx];simp) g7;rw[hx]at q1 q3;simp only[V.ty]at q1;subst q1;simp only[AA,AH]at q3;obtain⟨cs,rfl,r1,r2,r3,r4⟩:=q3;simp only[bq];rw[EC _ _ _ (by simpa using g5)]at q2;have hlen:((cs.drop lo).take n).length=n:=by simp;omega
     have hmul:(lo+n)*e'.size<=m*e'.size:=cr _ a3;rw[dr]at hmul;simp only[ig]at q2 r2 r4;have xh:o0+lo*e'.size+n*e'.size<=cells.toList.length:=by simp;omega
     have hnl:(chunk cells.toList (o0+lo*e'.size) (n*e'.size)).length=n*e'.size:=EC _ _ _ xh;have xd:∀i c',((cs.drop lo).take n)[i]? =some c'->AH Γ.H e' (chunk (chunk cells.toList (o0+lo*e'.size) (n*e'.size)) (i*e'.size) e'.size) c':=by intro i c' hi;rw[fh]at hi;split at hi;{rename_i hin;rw[iz]at hi;have:=r4 _ _ hi;have hle:(i+1)*e'.size<=n*e'.size:=cr _ hin;have z4f:(lo+i+1)*e'.size<=m*e'.size:=cr _ (by omega);rw[dr,dr]at z4f;rw[dr]at hle this;rw[EK _ _ _ _ _ (by omega),EK _ _ _ _ _ (by omega)]at this;rw[EK _ _ _ _ _ (by omega)];rw[show 0+(o0+(lo*e'.size+i*e'.size))=o0+lo*e'.size+i*e'.size by omega]at this;exact this};{cases hi}
     rcases ng n with h0|h0;{subst h0;refine⟨0,[],?_,hlen,by omega,by rw[gz];exact ed _,fun i c' hi=>by simp at hi⟩;cases a with|none=>exact tc w hu cap|some ad=>exact oe w hu _ 0 cap [] (by simp) (by simp) (by simp)}
     ·have ha:a=some ⟨b,o0+lo*e'.size,none⟩:=by rcases a4 with h|h;· omega
                                                ·exact h
      subst ha;exact⟨n,_,oe w hu _ n cap _ hnl (fun j u hj=>by rw[IA];exact gZ (r:=[]) g4 (by simp) hj) (OO hlen hnl xd),hlen,by omega,a7,xd⟩
    |_=>simp[hx]at he
theorem q7f {Y:V} {v:Value} (hr:AE Γ Y v) (hY:Y.isStr) {tx:TypeId} (hu:P.underlying tx=some .string):
  ∃n news,Src P 1 tx v n news w/\(Y.toStr.map fun b=>C.int b.toNat).length=n/\n<=maxLen/\n*1<=140737488355328/\
   ∀i c',(Y.toStr.map fun b=>C.int b.toNat)[i]? =some c'->AH Γ.H (.int .u8) (chunk news (i*1) 1) c':=by
 obtain⟨cc,rfl⟩:=V.Lz hY;obtain⟨rfl,_,hl⟩:=Hq hr;have hsz:(⟨cc.toStr.toArray⟩:ByteArray).size=cc.toStr.length:=by simp[ByteArray.size]
 refine⟨cc.toStr.length,byteCells ⟨cc.toStr.toArray⟩,?_,by simp[V.toStr],by unfold maxLen;omega,by omega,fun i c' hi=>?_⟩
 ·have:=Src.ofString w hu (⟨cc.toStr.toArray⟩:ByteArray)
  rwa [hsz]at this
 ·simp only[V.toStr,dx]at hi;cases hc:cc.toStr[i]? with
  |none=>simp[hc]at hi|some b=>
   simp[hc]at hi;subst hi;have:chunk (byteCells ⟨cc.toStr.toArray⟩) (i*1) 1=[.int .u8 b.toNat]:=by
    apply fg;intro j;rw[Dg];by_cases hj:j<1
    ·have:j=0:=by omega
     subst this;simp[byteCells,hc]
    ·simp[hj]
   rw[this];simp only[AH];refine⟨_,rfl,rfl,?_,?_⟩
   ·have:IntKind.u8.min=0:=by decide
    omega
   ·have:IntKind.u8.max=255:=by decide
    have:=b.toNat_lt;omega
end
theorem Ye {H:Hp} {e:Ty} {n m:Nat} {xs ys:List C} {olds news rest:List Value} (h1:xs.length=n) (h2:ys.length=m) (h3:olds.length=n*e.size) (h4:news.length=m*e.size)
  (hx:∀i c',xs[i]? =some c'->AH H e (chunk olds (i*e.size) e.size) c') (hy:∀i c',ys[i]? =some c'->AH H e (chunk news (i*e.size) e.size) c'):
  ∀i c',(xs++ys)[i]? =some c'->AH H e (chunk (olds++news++rest) (i*e.size) e.size) c':=by
 intro i c' hi;by_cases hlt:i<n;{rw[ga (by omega)]at hi;have:=hx i c' hi;have hb:(i+1)*e.size<=n*e.size:=cr _ (by omega);rw[dr]at hb;rw[jh,NL _ _ _ _ (by omega)];exact this}
 ·rw[ia (by omega),h1]at hi;have hil:i-n<m:=by rw[<-h2];exact(cm.1 hi).1
  have:=hy _ c' hi;have hb:(i-n+1)*e.size<=m*e.size:=cr _ (by omega);rw[dr]at hb;have hmul:i*e.size=n*e.size+(i-n)*e.size:=by rw[<-dr];congr 1;omega
  have e1:chunk (olds++news++rest) (i*e.size) e.size=chunk news ((i-n)*e.size) e.size:=by simp only[chunk,jh];rw[hmul,<-h3,po,jt (by omega),jm,Nat.add_sub_cancel_left,List.drop_append_of_le_length (by omega),py (by simp;omega)]
  rw[e1];exact this
end
section
def Af (P:Program) (T:TypeId):TypeId:=match P.underlying T with|some (.slice e)=>e|_=>0
section
variable {P:Program} {Γ:G} {w w':World} {s:S}
theorem LJ (hP:Al P=true) {T:TypeId} {eb:Nat} {e:Ty} (h:ty P T= .slice eb e):
  P.underlying T=some (.slice (Af P T))/\e=tyF P 11 (Af P T)/\eb=P.bytesOf (Af P T)/\Af P T<P.types.size:=by
 obtain⟨E,h1,h2,h3,h4⟩:=Hx hP h;have:Af P T=E:=by simp[Af,h1]
 rw[this];exact⟨h1,h2,h3,h4⟩
theorem LP {T:TypeId} (h:CE P T=true):∃i z,P.info? T=some i/\i.zero=some z/\Dw (ty P T) z.cells.toList=true/\Dw (tyF P 11 T) z.cells.toList=true:=by
 unfold CE at h;cases hi:P.info? T with
 |none=>simp[hi]at h|some i=>
  cases hz:i.zero with
  |none=>simp[hi,hz]at h|some z=>simp[hi,hz]at h;exact⟨i,z,rfl,hz,h.1.1,h.2⟩
theorem Mk {τ:Ty} {vs:List Value} (h:Dw τ vs=true):vs.length=τ.size:=(GY (H:=fun _=>none) h).length
theorem cV {w w':World} {b:Nat} {o:Obj} (hw:w'.heap[b]? =some o) (oth:∀b',b'≠b->w'.heap[b']? =w.heap[b']?):w.heap.size<=w'.heap.size:=by
 cases ko w'.heap.size w.heap.size with
 |inr h=>exact h|inl hlt=>
  have h1:=Hj hw;have h3:=oth w'.heap.size (by omega);rw[Array.getElem?_eq_none (cn _),ee hlt]at h3;cases h3
theorem AJ.q16 (c:AJ Γ w s) {t L L' b pos sz:Nat} {l ws r:List Value} {xc:Array Value} {T:TypeId} (hl:s.live t=some L) (hτ:Γ.τ t=some (some (b,pos,sz),L)) (hw:w'.heap[b]? =some (.cells xc T (0,0)))
  (hH:Γ.H b=some l) (hκ:Γ.κ b=some (.tok t,sz)) (z5k:xc.toList=l++ws++r) (hsz:xc.size=sz) (oth:∀b',b'≠b->w'.heap[b']? =w.heap[b']?) (hLL:L<L') (hoo:oof w'=oof w):
  ∃Γ',Γ'.H b=some (l++ws)/\Γ'.τ t=some (some (b,(l++ws).length,sz),L')/\AJ Γ' w' {s with tk:=(t,some L')::s.tk}/\BZ Γ Γ'/\GLe Γ Γ':=by
 have hz:Γ.Z b=none:=(c.hκ b _ _ hκ).1;refine⟨{Γ with H:=Bl Γ.H b (l++ws),τ:=Bl Γ.τ t (some (b,(l++ws).length,sz),L')},DD _ _ _,DD _ _ _,?_⟩;have hle:Γ.H.le (Bl Γ.H b (l++ws)):=by intro b' l' h;by_cases e:b'=b;{subst e;rw[hH]at h;cases h;exact⟨ws,DD _ _ _⟩};{exact⟨[],by rw[Eg _ _ e,h];simp⟩}
 have hp:BZ Γ {Γ with H:=Bl Γ.H b (l++ws),τ:=Bl Γ.τ t (some (b,(l++ws).length,sz),L')}:=by refine⟨hle,fun _ _ h=>h,fun u y M h=>?_,fun _ _ h=>h⟩;by_cases e:u=t;{subst e;rw[hτ]at h;cases h;exact⟨_,L',DD _ _ _,by omega,fun e=>by omega⟩};{exact⟨y,M,(Eg _ _ e).trans h,cn _,fun _=>rfl⟩}
 refine⟨?_,hp,⟨hle,rfl,fun b' h=>Eg _ _ (fun e=>by subst e;exact h hz),fun _ _ h=>h,rfl,rfl,fun _ _ h=>h,fun _ h=>h⟩⟩;refine c.change hp rfl rfl rfl hoo (fun b' l' h=>?_) (fun b' h=>oth b' (fun e=>by subst e;exact h hz)) (fun b' o sz' h=>?_) (fun k o h=>?_) (fun _ h _=>h) c.dom (fun b' sz' h=>?_) c.inj (fun u M h=>?_) (fun u h=>?_) (cV hw oth)
 ·by_cases e:b'=b
  ·subst e;have h':l++ws=l':=by simpa[Bl]using h
   subst h';exact⟨xc,T,(0,0),r,hw,z5k⟩
  ·have h':Γ.H b'=some l':=by simpa[Bl,e]using h
   rw[oth b' e];exact c.hH b' l' h'
 ·have h':Γ.κ b'=some (o,sz'):=h;by_cases e:b'=b;{subst e;rw[hκ]at h';cases h';exact⟨hz,by simp[Bl],xc,T,hw,hsz,trivial⟩};{obtain⟨a1,a2,a3⟩:=c.hκ b' o sz' h';exact⟨a1,by simpa[Bl,e]using a2,by rw[oth b' e];exact a3⟩}
 ·refine .inl ⟨h,fun hd=>⟨fun b' p sz' hb=>?_,fun b' τ hb=>?_⟩⟩
  ·have hb':Γ.κ b'=some (.home k p,sz'):=hb;have e:b'≠b:=by intro e;subst e;rw[hκ]at hb';cases hb'
   exact⟨rfl,Eg _ _ e⟩
  ·obtain⟨a1,a2,a3,_⟩:=c.EY hb h hd;have e:b'≠b:=by intro e;subst e;rw[hH]at a1;cases a1
   exact⟨oth b' e,by simpa[Bl,e]using a1⟩
 ·obtain⟨arr,T1,fr,a1,a2⟩:=c.hσ b' sz' h;by_cases e:b'=b;{subst e;obtain⟨_,_,arr2,T2,a3,a4,_⟩:=c.hκ b' _ _ hκ;rw[a1]at a3;cases a3;exact⟨xc,T,(0,0),hw,by omega⟩};{exact⟨arr,T1,fr,by rw[oth b' e];exact a1,a2⟩}
 ·rw[MG]at h;split at h;{rename_i e;subst e;cases h;refine⟨_,DD _ _ _,fun b' pos' sz' e=>?_⟩;cases e;exact⟨⟨_,DD _ _ _,rfl⟩,hκ⟩}
  ·rename_i e;have e':u≠t:=fun h'=>e h'.symm;obtain⟨y,h1,h2⟩:=c.tok u M h;refine⟨y,(Eg _ _ e').trans h1,fun b' pos' sz' hy=>?_⟩;obtain⟨a1,a2⟩:=h2 b' pos' sz' hy;have e2:b'≠b:=by intro e2;subst e2;rw[hκ]at a2;simp at a2;exact e a2.1
   exact⟨by simpa[Bl,e2]using a1,a2⟩
 ·rw[MB];by_cases e:t=u;{simp[e]};{have e':u≠t:=fun h'=>e h'.symm;simp only[e,decide_false,ju];refine c.xg u ?_;simpa[Bl,e']using h}
theorem AJ.q4u (c:AJ Γ w s) {t L L' b sz:Nat} {x:Option (Nat × Nat × Nat)} {l:List Value} {arr:Array Value} {T:TypeId} (hτ:Γ.τ t=some (x,L)) (hw:w.heap[b]? =some (.cells arr T (0,0)))
  (hH:Γ.H b=some l) (hκ:Γ.κ b=none) (hz:Γ.Z b=none) (hsz:arr.size=sz) (hLL:L<L'):
  ∃Γ',Γ'.H=Γ.H/\Γ'.τ t=some (some (b,l.length,sz),L')/\AJ Γ' w {s with tk:=(t,some L')::s.tk}/\BZ Γ Γ'/\GLe Γ Γ':=by
 refine⟨{Γ with τ:=Bl Γ.τ t (some (b,l.length,sz),L'),κ:=Bl Γ.κ b (.tok t,sz)},rfl,DD _ _ _,?_⟩;have oκ:∀b' o,Γ.κ b'=some o->Bl Γ.κ b (.tok t,sz) b'=some o:=by
  intro b' o h;have:b'≠b:=by intro e;subst e;rw[hκ]at h;cases h
  rw[Eg _ _ this,h]
 have hp:BZ Γ {Γ with τ:=Bl Γ.τ t (some (b,l.length,sz),L'),κ:=Bl Γ.κ b (.tok t,sz)}:=by refine⟨ij _,fun _ _ h=>h,fun u y M h=>?_,fun _ _ h=>h⟩;by_cases e:u=t;{subst e;rw[hτ]at h;cases h;exact⟨_,L',DD _ _ _,by omega,fun e=>by omega⟩};{exact⟨y,M,(Eg _ _ e).trans h,cn _,fun _=>rfl⟩}
 refine⟨?_,hp,⟨ij _,rfl,fun _ _=>rfl,fun _ _ h=>h,rfl,rfl,fun _ _ h=>h,fun _ h=>h⟩⟩;refine c.change hp rfl rfl rfl rfl c.hH (fun b' _=>rfl) (fun b' o sz' h=>?_) (fun k o h=>?_) (fun _ h _=>h) c.dom c.hσ c.inj (fun u M h=>?_) (fun u h=>?_) (cn _)
 ·by_cases e:b'=b
  ·subst e;have h':sz=sz':=by have:=h;simp[Bl]at this;exact this.2
   subst h';exact⟨hz,by rw[hH];simp,arr,T,hw,hsz,by have:=h;simp[Bl]at this;rw[<-this];trivial⟩
  ·exact c.hκ b' o sz' ((Eg _ _ e).symm.trans h)
 ·refine .inl ⟨h,fun hd=>⟨fun b' p sz' hb=>⟨(oκ b' _ hb).trans hb.symm,rfl⟩,fun b' τ hb=>?_⟩⟩;obtain⟨a1,_⟩:=c.EY hb h hd;exact⟨rfl,a1⟩
 ·rw[MG]at h;split at h;{rename_i e;subst e;cases h;refine⟨_,DD _ _ _,fun b' pos' sz' e=>?_⟩;cases e;exact⟨⟨l,hH,rfl⟩,DD _ _ _⟩};{rename_i e;have e':u≠t:=fun h'=>e h'.symm;obtain⟨y,h1,h2⟩:=c.tok u M h;refine⟨y,(Eg _ _ e').trans h1,fun b' pos' sz' hy=>?_⟩;obtain⟨a1,a2⟩:=h2 b' pos' sz' hy;exact⟨a1,oκ b' _ a2⟩}
 ·rw[MB];by_cases e:t=u;{simp[e]};{have e':u≠t:=fun h'=>e h'.symm;simp only[e,decide_false,ju];refine c.xg u ?_;simpa[Bl,e']using h}
theorem AJ.q6J (c:AJ Γ w s) {t L:Nat} (hl:s.live t=some L):AJ Γ w {s with tk:=(t,some L)::s.tk}:=by refine c.congr (fun _=>rfl) (fun u=>?_) (fun u h=>?_);{rw[MG];split;{rename_i e;rw[<-e,hl]};{rfl}};{rw[MB,h];simp}
theorem cR (b:Nat):∀(vs:List Value) (o:Nat) (w:World) (arr:Array Value) (T:TypeId) (fr:Nat × Nat),w.heap[b]? =some (.cells arr T fr)->o+vs.length<=arr.size->
  ∃xc,(w.setCells b o vs).heap[b]? =some (.cells xc T fr)/\xc.toList=Bh arr.toList o vs
 | [],o,w,arr,T,fr,h,_=>⟨arr,h,by simp[Bh]⟩|v::vs,o,w,arr,T,fr,h,hl=>by
  have h1:(w.setCell ⟨b,o,none⟩ v).heap[b]? =some (.cells (arr.setIfInBounds o v) T fr):=by simp[vm,rz,h]
  obtain⟨xc,h2,h3⟩:=cR b vs (o+1) _ _ T fr h1 (by simp at hl ⊢;omega);refine⟨xc,h2,?_⟩;rw[h3];apply fg;intro j;simp only[dq]at hl;rw[Fh (by simp;omega),Fh (by simp;omega)];simp only[dq,kq,jv,im];by_cases h4:o+1<=j/\j<o+1+vs.length;{rw[if_pos h4,if_pos (by omega),show j-o=(j-(o+1))+1 by omega,fu]};{rw[if_neg h4];by_cases h5:o=j;{subst h5;rw[if_pos rfl,if_pos (by omega),if_pos (by omega)];simp};{rw[if_neg h5,if_neg (by omega)]}}
theorem cS (b:Nat):∀(vs:List Value) (o:Nat) (w:World) (b':Nat),b'≠b->(w.setCells b o vs).heap[b']? =w.heap[b']?
 | [],_,_,_,_=>rfl|v::vs,o,w,b',h=>by rw[World.setCells,cS b vs _ _ b' h];have hb:b≠b':=fun e=>h e.symm;simp[vm,rz,hb]
def Mx (o:Oper) (x y:Operand) (t t':TypeId):Prop:=o.op= .call {callee:=.builtin .append,args:=#[x,y],argTypes:=#[t,t']}
theorem KF {o:Oper} {x y:Operand} {t t':TypeId} (ho:Mx o x y t t') {ρ:Operand->Value} {w w':World} {v:Value}
  (h:(mg #[t,t'] o.type #[ρ x,ρ y]).run P w= .ok v w'):(execOp ρ o).run P w= .ok (.value v) w':=by
 unfold Mx at ho;unfold execOp;simp[ho,resolve,invoke,builtin,h]
theorem vV {t tx T:TypeId} {E:TypeId} {i:TypeInfo} (ht:P.underlying t=some (.slice E)) (hi:P.info? E=some i) {a:Option Addr} {n cap:Nat} {x:Value} {news:List Value} (hs:Src P i.size tx x 0 news w) (h:n<=cap):
  (mg #[t,tx] T #[.slice a n cap,x]).run P w= .ok (.slice a n cap) w:=by
 have hn:news=[]:=gm (by rw[hs.newsLen];simp);subst hn;rcases hs.kind with⟨e',hk⟩|hk <;> cases a <;> simp[mg,run_underlying ht,run_underlying hk,sizeOf,typeInfo,hi,hs.len,h,hs.cells,storeCells]
def KI (P:Program) (s:S) (t':TypeId) (eb:Nat) (e:Ty) (Y:V) (ys:List C):Prop:=
 ((∃E',P.underlying t'=some (.slice E'))/\(EO s Y=some (eb,e,ys)\/(Y= .wk/\ys=[])))\/
 (P.underlying t'=some .string/\Y.isStr/\e= .int .u8/\eb=1/\ys=Y.toStr.map fun b=>C.int b.toNat)
theorem SZ (c:AJ Γ w s) {t':TypeId} {Y:V} {v:Value} {eb:Nat} {e:Ty} {ys:List C} (hr:AE Γ Y v) (h:KI P s t' eb e Y ys):
  ∃n news,Src P e.size t' v n news w/\ys.length=n/\n<=maxLen/\n*eb<=140737488355328/\∀i c',ys[i]? =some c'->AH Γ.H e (chunk news (i*e.size) e.size) c':=by
 rcases h with⟨⟨E',hu⟩,h|⟨rfl,rfl⟩⟩|⟨hu,h1,rfl,rfl,rfl⟩;{exact WA c hr h hu};{rw[FO hr];exact⟨0,[],tc w hu 0,rfl,ed _,by rw[gz];exact ed _,fun i c' hi=>by simp at hi⟩};{exact q7f hr h1 hu}
theorem nM (c:AJ Γ w s):Γ.κ w.heap.size=none/\Γ.Z w.heap.size=none:=by refine⟨?_,?_⟩;{cases hh:Γ.κ w.heap.size with|none=>rfl|some x=>exact absurd (c.κlt (by rw[hh];simp)) (ow _)};{cases hh:Γ.Z w.heap.size with|none=>rfl|some x=>exact absurd (c.Zlt (by rw[hh];simp)) (ow _)}
theorem jT (hP:Al P=true) (c:AJ Γ w s) {o:Oper} {a:Act} {x y:Operand} {t t':TypeId} {n:Nat} {X Y:V} {ys:List C} {eb:Nat} {e:Ty} (ho:Mx o x y t t')
  (ht:ty P t= .slice eb e) (hz:CE P (Af P t)=true) (hn:s.known n=false)
  (hx:AE Γ X (a.eval x)) (hX:X= .wk\/∃eb' e',X= .emp eb' e') (hy:AE Γ Y (a.eval y)) (hel:KI P s t' eb e Y ys):
  Ar P o a w (BP Γ w {s with tk:=(n,some ys.length)::s.tk} (.sl eb e ys n)):=by
 obtain⟨hu,he,heb,hE⟩:=LJ hP ht;obtain⟨a0,hx0⟩:∃a0,a.eval x= .slice a0 0 0:=by rcases hX with rfl|⟨eb',e',rfl⟩;{exact⟨none,FO hx⟩};{obtain⟨h1,_⟩:=(Bx rfl rfl).1 hx;simp only[AA]at h1;obtain⟨a0,h1⟩:=h1;exact⟨a0,by simpa using h1⟩}
 obtain⟨m,news,hs,r1,r2,r3,r4⟩:=SZ c hy hel;obtain⟨i,z,hi,hzz,hzo,zb⟩:=LP hz;have hcz:=Mk hzo;have hsz:i.size=e.size:=by have:=DJ hP 11 (Af P t);rw[he,this];simp[iw,hi]
 have hby:i.bytes=eb:=by rw[heb];simp[pk,hi]
 rw[<-hsz]at hs;by_cases hm:m=0;{subst hm;have hys:ys=[]:=gm r1;subst hys;obtain⟨c1,p1,g1⟩:=c.DX hn (x:=none) (L:=0) (fun _ _ _ h=>by cases h);refine Ar.val (v:=.slice a0 0 0) (w':=w) (KF ho ?_) ⟨_,g1,p1,c1,(Bx rfl rfl).2 ⟨?_,rfl⟩⟩;{rw[hx0];exact vV hu hi hs (cn _)};{simp only[AA];exact⟨a0,0,0,rfl,Dv rfl (cn _) (ed _) (by rw[gz];exact ed _) (.inl rfl),none,0,by simp[G.DX,Bl],cn _,fun _=>rfl⟩}}
 ·have xr:((0+m:Nat):Int)<=9223372036854775807:=by unfold maxLen at r2;omega
  have hge:=grownCap_ge w (0+m) 0 (Af P t);have hcm:=grownCap_le_maxLen w (0+m) 0 (Af P t) (by omega);have hold:(gf i.size 0 (.slice a0 0 0)).run P w.drew= .ok ([]:List Value).toArray w.drew:=by
   cases a0 with
   |none=>exact run_firstCells_none w.drew i.size 0 0 0|some ad=>exact run_firstCells_some w.drew i.size 0 ad 0 0 [] (by simp) (by simp)
  have run:=run_append_grow_src (P:=P) w t t' o.type _ i z hu hi hzz a0 0 0 [] hold (a.eval y) m news hs (by omega) xr (by
   rw[hby];exact growslice_fits (by omega) (by rw[cf];exact r3))
  rw[<-hx0]at run;have he:Ext w (w.drew.alloc (.cells ((([]:List Value)++news).toArray++fl z.cells (grownCap w (0+m) 0 (Af P t)-(0+m))) (Af P t))):=(Ext.drew w).trans (Ext.alloc _ _);have xe:=heap_alloc_new w.drew (.cells ((([]:List Value)++news).toArray++fl z.cells (grownCap w (0+m) 0 (Af P t)-(0+m))) (Af P t));obtain⟨c1,p1,g1⟩:=c.Dz he (l:=news) (r:=(fl z.cells (grownCap w (0+m) 0 (Af P t)-(0+m))).toList) xe (by simp);obtain⟨k1,k2⟩:=nM c;have hzc:z.cells.size=e.size:=by have h1:=DJ hP 11 (Af P t);have h2:=Mg hP (Af P t);rw[‹e=_›,h1,<-h2,<-hcz];simp
  have hnl:news.length=m*e.size:=by rw[hs.newsLen,hsz]
  have yb:((([]:List Value)++news).toArray++fl z.cells (grownCap w (0+m) 0 (Af P t)-(0+m))).size=grownCap w (0+m) 0 (Af P t)*e.size:=by simp only[jm,ti,iu,size_zeroCells,hzc,hnl,<-dr];congr 1;omega
  obtain⟨c2,p2,g2⟩:=c1.DX (t:=n) hn (x:=some (w.heap.size,news.length,grownCap w (0+m) 0 (Af P t)*e.size)) (L:=ys.length) (fun b pos sz h=>by
   cases h;exact⟨k1,k2,⟨news,DD _ _ _,rfl⟩,_,_,xe,yb⟩)
  refine Ar.val (KF ho run) ⟨_,g1.trans g2,p1.trans p2,c2,(Bx rfl rfl).2 ⟨?_,rfl⟩⟩;simp only[AA];rw[show 0+m=m by omega]at hge hcm ⊢;refine⟨_,m,_,rfl,Dv r1 hge hcm r3 (.inr ⟨w.heap.size,0,news,rfl,DD _ _ _,by omega,fun i c' hi=>?_⟩),_,_,DD _ _ _,cn _,fun _=>⟨rfl,hnl.symm,cn _⟩⟩;rw[cf];exact(r4 i c' hi).mono p1.H
theorem q0q (hP:Al P=true) (c:AJ Γ w s) {o:Oper} {a:Act} {x y:Operand} {t t':TypeId} {tk:Nat} {Y:V} {cs ys:List C} {eb:Nat} {e:Ty} (ho:Mx o x y t t')
  (ht:ty P t= .slice eb e) (hz:CE P (Af P t)=true) (hl:s.live tk=some cs.length)
  (hx:AE Γ (.sl eb e cs tk) (a.eval x)) (hy:AE Γ Y (a.eval y)) (hel:KI P s t' eb e Y ys) (hlen:(cs.length+ys.length)*eb<=140737488355328) (z4x:cs.length+ys.length<=maxLen):
  Ar P o a w (BP Γ w {s with tk:=(tk,some (cs.length+ys.length))::s.tk} (.sl eb e (cs++ys) tk)):=by
 obtain⟨hu,he,heb,hE⟩:=LJ hP ht;obtain⟨m,news,hs,r1,r2,r3,r4⟩:=SZ c hy hel;obtain⟨n,olds,hso,o1,o2,o3,o4⟩:=WA (P:=P) (tx:=t) c hx (show EO s (.sl eb e cs tk)=some (eb,e,cs) from rfl) hu;obtain⟨h1,_⟩:=(Bx rfl rfl).1 hx;simp only[AA]at h1;obtain⟨aa,n',cap,hv,hrc,x0,L0,hτ,hL1,hL2⟩:=h1;simp at hv;obtain⟨x1,hτ1,z5l⟩:=c.tok tk _ hl;rw[hτ]at hτ1;cases hτ1;have hL2:=hL2 rfl;obtain⟨_,n1,z5m,e1,_,e2,hle,zy,hnb,hm⟩:=Ic hrc;simp at e1;obtain⟨rfl,rfl,rfl⟩:=e1;simp only[bq]at e2 hm;have hnn:n=n':=by omega
 subst hnn;obtain⟨i,z,hi,hzz,hzo,zb⟩:=LP hz;have hcz:=Mk hzo;have hsz:i.size=e.size:=by have:=DJ hP 11 (Af P t);rw[he,this];simp[iw,hi]
 have hby:i.bytes=eb:=by rw[heb];simp[pk,hi]
 have hzc:z.cells.size=e.size:=by have h1:=DJ hP 11 (Af P t);have h2:=Mg hP (Af P t);rw[‹e=_›,h1,<-h2,<-hcz];simp
 rw[<-hsz]at hs hso;have hnl:news.length=m*e.size:=by rw[hs.newsLen,hsz]
 have hol:olds.length=n*e.size:=by rw[hso.newsLen,hsz]
 by_cases hm0:m=0;{subst hm0;have hys:ys=[]:=gm r1;subst hys;refine Ar.val (v:=.slice aa n cap) (w':=w) (KF ho ?_) ⟨Γ,.refl Γ,.refl Γ,?_,?_⟩;{rw[hv];exact vV hu hi hs hle};{exact c.q6J (by simpa using hl)};{rw[ur,<-hv];exact hx}}
 ·have hys:0<ys.length:=by omega
  have z4y:(cs++ys).length=n+m:=by rw[da,o1,r1]
  have hmx:n+m<=maxLen:=by omega
  have xr:((n+m:Nat):Int)<=9223372036854775807:=by unfold maxLen at hmx;omega
  have hbb:(n+m)*eb<=140737488355328:=by rw[<-o1,<-r1];exact hlen
  by_cases yg:n+m<=cap
  · -- in the room behind
   cases x0 with
   |none=>simp only at hL2;omega|some y0=>
    obtain⟨b,pos,sz⟩:=y0;simp only at hL2;obtain⟨rfl,z4g,hcs⟩:=hL2;obtain⟨⟨l,hH,hlp⟩,hκ⟩:=z5l b pos sz rfl;obtain⟨hZ,_,arr,T,hw,has,_⟩:=c.hκ b _ _ hκ;have yu:n*e.size+m*e.size<=arr.size:=by rw[has,<-dr];exact oh (cr _ yg) hcs
    have run:=run_append_room_src (P:=P) w t t' o.type _ i hu hi b 0 n cap (a.eval y) m news hs yg
     (fun j hj=>by
      rw[hnl]at hj;simp[lj,hw];rw[hsz];omega)
     (fun j hj=>by simp[vl,hw])
    rw[<-hv]at run;rw[cf,hsz]at run;obtain⟨xc,hw',zg⟩:=cR b news (n*e.size) w arr T (0,0) hw (by rw[hnl];exact yu);obtain⟨arr0,T0,fr0,r0,hw0,hl0⟩:=c.hH b l hH;rw[hw]at hw0;cases hw0;have z4J:xc.toList=l++news++r0.drop news.length:=by rw[zg,hl0];unfold Bh;rw[z4g,<-hlp,List.take_left',po,jt (by omega)];{simp};{rfl}
    obtain⟨Γ',q1,q2,q3,q4,q5⟩:=c.q16 (w':=w.setCells b (n*e.size) news) hl hτ hw' hH hκ z4J (by rw[<-has,<-im,<-im,zg,Hu (by rw[hnl];simpa using yu)])
     (fun b' hb'=>cS b news _ w b' hb') (show cs.length<cs.length+ys.length by omega) (by unfold oof;rw[World.os_setCells,World.output_setCells])
    refine Ar.val (KF ho run) ⟨Γ',q5,q4,q3,(Bx rfl rfl).2 ⟨?_,rfl⟩⟩;simp only[AA];refine⟨_,n+m,cap,rfl,Dv z4y yg zy hbb (.inr ⟨b,0,l++news,rfl,q1,?_,fun j c' hj=>?_⟩),_,_,q2,by rw[da];exact cn _,fun _=>⟨rfl,?_,hcs⟩⟩;{simp only[da,hnl,hlp];rw[dr];omega}
    ·rw[cf];have hold:∀i c',cs[i]? =some c'->AH Γ'.H e (chunk l (i*e.size) e.size) c':=by intro i' c'' hi';rcases hm with hm|⟨b1,off,l1,e1,hb1,hs1,hc1⟩;{have:=(cm.1 hi').1;omega};{simp at e1;obtain⟨rfl,rfl⟩:=e1;rw[hH]at hb1;cases hb1;have:=hc1 i' c'' hi';rw[cf]at this;exact this.mono q4.H}
     have xe:∀i c',ys[i]? =some c'->AH Γ'.H e (chunk news (i*e.size) e.size) c':=fun i c' hi=>(r4 i c' hi).mono q4.H;have:=Ye (rest:=[]) e2 r1 (by rw[hlp];exact z4g.symm) hnl hold xe j c' hj;simpa using this
    ·simp only[da,hnl,hlp,dr,z4g]
  · -- a new block
   have hge:=grownCap_ge w (n+m) cap (Af P t);have hcm:=grownCap_le_maxLen w (n+m) cap (Af P t) hmx;have z30:(gf i.size n (.slice aa n cap)).run P w.drew= .ok olds.toArray w.drew:=by rw[<-hv];exact hso.cellsD
   have run:=run_append_grow_src (P:=P) w t t' o.type _ i z hu hi hzz aa n cap olds z30 (a.eval y) m news hs (by omega) xr (by
    rw[hby];exact growslice_fits (by omega) hbb)
   rw[<-hv]at run;have yo:Ext w (w.drew.alloc (.cells ((olds++news).toArray++fl z.cells (grownCap w (n+m) cap (Af P t)-(n+m))) (Af P t))):=(Ext.drew w).trans (Ext.alloc _ _);have xe:=heap_alloc_new w.drew (.cells ((olds++news).toArray++fl z.cells (grownCap w (n+m) cap (Af P t)-(n+m))) (Af P t));obtain⟨c1,p1,g1⟩:=c.Dz yo (l:=olds++news) (r:=(fl z.cells (grownCap w (n+m) cap (Af P t)-(n+m))).toList) xe (by simp);obtain⟨k1,k2⟩:=nM c;have yb:((olds++news).toArray++fl z.cells (grownCap w (n+m) cap (Af P t)-(n+m))).size=grownCap w (n+m) cap (Af P t)*e.size:=by simp only[ti,iu,da,size_zeroCells,hzc,hnl,hol,<-dr];congr 1;omega
   obtain⟨Γ',q1,q2,q3,q4,q5⟩:=c1.q4u (t:=tk) (L':=cs.length+ys.length) (show(Γ.Dz w.heap.size (olds++news)).τ tk=some (x0,cs.length) from hτ) xe (DD _ _ _) k1 k2 yb (by omega);refine Ar.val (KF ho run) ⟨Γ',g1.trans q5,p1.trans q4,q3,(Bx rfl rfl).2 ⟨?_,rfl⟩⟩;simp only[AA];have hll:(olds++news).length=(n+m)*e.size:=by rw[da,hol,hnl,dr]
   refine⟨_,n+m,_,rfl,Dv z4y hge hcm hbb (.inr ⟨w.heap.size,0,olds++news,rfl,by rw[q1];exact DD _ _ _,by omega,fun j c' hj=>?_⟩),_,_,q2,by rw[da];exact cn _,fun _=>⟨rfl,hll.symm,cn _⟩⟩;rw[cf];have z42:∀i c',cs[i]? =some c'->AH Γ'.H e (chunk olds (i*e.size) e.size) c':=fun i c' hi=>(o4 i c' hi).mono (p1.trans q4).H;have z43:∀i c',ys[i]? =some c'->AH Γ'.H e (chunk news (i*e.size) e.size) c':=fun i c' hi=>(r4 i c' hi).mono (p1.trans q4).H;have:=Ye (rest:=[]) e2 r1 hol hnl z42 z43 j c' hj;simpa using this
end
end
section
theorem YN {sz:Nat}:∀(vs:List Value) (i:Nat) (v:Value),(∀v∈vs,v.cells.size=sz)->vs[i]? =some v->chunk (vs.flatMap fun v=>v.cells.toList) (i*sz) sz=v.cells.toList
 | [],_,_,_,h=>by simp at h
 |u::vs,0,v,hs,h=>by simp at h;subst h;have:=hs u (by simp);simp only[chunk,gz,mb,tz];rw[py (by simp[this]),List.take_of_length_le (by simp[this])]
 |u::vs,i+1,v,hs,h=>by have hu:=hs u (by simp);have ih:=YN vs i v (fun v hv=>hs v (by simp[hv])) (by simpa using h);simp only[chunk,tz]at ih ⊢;rw[po,jt (by simp[hu,dr]),jm];rw[show(i+1)*sz-u.cells.toList.length=i*sz by simp[hu,dr]];exact ih
theorem lX (off:Nat):∀(l:List Value) (k:Nat) (cells:Array Value),off+k+l.length<=cells.size->
  ((l.zipIdx k).foldl (fun cs (p:Value × Nat)=>cs.setIfInBounds (off+p.2) p.1) cells).toList=cells.toList.take (off+k)++l++cells.toList.drop (off+k+l.length)
 | [],k,cells,_=>by simp
 |v::l,k,cells,h=>by
  simp only[dq]at h;simp only[List.zipIdx_cons,List.foldl_cons];rw[lX off l (k+1) _ (by simp;omega)];have hlt:off+k<cells.toList.length:=by simp;omega
  simp only[kq,dq];rw[show off+(k+1)=off+k+1 by omega,List.take_add_one];simp only[jv,if_true,hlt];rw[List.take_set_of_le (cn _),List.drop_set_of_lt (by omega)];rw[show off+k+1+l.length=off+k+(l.length+1) by omega];simp
theorem q1J {place:Nat->Option (Nat × Nat)} {cells:Array Value} {i off size:Nat} {v:Value} {rest:List (Nat × Value)} (hp:place i=some (off,size)) (hv:v.cells.size=size) (hl:off+size<=cells.size):
  ∃wz,wz.toList=Bh cells.toList off v.cells.toList/\ou place cells ((i,v)::rest)=ou place wz rest:=by
 refine⟨v.cells.zipIdx.foldl (fun cs (c,j)=>cs.setIfInBounds (off+j) c) cells,?_,?_⟩;{rw[<-Array.foldl_toList,Array.toList_zipIdx];have:=lX off v.cells.toList 0 cells (by simp;omega);simpa[Bh]using this};{simp only[ou,hp];rw[if_neg];simp[hv];omega}
def CC (τ:Ty) (y:V):V:=
 match y,τ with
 | .wk,.slice eb e=>.emp eb e|y,_=>y
def JY (τ:Ty):V->List (Nat × V)->V
 |x,[]=>x|x,(i,v)::rest=>JY τ (x.setAt [i] (CC (τ.get i) v)) rest
def Ld (τ:Ty):V->List (Nat × V)->Prop
 |_,[]=>True|x,(i,v)::rest=>(τ.child i).isSome=true/\(CC (τ.get i) v).ty=τ.get i/\(CC (τ.get i) v).plain=true/\x.at [i]≠.any/\Ld τ (x.setAt [i] (CC (τ.get i) v)) rest
section
variable {P:Program} {Γ:G} {w w':World} {s:S}
theorem Wl {τ:Ty} {y:V} {v:Value} (h:AE Γ y v):AE Γ (CC τ y) v:=by unfold CC;split;{rw[FO h];exact Oh};{exact h}
theorem Vm {T:TypeId} {τ:Ty} (hP:Al P=true) (ht:ty P T=τ) (hk:τ.known=true) {b off:Nat} {arr:Array Value} {E:TypeId} {fr:Nat × Nat} {w:World}
  (hb:w.heap[b]? =some (.cells arr E fr)) (hl:off+τ.size<=arr.size) (h1:DR (chunk arr.toList off τ.size)):
  ∃v,(loadVar T ⟨b,off,none⟩).run P w= .ok v w/\v.cells.toList=chunk arr.toList off τ.size/\Ba v=τ.isAgg:=by
 have hno:∀s,τ≠.opq s:=by intro s e;subst e;simp[Ty.known]at hk
 have zp:=q6C (w:=w) ht hno;have hsz:=run_sizeOf (w:=w) hP (T:=T) (by intro s e;exact hno s (ht ▸ e));rw[ht]at hsz;unfold loadVar;cases ha:τ.isAgg with
 |true=>
  have hlen:(chunk arr.toList off τ.size).length=τ.size:=EC _ _ _ (by simpa using hl)
  have:=run_loadCells_list (P:=P) w ⟨b,off,none⟩ (chunk arr.toList off τ.size) (fun j v hv=>by
   rw[IA];rw[Dg]at hv;split at hv;{simp[lj,hb];simpa using hv}
   ·cases hv)
  rw[hlen]at this;refine⟨.agg (chunk arr.toList off τ.size).toArray,?_,by simp[fc],rfl⟩;simp[zp,ha,hsz,this]
 |false=>
  have h0:τ.size=1:=Ty.size_leaf hk ha;have hlt:off<arr.size:=by omega
  have hc:chunk arr.toList off τ.size=[arr[off]]:=by rw[h0];simp[chunk,List.drop_eq_getElem_cons (l:=arr.toList) (i:=off) (by simpa using hlt)]
  have yn:arr[off].oneCell'=true:=h1 _ (by rw[hc];simp);have hna:Ba arr[off]=false:=by cases hv:arr[off] <;> simp_all[Value.oneCell',Ba]
  refine⟨arr[off],?_,by rw[Cy hna,hc],hna⟩;have xw:w.cell? ⟨b,off,none⟩=some arr[off]:=by simp[lj,hb,ee hlt]
  simp[zp,ha,xw]
theorem ZS (hP:Al P=true) (c:AJ Γ w s) {T:TypeId} {k:Key} {q:List Nat} {τ:Ty} {x:V} {v:Value}
  (hr:AE Γ (.ptr k q τ) v) (ho:s.obj k=some (.box x)) (hne:x.at q≠.any) (ht:τ=ty P T) (hk:τ.known=true):
  ∃u,(kr T v).run P w= .ok u w/\AE Γ (view (x.at q)) u:=by
 obtain⟨b,τ0,o,h1,h2,rfl⟩:=GD hr;obtain⟨b',cells,E,e1,_,_,hb,hsz,xd,hxp,_⟩:=c.own (by assumption) ho;obtain⟨fr0,hb,xk⟩:=hb;rw[h1]at e1;cases e1;obtain⟨g1,g2,g3⟩:=xd.at_ h2 hne hxp;have hcl:(chunk cells.toList 0 x.ty.size).length=x.ty.size:=EC _ _ _ (by simpa using hsz);rw[hcl]at g2;have hch:chunk (chunk cells.toList 0 x.ty.size) o τ.size=chunk cells.toList o τ.size:=by rw[EK _ _ _ _ _ g2,cf]
 rw[hch]at g3;have hpl:=V.Rv g3 hne;obtain⟨u,r1,r2,r3⟩:=Vm (T:=T) (E:=E) (fr:=fr0) hP ht.symm hk hb (by omega) (g3.one hpl);refine⟨u,?_,(Bt (by rw[q8m];exact hpl)).2 ⟨?_,by rw[yS,g1,r3]⟩⟩;{simp[kr,lq,r1]};{rw[r2];exact yR _ g3}
theorem yX:∀{q:List Nat} {τ0 f:Ty} {o:Nat} {i:Nat},τ0.walk (q++[i])=some (o,f)->∃o1 τ o2,τ0.walk q=some (o1,τ)/\τ.child i=some (o2,f)/\o=o1+o2
 | [],τ0,f,o,i,h=>by
  simp only[jm,ud]at h;cases hc:τ0.child i with
  |none=>rw[hc]at h;cases h
  |some x=>
   obtain⟨o2,f2⟩:=x;rw[hc]at h;simp only[eu,gb]at h;obtain⟨rfl,rfl⟩:=h;exact⟨0,τ0,o2,rfl,hc,by omega⟩
 |j::q,τ0,f,o,i,h=>by
  simp only[List.cons_append,ud]at h ⊢;cases hc:τ0.child j with
  |none=>rw[hc]at h;cases h
  |some x=>
   obtain⟨o3,f3⟩:=x;rw[hc]at h;simp only at h ⊢;cases hw:f3.walk (q++[i])with
   |none=>rw[hw]at h;cases h
   |some y=>
    obtain⟨o4,f4⟩:=y;rw[hw]at h;simp only[eu,gb]at h;obtain⟨rfl,rfl⟩:=h;obtain⟨o1,τ,o2,h1,h2,rfl⟩:=yX hw;exact⟨o3+o1,τ,o2,by rw[h1],h2,by omega⟩
theorem q3G (hP:Al P=true) (c:AJ Γ w s) {T:TypeId} {k:Key} {q:List Nat} {lo m M:Nat} {e:Ty} {x:V} {cc:C} {v:Value}
  (hr:AE Γ (.ptr k (q++[lo]) e) v) (ho:s.obj k=some (.box x)) (hat:x.at q= .d (.arr M e) cc) (ht:ty P T= .arr m e) (hk:(Ty.arr m e).known=true) (hlo:lo+m<=M):
  ∃u,(kr T v).run P w= .ok u w/\AE Γ (.d (.arr m e) (.agg ((cc.elems.drop lo).take m))) u:=by
 obtain⟨b,τ0,o,h1,h2,rfl⟩:=GD hr;obtain⟨b',cells,E,e1,_,_,hb,hsz,xd,hxp,_⟩:=c.own (by assumption) ho;obtain⟨fr0,hb,xk⟩:=hb;rw[h1]at e1;cases e1;obtain⟨o1,τ,o2,w1,w2,rfl⟩:=yX h2;obtain⟨g1,g2,g3⟩:=xd.at_ w1 (by rw[hat];simp) hxp;have hcl:(chunk cells.toList 0 x.ty.size).length=x.ty.size:=EC _ _ _ (by simpa using hsz);rw[hcl]at g2;have hch:chunk (chunk cells.toList 0 x.ty.size) o1 τ.size=chunk cells.toList o1 τ.size:=by rw[EK _ _ _ _ _ g2,cf]
 rw[hch,hat]at g3;rw[hat]at g1;simp only[V.ty]at g1;subst g1;simp only[AA,AH,ig]at g3;obtain⟨cs,rfl,r1,r2,r3,r4⟩:=g3;simp only[bq];simp only[jk]at w2;split at w2
 ·rename_i hlM;simp only[eu,gb,and_true]at w2;subst w2;simp only[ig]at g2;have hlen:((cs.drop lo).take m).length=m:=by simp;omega
  have hms:(lo+m)*e.size<=M*e.size:=cr _ hlo;rw[dr]at hms;have z4K:(chunk cells.toList (o1+lo*e.size) (m*e.size)).length=m*e.size:=EC _ _ _ (by simp;omega);have hel:∀i c,((cs.drop lo).take m)[i]? =some c->AH Γ.H e (chunk (chunk cells.toList (o1+lo*e.size) (m*e.size)) (i*e.size) e.size) c:=by intro i c hi;rw[fh]at hi;split at hi;{rename_i hin;rw[iz]at hi;have h9:=r4 _ _ hi;have hle:(i+1)*e.size<=m*e.size:=cr _ hin;rw[dr]at hle;rw[dr]at h9;rw[EK _ _ _ _ _ (by omega)]at h9 ⊢;rw[show o1+lo*e.size+i*e.size=o1+(lo*e.size+i*e.size) by omega];exact h9};{cases hi}
  have h4:AH Γ.H (.arr m e) (chunk cells.toList (o1+lo*e.size) (Ty.arr m e).size) (.agg ((cs.drop lo).take m)):=by simp only[AH,ig];exact⟨_,rfl,hlen,z4K,sS hlen z4K hel,hel⟩
  obtain⟨u,q1,q2,q3⟩:=Vm (T:=T) (E:=E) (fr:=fr0) (off:=o1+lo*e.size) hP ht hk hb (by simp only[ig];omega) h4.one;refine⟨u,?_,DU.2 ⟨by rw[q2];exact h4,q3⟩⟩;simp[kr,lq,q1]
 ·cases w2
theorem q3F (hP:Al P=true) (c:AJ Γ w s) {T:TypeId} {τ:Ty} {cc:C} {v:Value}
  (hr:AE Γ (.wm τ cc) v) (ht:τ=ty P T) (hk:τ.known=true):
  ∃u,(kr T v).run P w= .ok u w/\AE Γ (.d τ cc) u:=by
 obtain⟨b,off,l,rfl,h2,h3,h4⟩:=SH hr;obtain⟨arr,E,fr,r,hb,hl⟩:=c.hH b l h2;have hch:chunk arr.toList off τ.size=chunk l off τ.size:=by rw[hl,NL _ _ _ _ h3]
 have hsz:off+τ.size<=arr.size:=by rw[<-im,hl,da];omega
 obtain⟨u,r1,r2,r3⟩:=Vm (T:=T) hP ht.symm hk hb hsz (by rw[hch];exact h4.one);exact⟨u,by simp[kr,lq,r1],DU.2 ⟨by rw[r2,hch];exact h4,r3⟩⟩
theorem q8y {cells:Array Value} (h:Dw LI cells.toList=true):cells=#[.pointer none,.slice none 0 0]:=by
 apply Array.ext';generalize cells.toList=l at h;simp only[LI,Dw,Ik,bz,beq_iff_eq,decide_eq_true_eq,ig,chunk]at h;obtain⟨⟨h1,_⟩,⟨_,h2⟩,⟨_,h3⟩,_⟩:=h
 match l,h1 with
 | [a,b],_=>
  simp only[mb,List.take_succ_cons,vf,List.drop_succ_cons]at h2 h3;cases a <;> simp[Mj]at h2;cases b <;> simp[Mj]at h3;obtain⟨⟨rfl,rfl⟩,rfl⟩:=h3;subst h2;rfl
def Ri (τ:Ty) (T:TypeId):O:=bif Ty.beq τ LI then .it [] T else .box (Ai τ)
theorem q0p (c:AJ Γ w s) {o:Oper} {a:Act} {T:TypeId} {n:Nat} (ho:o.op= .alloc T) (hn:s.obj (.l n)=none) (hz:CE P T=true):
  Ar P o a w (BP Γ w {s with loc:=(.l n,Ri (ty P T) T)::s.loc} (.ptr (.l n) [] (ty P T))):=by
 obtain⟨z,xm,hzo,hag⟩:=wI hz;have hlen:=Mk hzo;cases hB:Ty.beq (ty P T) LI with
 |true=>
  have e:=(Ty.beq_iff _ _).1 hB;rw[e]at hzo;have hz2:z.cells=#[.pointer none,.slice none 0 0]:=q8y hzo;obtain⟨h1,h2,h3⟩:=c.addKey hn (Ext.alloc w (.cells z.cells T)) (τ:=LI) (o:=.it [] T) fun Γ' hpr _ hι hH hZ=>⟨w.heap.size,.pointer none,.slice none 0 0,hι,hH,hZ,by rw[heap_alloc_new,hz2],.inl rfl,by simp,.inl ⟨rfl,rfl⟩⟩;simp only[Ri,hB,cond_true];rw[e];refine Ar.val (v:=.pointer (some ⟨w.heap.size,0,none⟩)) (w':=w.alloc (.cells z.cells T)) ?_ ⟨_,h3,h2,h1,(Bt rfl).2 ⟨?_,by simp[V.ty,jb,Ba]⟩⟩;{unfold execOp;simp only[ho,vt,dh,xm,de];simp[newVar,newRow]};{simp only[AA];exact⟨w.heap.size,LI,0,by simp[G.addKey,Dl],rfl,by simp[fc]⟩}
 |false=>
 simp only[Ri,hB,cond_false];have hX:AA Γ none [] (Ai (ty P T)) z.cells.toList:=WS (ty P T) hzo;have hb:=RW c hn (T:=T) (x:=Ai (ty P T)) (cells:=z.cells) (Ext.alloc w _) (heap_alloc_new w (.cells z.cells T)) (by rw[Ml,<-hlen];simp) (by rw[Ml,<-hlen,Le];exact hX) (WR _) (zI _);rw[Ml]at hb;refine Ar.val (v:=.pointer (some ⟨w.heap.size,0,none⟩)) (w':=w.alloc (.cells z.cells T)) ?_ hb;unfold execOp;simp only[ho,vt,dh,xm,de];simp[newVar,newRow]
theorem q0s (c:AJ Γ w s) {o:Oper} {a:Act} {T:TypeId} {x:Operand} {n:Nat} {y:V} (ho:o.op= .box T x) (hn:s.obj (.l n)=none) (hr:AE Γ y (a.eval x)) (hpl:y.plain=true) (hns:y.BJ=true):
  Ar P o a w (BP Γ w {s with loc:=(.l n,.box y)::s.loc} (.ptr (.l n) [] y.ty)):=by
 obtain⟨h1,_⟩:=(Bt hpl).1 hr;have hlen:=h1.length hpl;have hb:=RW c hn (T:=T) (x:=y) (cells:=(a.eval x).cells) (Ext.alloc w _) (heap_alloc_new w (.cells (a.eval x).cells T)) (by rw[<-hlen];simp) (by rw[<-hlen,Le];exact h1) hpl hns;refine Ar.val (v:=.pointer (some ⟨w.heap.size,0,none⟩)) (w':=w.alloc (.cells (a.eval x).cells T)) ?_ hb;unfold execOp;simp only[ho,Instr.box];simp[newVar,newRow]
theorem q0t (c:AJ Γ w s) {o:Oper} {a:Act} {T:TypeId} {x:Operand} {y:V} {cc:C} (ho:o.op= .box T x) (hr:AE Γ y (a.eval x)) (hpl:y.plain=true) (hc:CF y=some cc):
  Ar P o a w (BP Γ w s (.wm y.ty cc)):=by
 obtain⟨h1,_⟩:=(Bt hpl).1 hr;have hlen:=h1.length hpl;obtain⟨c1,p1,g1⟩:=c.Dz (l:=(a.eval x).cells.toList) (r:=[]) (Ext.alloc w _) (heap_alloc_new w (.cells (a.eval x).cells T)) (by simp);refine Ar.val (v:=.pointer (some ⟨w.heap.size,0,none⟩)) (w':=w.alloc (.cells (a.eval x).cells T)) ?_ ⟨_,g1,p1,c1,MS (l:=(a.eval x).cells.toList) (DD _ _ _) (by rw[hlen];omega) ?_⟩;{unfold execOp;simp only[ho,Instr.box];simp[newVar,newRow]};{have:=(KU _ h1 hc).mono p1.H;rw[<-hlen,Le];exact this}
theorem AJ.write (c:AJ Γ w s) {k:Key} {x x':V} {b:Nat} {τ:Ty} {wz:Array Value} {T:TypeId} {fz:Nat × Nat}
  (ho:s.obj k=some (.box x)) (hι:Γ.ι k=some (b,τ)) (xe:w'.heap[b]? =some (.cells wz T fz)) (hfz:fz.2<=fz.1\/wz.size<=fz.1) (xi:∀b',b'≠b->w'.heap[b']? =w.heap[b']?) (hoo:oof w'=oof w)
  (hsz:x'.ty.size<=wz.size) (hx:AA Γ (some k) [] x' (chunk wz.toList 0 x'.ty.size)) (ht:x'.ty=x.ty) (hp:x'.plain=true) (hns:x'.BJ=true)
  (hcs:∀arr T fr,w.heap[b]? =some (.cells arr T fr)->wz.size=arr.size):
  AJ Γ w' {s with loc:=(k,.box x')::s.loc}:=by
 obtain⟨hH,hZ,hlt,e2⟩:=c.EY hι ho rfl;simp only[O.ty]at e2;refine c.change (.refl Γ) rfl rfl rfl hoo (fun b' l h=>?_) (fun b' h=>xi b' (fun e=>by subst e;exact h hZ)) (fun b' o sz h=>?_) (fun j o h=>?_) (fun _ h _=>h) (fun j h=>?_) (fun b' sz h=>?_) (c.Jp (Xi fun h=>by rw[Ea ho]at h;cases h)) c.tok c.xg (cV xe xi);{rw[xi b' (fun e=>by subst e;rw[hH]at h;cases h)];exact c.hH b' l h};{obtain⟨a1,a2,a3⟩:=c.hκ b' o sz h;rw[xi b' (fun e=>by subst e;exact a2 hH)];exact⟨a1,a2,a3⟩};{rw[Cz]at h;split at h;{rename_i e;subst e;cases h;exact .inr ⟨b,wz,T,by rw[hι,e2,ht],hH,hZ,⟨fz,xe,hfz⟩,hsz,hx,hp,hns⟩};{rename_i e;refine .inl ⟨h,fun hd=>⟨fun _ _ _ _=>⟨rfl,rfl⟩,fun b' τ' hb=>?_⟩⟩;obtain⟨a1,a2,a3,_⟩:=c.EY hb h hd;refine⟨xi b' (fun e'=>?_),a1⟩;subst e';exact e (c.Yk hι hb (by rw[Ea ho];rfl) (by rw[Ea h];exact hd))}};{rw[Cz];split;{simp};{exact c.dom j h}};{obtain⟨arr,T1,fr,a1,a2⟩:=c.hσ b' sz h;by_cases e:b'=b;{subst e;exact⟨wz,T,fz,xe,by rw[hcs _ _ _ a1];exact a2⟩};{exact⟨arr,T1,fr,by rw[xi b' e];exact a1,a2⟩}}
theorem cN (P:Program) (g o:Nat) (t:TypeId) (fz:Nat × Nat):∀(vs:List Value) (i:Nat) (cur:Array Value) (w:World),w.heap[g]? =some (.cells cur t fz)->(fz.2<=fz.1\/cur.size<=fz.1)->o+i+vs.length<=cur.size->(∀v∈vs,v.oneCell'=true)->
  (storeCells ⟨g,o,none⟩ vs i).run P w= .ok () (w.setRow g (cur.toList.take (o+i)++vs++cur.toList.drop (o+i+vs.length)).toArray)
 | [],i,cur,w,hg,_,_,_=>by simp only[storeCells,ur,List.length_nil,Nat.add_zero,List.take_append_drop,Array.toArray_toList];rw[setRow_self w g cur t fz hg];rfl
 |v::rest,i,cur,w,hg,hfz,hl,h1=>by
  have hi:o+i<cur.size:=by simp at hl;omega
  have z5n:(⟨g,o,none⟩:Addr).add i=⟨g,o+i,none⟩:=by unfold Addr.add;split <;> simp_all
  have xw:w.cell? ⟨g,o+i,none⟩=some cur[o+i]:=by simp[lj,hg,hi]
  have z5o:w.frozen? ⟨g,o+i,none⟩=false:=by obtain⟨lo,hi'⟩:=fz;simp only[vl,hg,Bool.and_eq_false_iff,decide_eq_false_iff_not];simp only at hfz;omega
  have hst:(store ((⟨g,o,none⟩:Addr).add i) v).run P w= .ok () (w.setRow g (cur.setIfInBounds (o+i) v)):=by rw[z5n,run_store P w _ v _ (h1 v (by simp)),xw];simp[z5o,setCell_eq_setRow w g (o+i) cur t fz v hg]
  have ih:=cN P g o t fz rest (i+1) (cur.setIfInBounds (o+i) v) (w.setRow g (cur.setIfInBounds (o+i) v)) (setRow_heap w g cur _ t _ hg) (by simpa using hfz) (by simp at hl ⊢;omega) (fun x hx=>h1 x (by simp[hx]));simp only[storeCells,dh,hst,de,ih,setRow_setRow];congr 3;have e:=list_seg_step cur.toList (o+i) v rest (by simp at hl ⊢;omega);simpa[kq,Nat.add_assoc]using e
theorem q6G {T:TypeId} {τ:Ty} (hP:Al P=true) (ht:ty P T=τ) (hk:τ.known=true) {b off:Nat} {arr:Array Value} {E:TypeId} {fz:Nat × Nat} {v:Value}
  (hb:w.heap[b]? =some (.cells arr E fz)) (hfz:fz.2<=fz.1\/arr.size<=fz.1) (hl:off+τ.size<=arr.size) (hv:v.cells.toList.length=τ.size) (h1:DR v.cells.toList):
  (storeVar T ⟨b,off,none⟩ v).run P w= .ok () (w.setRow b (Bh arr.toList off v.cells.toList).toArray):=by
 have hsz:=run_sizeOf (w:=w) hP (T:=T) (by intro s e;rw[ht]at e;subst e;simp[Ty.known]at hk);rw[ht]at hsz;have hv':v.cells.size=τ.size:=by simpa using hv
 have hst:=cN P b off E fz v.cells.toList 0 arr w hb hfz (by simp;omega) h1;simp only[Nat.add_zero]at hst;simp[storeVar,hsz,hv',hst,Bh]
theorem xC (vs ws:List Value) {o n:Nat} (h:o+ws.length<=n) (hn:n<=vs.length):chunk (Bh vs o ws) 0 n=Bh (chunk vs 0 n) o ws:=by apply fg;intro i;have hl:(chunk vs 0 n).length=n:=EC _ _ _ (by omega);rw[Dg,Fh (by omega),Fh (by omega),Dg];simp only[cf];by_cases hi:i<n;{rw[if_pos hi,if_pos hi]};{rw[if_neg hi,if_neg (by omega),if_neg hi]}
theorem q0G (hP:Al P=true) (c:AJ Γ w s) {o:Oper} {a:Act} {t:TypeId} {l cp:Operand} {L Cp:V} {k1 k2:IntKind} {nl nc:Nat} {n:Nat} {eb:Nat} {e:Ty}
  (ho:o.op= .makeSlice t l cp) (ht:ty P t= .slice eb e) (hz:CE P (Af P t)=true) (hn:s.obj (.l n)=none)
  (hl:a.eval l= .int k1 nl) (hc:a.eval cp= .int k2 nc) (h1:nl<=nc) (h2:nc<=maxLen) (hb:nc*eb<=140737488355328) (hes:e.size≠0) {cpv:Option Nat} (z5p:∀c,cpv=some c->nc=c):
  Ar P o a w (BP Γ w {s with loc:=(.l n,.box (.d (.arr nl e) (.agg (db nl (AL e)))))::s.loc} (.sr (.l n) [] 0 nl cpv eb e)):=by
 obtain⟨hu,he,heb,hE⟩:=LJ hP ht;obtain⟨i,z,hi,hzz,hzo,zb⟩:=LP hz;have hcz:=Mk hzo;have hsz:i.size=e.size:=by have:=DJ hP 11 (Af P t);rw[he,this];simp[iw,hi]
 have hby:i.bytes=eb:=by rw[heb];simp[pk,hi]
 have hzc:z.cells.size=e.size:=by have h1:=DJ hP 11 (Af P t);have h2:=Mg hP (Af P t);rw[he,h1,<-h2,<-hcz];simp
 have w1:IntKind.i64.wrap (nl:Int)=nl:=je _ (by unfold maxLen at h2;omega);have w2:IntKind.i64.wrap (nc:Int)=nc:=je _ (by unfold maxLen at h2;omega);have hb':¬(281474976710656:Int)<(eb:Int)*(nc:Int):=by
  have:(eb:Int)*(nc:Int)=((nc*eb:Nat):Int):=by rw[Int.mul_comm];push_cast;rfl
  rw[this];omega
 have xm:(qg t (a.eval l) (a.eval cp)).run P w= .ok (.slice (some ⟨w.heap.size,0,none⟩) nl nc) (w.alloc (.cells ((ik (nc*e.size)).map (z.cells[· %z.cells.size]!)) (Af P t))):=by
  by_cases h0:nc=0
  ·subst h0;have:nl=0:=by omega
   subst this;have h00:(ue (fun _=>(default:Value)) (ik 0))=#[]:=by apply ib;simp
   have h01:(ue (fun x=>z.cells[x%z.cells.size]!) (ik 0))=#[]:=by apply ib;simp
   have w0:IntKind.i64.wrap 0=0:=by decide
   simp[qg,hl,hc,run_underlying hu,asInt,asIntOf,typeInfo,hi,w0,sizeOf,hsz,newRow,h00,h01]
  ·have h3:¬(nc*e.size=0):=vh h0 hes;have h4:¬((nc:Int)<(nl:Int)):=by omega
   have h5:¬((nc:Int)<0):=by omega
   have h6:¬((nl:Int)<0):=by omega
   simp[qg,hl,hc,run_underlying hu,asInt,asIntOf,typeInfo,hi,w1,w2,sizeOf,hsz,newRow,h3,hby,hb',h4,h5,h6,zeroValue,hzz]
 have yb:((ik (nc*e.size)).map (z.cells[· %z.cells.size]!)).size=nc*e.size:=by rw[Array.size_map,Array.size_range]
 have hnl:nl*e.size<=nc*e.size:=cr _ h1;have hX:∀j,j<nl->chunk ((ik (nc*e.size)).map (z.cells[· %z.cells.size]!)).toList (j*e.size) e.size=z.cells.toList:=by
  intro j hlt;apply fg;intro q;rw[Dg];have hb2:(j+1)*e.size<=nc*e.size:=cr _ (by omega);rw[dr]at hb2;split
  ·rename_i hq;have e1:(j*e.size+q)%z.cells.size=q:=by rw[hzc,Nat.add_comm,Nat.add_mul_mod_self_right,Nat.mod_eq_of_lt hq]
   rw[lz,dx,Array.toList_range,iq (by omega)];simp only[Option.map_some,e1];have:q<z.cells.size:=by omega
   simp[getElem!_pos z.cells q this]
  ·rw[gp (by simp;omega)]
 have xd:AA Γ none [] (.d (.arr nl e) (.agg (db nl (AL e)))) (chunk ((ik (nc*e.size)).map (z.cells[· %z.cells.size]!)).toList 0 (V.d (.arr nl e) (.agg (db nl (AL e)))).ty.size):=by
  simp only[AA,V.ty,ig];have hlen:(chunk ((ik (nc*e.size)).map (z.cells[· %z.cells.size]!)).toList 0 (nl*e.size)).length=nl*e.size:=EC _ _ _ (by simp only[im,yb];omega);have hel:∀i c',(db nl (AL e))[i]? =some c'->AH Γ.H e (chunk (chunk ((ik (nc*e.size)).map (z.cells[· %z.cells.size]!)).toList 0 (nl*e.size)) (i*e.size) e.size) c':=by intro i c' hi;rw[mc]at hi;split at hi;{rename_i hlt;cases hi;have hb2:(i+1)*e.size<=nl*e.size:=cr _ hlt;rw[dr]at hb2;rw[EK _ _ _ _ _ (by omega),cf,hX i hlt,he];exact GY zb};{cases hi}
  simp only[AH];exact⟨_,rfl,by simp,hlen,OO (by simp) hlen hel,hel⟩
 obtain⟨Γ',q1,q2,q3,q4⟩:=RW c hn (T:=Af P t) (Ext.alloc w _) (heap_alloc_new w (.cells ((ik (nc*e.size)).map (z.cells[· %z.cells.size]!)) (Af P t))) (by rw[yb];exact hnl) xd rfl rfl;obtain⟨y1,y2,y3⟩:=q3.GJ (heap_alloc_new w (.cells ((ik (nc*e.size)).map (z.cells[· %z.cells.size]!)) (Af P t)));refine Ar.val (v:=.slice (some ⟨w.heap.size,0,none⟩) nl nc) (w':=w.alloc (.cells ((ik (nc*e.size)).map (z.cells[· %z.cells.size]!)) (Af P t))) ?_ ⟨_,q1.trans y3,q2.trans y2,y1,?_⟩;{unfold execOp;simp only[ho,dh,xm,de,fb]};{obtain⟨b,τ0,o',r1,r2,r3⟩:=GD q4;simp at r3;obtain⟨rfl,rfl⟩:=r3;exact SI (show(G.GJ Γ' _ _).ι (.l n)=_ from r1) r2 (by omega) (.inr (by simp)) h1 h2 (oh (cr _ h1) hb) z5p (fun _=>.inr ⟨_,DD _ _ _,by rw[yb,cf,cf];exact cn _⟩)}
theorem gU (hP:Al P=true) (w:World) (a:Act) {t:TypeId} {len:Nat} {parts:Array (Nat × Operand)} {eb:Nat} {e:Ty}
  (ht:ty P t= .slice eb e) (hz:CE P (Af P t)=true) (hlen:0<len) (hes:e.size≠0) (yd:len*e.size<=16777216)
  (yf:parts.toList.map (·.1)=gq len) (ye:∀v∈(parts.toList.map fun x=>a.eval x.2),v.cells.size=e.size):
  (tr t len (parts.map fun(i,x)=>(i,a.eval x))).run P w= .ok (.slice (some ⟨w.heap.size,0,none⟩) len len) (w.alloc (.cells ((parts.toList.map fun x=>a.eval x.2).flatMap fun v=>v.cells.toList).toArray (Af P t)))/\
  ((parts.toList.map fun x=>a.eval x.2).flatMap fun v=>v.cells.toList).length=len*e.size:=by
 obtain⟨hu,he,heb,hE⟩:=LJ hP ht;obtain⟨i,z,hi,hzz,hzo,zb⟩:=LP hz;have hcz:=Mk hzo;have hsz:i.size=e.size:=by have:=DJ hP 11 (Af P t);rw[he,this];simp[iw,hi]
 have hzc:z.cells.size=e.size:=by have h1:=DJ hP 11 (Af P t);have h2:=Mg hP (Af P t);rw[he,h1,<-h2,<-hcz];simp
 have hpl:parts.toList.length=len:=by have:=congrArg bn yf;simpa using this
 have hvs:(parts.map fun(i,x)=>(i,a.eval x)).toList=((parts.toList.map fun x=>a.eval x.2).zipIdx 0).map fun x=>(x.2,x.1):=by
  apply fg;intro j;simp only[lz,dx,List.getElem?_zipIdx];cases hj:parts.toList[j]? with
  |none=>simp|some x=>
   have:(parts.toList.map (·.1))[j]? =some x.1:=by simp[hj]
   rw[yf]at this;have hlt:j<len:=by rw[<-hpl];exact(cm.1 hj).1
   simp[iq hlt]at this;simp[this]
 have hf:=Great.fill_whole (s:=e.size) (by omega) (parts.toList.map fun x=>a.eval x.2) ((ik (len*e.size)).map (z.cells[· %z.cells.size]!)) ye (by simp[hpl]);have run:=run_buildSlice (P:=P) w t (Af P t) len (parts.map fun(i,x)=>(i,a.eval x)) _ i z hu hi hzz (by rw[hsz];omega) (by rw[hsz];exact vh (by omega) hes) (by rw[hsz,hvs];exact hf);refine⟨run,?_⟩;simp only[List.length_flatMap];have:(List.map (fun v=>v.cells.toList.length) (parts.toList.map fun x=>a.eval x.2))=db len e.size:=by apply List.eq_replicate_iff.2;refine⟨by simp[hpl],fun b hb=>?_⟩;obtain⟨v,hv,rfl⟩:=List.mem_map.1 hb;simpa using ye v hv
 rw[this];simp
theorem jU (hP:Al P=true) (c:AJ Γ w s) {o:Oper} {a:Act} {t:TypeId} {len:Nat} {parts:Array (Nat × Operand)} {cs:List C} {eb:Nat} {e:Ty}
  (ho:o.op= .buildSlice t len parts) (ht:ty P t= .slice eb e) (hz:CE P (Af P t)=true) (hlen:0<len) (hes:e.size≠0) (yd:len*e.size<=16777216) (hb:len*eb<=140737488355328)
  (yf:parts.toList.map (·.1)=gq len) (hcs:cs.length=len)
  (hx:∀(i:Nat) (x:Nat × Operand) (cc:C),parts.toList[i]? =some x->cs[i]? =some cc->AE Γ (.d e cc) (a.eval x.2)):
  Ar P o a w (fun v w'=>(∃ad,v= .slice ad len len)/\BP Γ w s (.d (.slice eb e) (.slice cs)) v w'):=by
 have hpl:parts.toList.length=len:=by have:=congrArg bn yf;simpa using this
 have xd:∀(j:Nat) (v:Value),(parts.toList.map fun x=>a.eval x.2)[j]? =some v->∃cc,cs[j]? =some cc/\AE Γ (.d e cc) v:=by
  intro j v hj;simp only[dx]at hj;cases hx':parts.toList[j]? with
  |none=>simp[hx']at hj|some x=>
   simp[hx']at hj;have hlt:j<len:=by rw[<-hpl];exact(cm.1 hx').1
   have hcj:cs[j]? =some cs[j]:=cq (by omega);exact⟨_,hcj,hj ▸ hx j x _ hx' hcj⟩
 have ye:∀v∈(parts.toList.map fun x=>a.eval x.2),v.cells.size=e.size:=by intro v hv;obtain⟨j,hj⟩:=mw.1 hv;obtain⟨cc,_,hr⟩:=xd j v hj;have:=(DU.1 hr).1.length;simpa using this
 obtain⟨run,yy⟩:=gU hP w a ht hz hlen hes yd yf ye;obtain⟨c1,p1,g1⟩:=c.Dz (Ext.alloc w _) (l:=(parts.toList.map fun x=>a.eval x.2).flatMap fun v=>v.cells.toList) (r:=[]) (heap_alloc_new w (.cells ((parts.toList.map fun x=>a.eval x.2).flatMap fun v=>v.cells.toList).toArray (Af P t))) (by simp);refine Ar.val (v:=.slice (some ⟨w.heap.size,0,none⟩) len len) (w':=w.alloc (.cells ((parts.toList.map fun x=>a.eval x.2).flatMap fun v=>v.cells.toList).toArray (Af P t))) ?_ ⟨⟨_,rfl⟩,_,g1,p1,c1,Oj (Dv hcs (cn _) (by have:=se len (ua hes);unfold maxLen;omega) hb (.inr ⟨w.heap.size,0,_,rfl,DD _ _ _,by rw[yy];omega,fun j c' hj=>?_⟩))⟩;{unfold execOp;simp only[ho,dh,run,de,fb]}
 ·have hlt:j<len:=by rw[<-hcs];exact(cm.1 hj).1
  have hv:(parts.toList.map fun x=>a.eval x.2)[j]? =some ((parts.toList.map fun x=>a.eval x.2)[j]'(by simp[hpl];omega)):=cq _;obtain⟨cc,hcc,hr⟩:=xd j _ hv;rw[hj]at hcc;cases hcc;have:=YN _ j _ ye hv;rw[cf,this];exact(DU.1 hr).1.mono p1.H
theorem vI {Γ:G} {τ:Ty} {cells:List Value}:∀(xs:List V) (p:List Nat) (i:Nat),(∀(j:Nat) y,xs[j]? =some y->∃o f,τ.child (i+j)=some (o,f)/\y.ty=f/\o+f.size<=cells.length/\AA Γ none [] y (chunk cells o f.size))->AU Γ none p i τ xs cells
 | [],_,_,_=>by simp only[AU]
 |x::xs,p,i,h=>by simp only[AU];obtain⟨o,f,h1,h2,h3,h4⟩:=h 0 x rfl;exact⟨⟨o,f,h1,h2,h3,h4.Dn⟩,vI xs p (i+1) fun j y hy=>by rw[show i+1+j=i+(j+1) by omega];exact h (j+1) y hy⟩
theorem q0y (hP:Al P=true) (c:AJ Γ w s) {o:Oper} {a:Act} {t:TypeId} {len:Nat} {parts:Array (Nat × Operand)} {vs:List V} {eb:Nat} {e:Ty} {n:Nat} (hn:s.obj (.l n)=none)
  (ho:o.op= .buildSlice t len parts) (ht:ty P t= .slice eb e) (hz:CE P (Af P t)=true) (hlen:0<len) (hes:e.size≠0) (yd:len*e.size<=16777216) (hb:len*eb<=140737488355328)
  (yf:parts.toList.map (·.1)=gq len) (hcs:vs.length=len)
  (hx:∀(i:Nat) (x:Nat × Operand) (y:V),parts.toList[i]? =some x->vs[i]? =some y->AE Γ y (a.eval x.2)) (hy:∀y∈vs,y.ty=e/\y.plain=true) (hns:V.Cf vs=true):
  Ar P o a w (BP Γ w {s with loc:=(.l n,.box (.agg (.arr len e) vs))::s.loc} (.sr (.l n) [] 0 len (some len) eb e)):=by
 have hpl:parts.toList.length=len:=by have:=congrArg bn yf;simpa using this
 have xd:∀(j:Nat) (v:Value),(parts.toList.map fun x=>a.eval x.2)[j]? =some v->∃y,vs[j]? =some y/\y.ty=e/\y.plain=true/\AA Γ none [] y v.cells.toList:=by
  intro j v hj;simp only[dx]at hj;cases hx':parts.toList[j]? with
  |none=>simp[hx']at hj|some x=>
   simp[hx']at hj;have hlt:j<len:=by rw[<-hpl];exact(cm.1 hx').1
   have hcj:vs[j]? =some vs[j]:=cq (by omega);obtain⟨h1,h2⟩:=hy _ (fk hcj);exact⟨_,hcj,h1,h2,hj ▸ ((Bt h2).1 (hx j x _ hx' hcj)).1⟩
 have ye:∀v∈(parts.toList.map fun x=>a.eval x.2),v.cells.size=e.size:=by intro v hv;obtain⟨j,hj⟩:=mw.1 hv;obtain⟨y,_,h1,h2,hr⟩:=xd j v hj;have:=hr.length h2;rw[h1]at this;simpa using this
 obtain⟨run,yy⟩:=gU hP w a ht hz hlen hes yd yf ye;have yn:DR ((parts.toList.map fun x=>a.eval x.2).flatMap fun v=>v.cells.toList):=by intro u hu;obtain⟨v,hv,hu⟩:=List.mem_flatMap.1 hu;obtain⟨j,hj⟩:=mw.1 hv;obtain⟨y,_,_,h2,hr⟩:=xd j v hj;exact hr.one h2 u hu
 have hX:AA Γ none [] (.agg (.arr len e) vs) ((parts.toList.map fun x=>a.eval x.2).flatMap fun v=>v.cells.toList):=by
  simp only[AA];refine⟨yy,yn,hcs,rfl,vI _ _ _ fun j y hj=>?_⟩;have hlt:j<len:=by rw[<-hcs];exact(cm.1 hj).1
  have hv:(parts.toList.map fun x=>a.eval x.2)[j]? =some ((parts.toList.map fun x=>a.eval x.2)[j]'(by simp[hpl];omega)):=cq _;obtain⟨y',hy',h1,h2,hr⟩:=xd j _ hv;rw[hj]at hy';cases hy';have:=YN _ j _ ye hv;have hm:(j+1)*e.size<=len*e.size:=cr _ hlt;rw[dr]at hm;refine⟨j*e.size,e,by simp only[jk,cf];rw[if_pos hlt],h1,by rw[yy];omega,?_⟩;rw[this];exact hr
 obtain⟨Γ',q1,q2,q3,q4⟩:=RW c hn (T:=Af P t) (Ext.alloc w _) (heap_alloc_new w (.cells ((parts.toList.map fun x=>a.eval x.2).flatMap fun v=>v.cells.toList).toArray (Af P t)))
  (x:=.agg (.arr len e) vs) (by rw[iu,yy];exact cn _) (by rw[show(V.agg (.arr len e) vs).ty.size=((parts.toList.map fun x=>a.eval x.2).flatMap fun v=>v.cells.toList).length from yy.symm,List.toList_toArray,Le];exact hX) rfl hns
 refine Ar.val (v:=.slice (some ⟨w.heap.size,0,none⟩) len len) (w':=w.alloc (.cells ((parts.toList.map fun x=>a.eval x.2).flatMap fun v=>v.cells.toList).toArray (Af P t))) ?_ ⟨Γ',q1,q2,q3,?_⟩;{unfold execOp;simp only[ho,dh,run,de,fb]};{obtain⟨b,τ0,o',r1,r2,r3⟩:=GD q4;simp at r3;obtain⟨rfl,rfl⟩:=r3;exact SI (show Γ'.ι (.l n)=_ from r1) r2 (by omega) (.inr (by simp)) (cn _) (by have:=se len (ua hes);unfold maxLen;omega) hb (fun c h=>by cases h;rfl) (fun h=>by cases h)}
theorem q0w (hP:Al P=true) (c:AJ Γ w s) {o:Oper} {a:Act} {t:TypeId} {len:Nat} {parts:Array (Nat × Operand)} {cs:List C} {eb:Nat} {e:Ty}
  (ho:o.op= .buildSlice t len parts) (ht:ty P t= .slice eb e) (hz:CE P (Af P t)=true) (hlen:0<len) (hes:e.size≠0) (yd:len*e.size<=16777216) (hb:len*eb<=140737488355328)
  (yf:parts.toList.map (·.1)=gq len) (hcs:cs.length=len)
  (hx:∀(i:Nat) (x:Nat × Operand) (cc:C),parts.toList[i]? =some x->cs[i]? =some cc->AE Γ (.d e cc) (a.eval x.2)):
  Ar P o a w (BP Γ w s (.d (.slice eb e) (.slice cs))):=
 (jU hP c ho ht hz hlen hes yd hb yf hcs hx).mono fun _ _ h=>h.2
theorem q0z (hP:Al P=true) (c:AJ Γ w s) {o:Oper} {a:Act} {t:TypeId} {len:Nat} {parts:Array (Nat × Operand)} {cs:List C} {eb:Nat} {e:Ty} {n:Nat} (hn:s.known n=false)
  (ho:o.op= .buildSlice t len parts) (ht:ty P t= .slice eb e) (hz:CE P (Af P t)=true) (hlen:0<len) (hes:e.size≠0) (yd:len*e.size<=16777216) (hb:len*eb<=140737488355328)
  (yf:parts.toList.map (·.1)=gq len) (hcs:cs.length=len)
  (hx:∀(i:Nat) (x:Nat × Operand) (cc:C),parts.toList[i]? =some x->cs[i]? =some cc->AE Γ (.d e cc) (a.eval x.2)):
  Ar P o a w (BP Γ w {s with tk:=(n,some cs.length)::s.tk} (.sl eb e cs n)):=by
 refine(jU hP c ho ht hz hlen hes yd hb yf hcs hx).mono ?_;rintro v w' ⟨⟨ad,rfl⟩,Γ',g1,p1,c1,hr⟩;obtain⟨c2,p2,g2⟩:=c1.DX hn (x:=none) (L:=cs.length) (fun _ _ _ h=>by cases h);refine⟨_,g1.trans g2,p1.trans p2,c2,(Bx rfl rfl).2 ⟨?_,rfl⟩⟩;obtain⟨h1,_⟩:=(Bx rfl rfl).1 (hr.Bd p2);simp only[AA]at h1 ⊢;exact⟨ad,len,len,rfl,h1,none,cs.length,by simp[G.DX,Bl],cn _,fun _=>rfl⟩
theorem q0x (hP:Al P=true) (c:AJ Γ w s) {o:Oper} {a:Act} {t:TypeId} {eb:Nat} {e:Ty} (ho:o.op= .buildSlice t 0 #[]) (ht:ty P t= .slice eb e):
  Ar P o a w (BP Γ w s (.emp eb e)):=by
 obtain⟨hu,he,heb,hE⟩:=LJ hP ht;have hz:=Ie (f:=11) hP (w:=w) hE;refine Ar.val (v:=.slice (some ⟨w.heap.size,0,none⟩) 0 0) (w':=w.alloc (.cells #[] (Af P t))) ?_ (.ext c (Ext.alloc _ _) Oh);have h0:(ue (fun _=>(default:Value)) (ik 0))=#[]:=by apply ib;simp
 unfold execOp;simp[ho,tr,run_underlying hu,hz,ou,newRow,h0]
theorem YI {place:Nat->Option (Nat × Nat)} {τ:Ty} (hd:τ.CG=true) (hpl:∀i o f,τ.child i=some (o,f)->place i=some (o,f.size)) {ρ:Operand->V} {ev:Operand->Value}:
  ∀(L:List (Nat × Operand)) (x:V) (cells:Array Value),AA Γ none [] x cells.toList->x.ty=τ->x.plain=true->(∀p∈L,AE Γ (ρ p.2) (ev p.2))->Ld τ x (L.map fun p=>(p.1,ρ p.2))->
  ∃wz,ou place cells (L.map fun p=>(p.1,ev p.2))=some wz/\AA Γ none [] (JY τ x (L.map fun p=>(p.1,ρ p.2))) wz.toList/\(JY τ x (L.map fun p=>(p.1,ρ p.2))).ty=τ/\(JY τ x (L.map fun p=>(p.1,ρ p.2))).plain=true
 | [],x,cells,hx,ht,hp,_,_=>⟨cells,rfl,hx,ht,hp⟩|(i,y)::L,x,cells,hx,ht,hp,hr,hok=>by
  simp only[ep,Ld]at hok;obtain⟨h1,h2,h3,h4,h6⟩:=hok;obtain⟨⟨o,f⟩,hc⟩:=Option.isSome_iff_exists.1 h1;have hf:=PZ hc;rw[hf]at h2 h3 h6;have hy:=Wl (τ:=f) (hr (i,y) (by simp));obtain⟨q1,q2⟩:=(Bt h3).1 hy;have z4z:x.ty.walk [i]=some (o,(CC f (ρ y)).ty):=by rw[ht,h2];simp[ud,hc]
  obtain⟨g1,g2,_⟩:=hx.at_ z4z h4 hp;have hlen:=q1.length h3;rw[h2]at hlen g2;have q3:AA Γ none ([]++[i]) (CC f (ρ y)) (ev y).cells.toList:=q1.Dn;obtain⟨r1,r2,r3⟩:=AA.setAt hx hp (by rw[ht];exact hd) z4z h4 q3 h3;obtain⟨wz,e1,e2⟩:=q1J (rest:=L.map fun p=>(p.1,ev p.2)) (hpl i o f hc) (by simpa using hlen) (by simpa using g2);simp only[ep,e2,JY,hf];exact YI hd hpl L _ wz (by rw[e1];exact r1) (by rw[r2,ht]) r3 (fun p hp'=>hr p (by simp[hp'])) h6
theorem q3L {gs:List Field}:∀{places:List (Nat × Nat)} {j:Nat} {g:Field},gs.mapM (fun f=>(P.info? f.type).map fun i=>(f.offset,i.size))=some places->gs[j]? =some g->places[j]? =some (g.offset,P.cellsOf g.type):=by
 induction gs with
 |nil=>intro places j g _ hj;simp at hj|cons g0 gs ih=>
  intro places j g h hj;simp only[sk,Option.bind_eq_bind,Option.pure_def]at h;cases hi:P.info? g0.type with
  |none=>simp[hi]at h|some it=>
   cases hr:gs.mapM (fun f=>(P.info? f.type).map fun i=>(f.offset,i.size))with
   |none=>simp[hi,hr]at h|some rest=>
    simp[hi,hr]at h;subst h;cases j with
    |zero=>simp at hj;subst hj;simp[iw,hi]|succ j=>simpa using ih hr (by simpa using hj)
theorem mapM_some {gs:List Field} (h:∀g∈gs,g.type<P.types.size):∃places,gs.mapM (fun f=>(P.info? f.type).map fun i=>(f.offset,i.size))=some places:=by
 induction gs with
 |nil=>exact⟨[],rfl⟩|cons g gs ih=>
  obtain⟨rest,hr⟩:=ih fun g' hg'=>h g' (by simp[hg']);have hlt:=h g (by simp);cases hi:P.info? g.type with
  |none=>simp[sq,hlt]at hi|some it=>exact⟨(g.offset,it.size)::rest,by simp[sk,hi,hr]⟩
theorem q0v (hP:Al P=true) {T:TypeId} {parts:Array (Nat × Operand)} {ρ:Operand->V} {ev:Operand->Value} (hz:CE P T=true) (hd:(ty P T).CG=true) (hs:(ty P T).isAgg=true)
  (hr:∀p∈parts.toList,AE Γ (ρ p.2) (ev p.2)) (hok:Ld (ty P T) (Ai (ty P T)) (parts.toList.map fun p=>(p.1,ρ p.2))):
  ∃v,(Instr.build T (parts.map fun p=>(p.1,ev p.2))).run P w= .ok v w/\AE Γ (JY (ty P T) (Ai (ty P T)) (parts.toList.map fun p=>(p.1,ρ p.2))) v:=by
 obtain⟨it,z,hi,hzz,hzo,_⟩:=LP hz;have hX:AA Γ none [] (Ai (ty P T)) z.cells.toList:=WS (ty P T) hzo;have hXp:=WR (ty P T);cases hτ:ty P T with
 |struct sz os fs=>
  obtain⟨gs,hu,rfl,rfl,hsz,hgs⟩:=eB hP hτ;obtain⟨places,hpm⟩:=mapM_some (P:=P) (gs:=gs.toList) fun g hg=>(hgs g hg).1;have hpl:∀i o f,(ty P T).child i=some (o,f)->(places.toArray[i]?)=some (o,f.size):=by
   intro i o f hc;rw[hτ]at hc;simp only[jk,dx]at hc;cases hg:gs.toList[i]? with
   |none=>rw[hg]at hc;simp at hc|some g=>
    rw[hg]at hc;simp at hc;obtain⟨rfl,rfl⟩:=hc;rw[DJ hP 11 g.type];simpa using q3L hpm hg
  obtain⟨wz,e1,e2,e3,e4⟩:=YI (Γ:=Γ) hd hpl parts.toList (Ai (ty P T)) z.cells hX (Ml _) hXp hr hok;refine⟨.agg wz,run_build w T _ wz ?_,?_⟩;{simp only[uj,hi,hu,hzz,hpm,lz];exact e1};{rw[<-hτ];refine(Bt e4).2 ⟨by simpa[fc]using e2,?_⟩;rw[e3,hτ];simp[Ba,jb]}
 |arr n e=>
  obtain⟨E,hu,he⟩:=PH hτ;have hT:T<P.types.size:=by rcases ko T P.types.size with hh|hh;{exact hh};{unfold ty tyF at hτ;rw[if_neg (Nat.not_lt.2 hh)]at hτ;cases hτ}
  have yv:=IX hP hT;unfold okT at yv;simp only[hu]at yv;simp at yv;obtain⟨ie,hie⟩:∃i,P.info? E=some i:=by
   cases hi:P.info? E with
   |none=>simp[sq,yv.2]at hi|some i=>exact⟨i,rfl⟩
  have hes:ie.size=e.size:=by have:=DJ hP 11 E;rw[he,this];simp[iw,hie]
  have hpl:∀i o f,(ty P T).child i=some (o,f)->(fun i=>some (i*ie.size,ie.size):Nat->Option (Nat × Nat)) i=some (o,f.size):=by intro i o f hc;rw[hτ]at hc;simp only[jk]at hc;split at hc;{simp at hc;obtain⟨rfl,rfl⟩:=hc;simp[hes]};{cases hc}
  obtain⟨wz,e1,e2,e3,e4⟩:=YI (Γ:=Γ) hd hpl parts.toList (Ai (ty P T)) z.cells hX (Ml _) hXp hr hok;refine⟨.agg wz,run_build w T _ wz ?_,?_⟩;{simp only[uj,hi,hu,hzz,hie,lz];exact e1};{rw[<-hτ];refine(Bt e4).2 ⟨by simpa[fc]using e2,?_⟩;rw[e3,hτ];simp[Ba,jb]}
 |int|bool|str|slice|ptr|map|func|iface|opq=>rw[hτ]at hs;simp[jb]at hs
end
end
end Go.E
