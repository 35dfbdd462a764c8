/-
Runs of Go code over abstract data are sound, part 2.
Conditions: none.
-/
import Derived.Test.YtgdonkaoajbclaaGreatDoorEa
import Derived.Deep.AppendSrc
import Derived.Deep.Upon
import Derived.Great.FillDense
import Derived.Great.BuildSlice
set_option linter.all false
set_option maxRecDepth 100000
set_option maxHeartbeats 4000000
open Array renaming eq_empty_of_size_eq_zero->gz,getElem?_eq_getElem->ee,getElem?_modify->tj,length_toList->jf,map->vv,range->ij,size_append->qn,toList_map->lr,toList_setIfInBounds->rm
open Bool renaming and_eq_true->az,false_or->jr
open Go.Builtin renaming append_->nm,firstCells->fv,zeroCells->fp
open Go.E.C renaming elems->ao
open Go.E.Hp renaming le_refl->gq
open Go.E.Ty renaming child->ke,isAgg->jb,size->iy,walk->vu
open Go.E.V renaming get->xw,ty->pz
open Go.Instr renaming alloc->yc,box->vy,buildSlice->vm,fill->qb,loadAt->kx,makeSlice->rf,sureAddr->jv
open Go.IntWalk renaming i64_in->df
open Go.Program renaming built->wg,bytesOf->np,cellsOf->il
open Go.Result renaming andThen_ok->cr
open Go.Sem renaming run_bind->cu,run_pure->fb
open Go.Src renaming ofNil->ur,ofSlice->po
open Go.Tables renaming info?->ud
open Go.Value renaming cells->fc
open Go.World renaming cell?->nt,setCell->xx
open List renaming all_eq_true->eh,append_assoc->dp,cons_append->ji,drop_append->qq,drop_eq_nil_of_le->kf,drop_zero->ia,eq_nil_of_length_eq_zero->fh,ext_getElem?->fk,flatMap_cons->ju,getD->bj,getElem?_append_left->fm,getElem?_append_right->ft,getElem?_cons_succ->gf,getElem?_drop->jo,getElem?_eq_getElem->bg,getElem?_eq_none->gb,getElem?_eq_some_iff->bu,getElem?_map->dg,getElem?_range->ir,getElem?_replicate->ng,getElem?_set->gd,getElem?_take->fu,length->ak,length_append->bt,length_cons->cg,length_take->kg,mapM_cons->ub,map_cons->dy,mem_iff_getElem?->oa,mem_of_getElem?->fg,nil_append->fx,range->fi,replicate->ay,size_toArray->iv,take_append_of_le_length->qu,take_zero->xp,toList_toArray->mj
open Nat renaming add_mul->dc,eq_zero_or_pos->og,le_mul_of_pos_right->tu,le_refl->bx,le_trans->pw,lt_irrefl->qc,lt_or_ge->kh,mul_le_mul_right->bz,mul_ne_zero->xr,pos_of_ne_zero->vp,zero_add->cm,zero_le->dv,zero_mul->gy
open Option.some renaming injEq->ek
open Prod.mk renaming injEq->gm
namespace Go.E
open Go
section
mutual
def Ty.q9U:Ty->Bool
 | .slice _ _=>false| .struct _ _ fs=>Ty.gC fs| .opq _=>false|_=>true
def Ty.gC:List Ty->Bool
 | []=>true|f::fs=>f.q9U&&Ty.gC fs
end
mutual
def AJ:Ty->C
 | .int _=>.int 0| .bool=>.bool false| .str=>.str []| .slice _ _=>.slice []| .arr n e=>.agg (ay n (AJ e))| .struct _ _ fs=>.agg (QQ fs)|_=>.nil
def QQ:List Ty->List C
 | []=>[]|f::fs=>AJ f::QQ fs
end
mutual
def Bz:Ty->V
 | .slice eb e=>.emp eb e| .struct sz os fs=>if Ty.gC fs then .d (.struct sz os fs) (.agg (QQ fs))else .agg (.struct sz os fs) (KZ fs)|τ=>.d τ (AJ τ)
def KZ:List Ty->List V
 | []=>[]|f::fs=>Bz f::KZ fs
end
def NM:Ty->Value->Bool
 | .int k,.int k' n=>k==k'&&n==0| .bool,.bool b=> !b| .str,.string s=>s.data.toList.isEmpty| .slice _ _,.slice a n c=>a.isNone&&n==0&&c==0| .ptr,.pointer a=>a.isNone| .map,.map r=>r.isNone| .func,.nilFunc=>true| .iface,.nilIface=>true|_,_=>false
mutual
def Dp:Ty->List Value->Bool
 | .arr n e,vs=>vs.length==n*e.size&&vs.all (·.oneCell')&&(fi n).all fun i=>Dp e (chunk vs (i*e.size) e.size)| .struct sz os fs,vs=>vs.length==sz&&vs.all (·.oneCell')&&JF fs os vs|τ,vs=>match vs with| [v]=>NM τ v|_=>false
def JF:List Ty->List Nat->List Value->Bool
 | [],_,_=>true|f::fs,o::os,vs=>decide (o+f.size<=vs.length)&&Dp f (chunk vs o f.size)&&JF fs os vs|_::_,[],_=>false
end
def CB (P:Program) (T:TypeId):Bool:=
 match(P.info? T).bind (·.zero)with
 |some z=>Dp (ty P T) z.cells.toList&&BJ z==(ty P T).isAgg&&Dp (tyF P 11 T) z.cells.toList|none=>false
def xJ (k:IntKind):k.min<=0/\0<=k.max:=by cases k <;> decide
def z5q {H τ v} (h:NM τ v=true):AL H τ [v] (AJ τ):=by
 unfold NM at h;split at h <;> simp at h <;> simp only[AL,AJ];{obtain⟨rfl,rfl⟩:=h;exact⟨0,rfl,rfl,(xJ _).1,(xJ _).2⟩};{subst h;exact⟨false,rfl,rfl⟩}
 ·rename_i s;refine⟨[],rfl,?_,by simp⟩;have:s=⟨#[]⟩:=by apply ByteArray.ext;simpa using h
  rw[this]
 ·obtain⟨⟨h1,rfl⟩,rfl⟩:=h;exact⟨_,0,0,[],rfl,rfl,rfl,bx _,by decide,by simp,.inl rfl⟩
 ·subst h;simp
 ·subst h;simp
 ·simp
 ·simp
mutual
def Gy {H}:∀{τ:Ty} {vs:List Value},Dp τ vs=true->AL H τ vs (AJ τ)
 | .arr n e,vs,h=>by simp only[Dp,az,beq_iff_eq,eh,List.mem_range]at h;simp only[AL,AJ];refine⟨_,rfl,by simp,h.1.1,h.1.2,fun i c hi=>?_⟩;simp only[ng]at hi;split at hi;{cases hi;exact Gy (h.2 i ‹_›)};{cases hi}
 | .struct sz os fs,vs,h=>by simp only[Dp,az,beq_iff_eq,eh]at h;simp only[AL,AJ];exact⟨_,rfl,h.1.1,h.1.2,q27 h.2⟩
 | .int _,[v],h| .bool,[v],h| .str,[v],h| .slice _ _,[v],h| .ptr,[v],h| .map,[v],h| .func,[v],h| .iface,[v],h=>by simp only[Dp]at h;exact z5q h
 | .opq _,[v],h=>by simp[Dp,NM]at h
 | .int _,[],h| .bool,[],h| .str,[],h| .slice _ _,[],h| .ptr,[],h| .map,[],h| .func,[],h| .iface,[],h| .opq _,[],h=>by simp[Dp]at h
 | .int _,_::_::_,h| .bool,_::_::_,h| .str,_::_::_,h| .slice _ _,_::_::_,h| .ptr,_::_::_,h| .map,_::_::_,h| .func,_::_::_,h| .iface,_::_::_,h| .opq _,_::_::_,h=>by simp[Dp]at h
def q27 {H}:∀{fs:List Ty} {os:List Nat} {vs:List Value},JF fs os vs=true->BR H fs os vs (QQ fs)
 | [],_,_,_=>by simp[BR,QQ]
 |f::fs,o::os,vs,h=>by simp only[JF,az,decide_eq_true_eq]at h;simp only[BR,QQ];exact⟨_,_,rfl,h.1.1,Gy h.1.2,q27 h.2⟩
 |_::_,[],_,h=>by simp[JF]at h
end
def NP:∀(τ:Ty),(Bz τ).ty=τ
 | .struct sz os fs=>by simp only[Bz];split <;> simp[pz]
 | .slice _ _=>by simp[Bz,pz]
 | .int _| .bool| .str| .ptr| .map| .func| .iface| .opq _| .arr _ _=>by simp[Bz,pz]
def q29:∀(fs:List Ty),(KZ fs).length=fs.length
 | []=>rfl|f::fs=>by simp[KZ,q29 fs]
def q26:∀{fs:List Ty} {os:List Nat} {vs:List Value} {i:Nat} {f:Ty},JF fs os vs=true->fs[i]? =some f->∃o,os[i]? =some o/\o+f.size<=vs.length/\Dp f (chunk vs o f.size)=true
 | [],_,_,_,_,_,h=>by simp at h
 |f::fs,o::os,vs,0,g,h,hg=>by simp only[JF,az,decide_eq_true_eq]at h;simp at hg;subst hg;exact⟨o,rfl,h.1.1,h.1.2⟩
 |f::fs,o::os,vs,i+1,g,h,hg=>by simp only[JF,az,decide_eq_true_eq]at h;obtain⟨o',a,b,c⟩:=q26 h.2 (show fs[i]? =some g by simpa using hg);exact⟨o',by simpa using a,b,c⟩
 |_::_,[],_,_,_,h,_=>by simp[JF]at h
def Yv (τ:Ty):(Bz τ).plain=true:=by cases τ <;> simp only[Bz] <;> (try split) <;> rfl
mutual
def q28:∀(τ:Ty),(Bz τ).Ay=true
 | .struct sz os fs=>by simp only[Bz];split <;> simp[V.Ay,q3a fs]
 | .slice _ _=>by simp[Bz,V.Ay]
 | .int _| .bool| .str| .ptr| .map| .func| .iface| .opq _| .arr _ _=>by simp[Bz,V.Ay]
def q3a:∀(fs:List Ty),V.CF (KZ fs)=true
 | []=>rfl|f::fs=>by simp[KZ,V.CF,q28 f,q3a fs]
end
section
variable {Γ:G} {hm:Option Key}
mutual
def Yw:∀(τ:Ty) {p:List Nat} {vs},Dp τ vs=true->AA Γ hm p (Bz τ) vs
 | .struct sz os fs,p,vs,h=>by simp only[Bz];split;{simp only[AA];exact Gy (τ:=.struct sz os fs) h};{simp only[Dp,az,beq_iff_eq,eh]at h;simp only[AA];exact⟨h.1.1,h.1.2,by simp[Ty.kids,q29],rfl,q3b fs sz os fs 0 (fun i f hf=>by simpa using hf) h.2⟩}
 | .slice eb e,p,vs,h=>by
  match vs,h with
  | [v],h=>
   simp only[Dp]at h;cases v <;> simp[NM]at h;obtain⟨⟨rfl,rfl⟩,rfl⟩:=h;simp only[Bz,AA];exact⟨none,rfl⟩
  | [],h=>simp[Dp]at h|_::_::_,h=>simp[Dp]at h
 | .int k,p,vs,h=>by simp only[Bz,AA];exact Gy h
 | .bool,p,vs,h=>by simp only[Bz,AA];exact Gy h
 | .str,p,vs,h=>by simp only[Bz,AA];exact Gy h
 | .ptr,p,vs,h=>by simp only[Bz,AA];exact Gy h
 | .map,p,vs,h=>by simp only[Bz,AA];exact Gy h
 | .func,p,vs,h=>by simp only[Bz,AA];exact Gy h
 | .iface,p,vs,h=>by simp only[Bz,AA];exact Gy h
 | .opq s,p,vs,h=>by simp only[Bz,AA];exact Gy h
 | .arr n e,p,vs,h=>by simp only[Bz,AA];exact Gy h
def q3b:∀(gs:List Ty) (sz:Nat) (os:List Nat) (fs:List Ty) (i:Nat) {p:List Nat} {vs:List Value},(∀(j:Nat) (f:Ty),gs[j]? =some f->fs[i+j]? =some f)->JF fs os vs=true->
  Aa Γ hm p i (.struct sz os fs) (KZ gs) vs
 | [],_,_,_,_,_,_,_,_=>by simp[KZ,Aa]
 |f::gs,sz,os,fs,i,p,vs,hg,h=>by have hf:=hg 0 f rfl;obtain⟨o,a,b,c⟩:=q26 h hf;simp only[KZ,Aa,NP];refine⟨⟨o,f,by simp[ke,show os[i]? =some o by simpa using a,show fs[i]? =some f by simpa using hf],rfl,b,Yw f c⟩,q3b gs sz os fs (i+1) (fun j g hj=>?_) h⟩;rw[show i+1+j=i+(j+1) by omega];exact hg (j+1) g (by simpa using hj)
end
end
def q1D {P} {T:TypeId} (h:CB P T=true):∃z,(∀w,(zeroValue T).run P w= .ok z w)/\Dp (ty P T) z.cells.toList=true/\BJ z=(ty P T).isAgg:=by
 unfold CB at h;cases hi:P.info? T with
 |none=>simp[hi]at h|some i=>
  cases hz:i.zero with
  |none=>simp[hi,hz]at h|some z=>
   simp[hi,hz]at h;exact⟨z,fun w=>by simp[zeroValue,typeInfo,hi,hz],h.1.1,h.1.2⟩
mutual
def view:V->V
 | .ts eb e cs=>.d (.slice eb e) (.slice cs)| .agg τ vs=>.agg τ (views vs)|x=>x
def views:List V->List V
 | []=>[]|x::xs=>view x::views xs
end
def q2O:∀xs:List V,(views xs).length=xs.length
 | []=>rfl|x::xs=>by simp[views,q2O xs]
def q2N (x:V):(view x).ty=x.ty:=by cases x <;> simp[view,pz]
def z44 (x:V):(view x).plain=x.plain:=by cases x <;> simp[view,V.plain]
section
variable {Γ:G} {hm:Option Key}
mutual
def q2M:∀(x:V) {p p':List Nat} {vs},AA Γ hm p x vs->AA Γ none p' (view x) vs
 | .ts eb e cs,_,_,_,h=>by simp only[AA,view]at h ⊢;obtain⟨a,n,cap,k,_,rfl,h2,_⟩:=h;exact h2
 | .agg τ xs,_,_,_,h=>by simp only[AA,view]at h ⊢;exact⟨h.1,h.2.1,by rw[q2O];exact h.2.2.1,h.2.2.2.1,q2P xs h.2.2.2.2⟩
 | .d _ _,_,_,_,h| .sl _ _ _ _,_,_,_,h| .emp _ _,_,_,_,h| .ym,_,_,_,h| .ptr _ _ _,_,_,_,h| .yn _ _,_,_,_,h| .sr _ _ _ _ _ _ _,_,_,_,h| .mp _,_,_,_,h| .fn _ _,_,_,_,h| .top _,_,_,_,h=>by simpa only[AA,view]using h
 | .any,_,_,_,h=>by simp only[AA,view]
 | .tup _,_,_,_,h=>by simp only[AA]at h
def q2P:∀(xs:List V) {p p':List Nat} {i:Nat} {τ:Ty} {vs:List Value},Aa Γ hm p i τ xs vs->Aa Γ none p' i τ (views xs) vs
 | [],_,_,_,_,_,_=>by simp only[views,Aa]
 |x::xs,_,_,_,_,_,h=>by simp only[Aa,views,q2N]at h ⊢;obtain⟨⟨o,f,h1,h2,h3,h4⟩,h5⟩:=h;exact⟨⟨o,f,h1,h2,h3,q2M x h4⟩,q2P xs h5⟩
end
end
mutual
def Bp:V->Option C
 | .d _ c=>some c| .emp _ _=>some (.slice [])| .sl _ _ cs _=>some (.slice cs)| .ts _ _ cs=>some (.slice cs)| .agg _ vs=>(Du vs).map .agg|_=>none
def Du:List V->Option (List C)
 | []=>some []|x::xs=>match Bp x,Du xs with|some c,some cs=>some (c::cs)|_,_=>none
end
def Zv:∀{xs:List V} {cs:List C},Du xs=some cs->cs.length=xs.length/\∀(i:Nat) (x:V) (c:C),xs[i]? =some x->cs[i]? =some c->Bp x=some c
 | [],cs,h=>by simp[Du]at h;subst h;simp
 |x::xs,cs,h=>by
  simp only[Du]at h;cases h1:Bp x with
  |none=>simp[h1]at h|some c=>
   cases h2:Du xs with
   |none=>simp[h1,h2]at h|some cs'=>
    simp[h1,h2]at h;subst h;obtain⟨a,b⟩:=Zv h2;refine⟨by simp[a],fun i y d hy hd=>?_⟩;cases i with
    |zero=>simp at hy hd;subst hy;subst hd;exact h1|succ i=>exact b i y d (by simpa using hy) (by simpa using hd)
section
variable {Γ:G} {hm:Option Key}
mutual
def Ki:∀(x:V) {p:List Nat} {vs c},AA Γ hm p x vs->Bp x=some c->AL Γ.H x.ty vs c
 | .d τ c,_,_,_,h,hc=>by simp[Bp]at hc;subst hc;simpa only[AA,pz]using h
 | .emp eb e,_,_,_,h,hc=>by simp[Bp]at hc;subst hc;simp only[AA]at h;obtain⟨a,rfl⟩:=h;exact Dm rfl (bx _) (dv _) (by rw[gy];exact dv _) (.inl rfl)
 | .sl eb e cs t,_,_,_,h,hc=>by simp[Bp]at hc;subst hc;simp only[AA]at h;obtain⟨a,n,cap,rfl,h2,_⟩:=h;exact h2
 | .ts eb e cs,_,_,_,h,hc=>by simp[Bp]at hc;subst hc;simp only[AA]at h;obtain⟨a,n,cap,k,_,rfl,h2,_⟩:=h;exact h2
 | .agg τ xs,_,vs,_,h,hc=>by
  simp only[Bp]at hc;cases h1:Du xs with
  |none=>simp[h1]at hc|some cs=>
   simp[h1]at hc;subst hc;simp only[AA]at h;obtain⟨a1,a2,a3,a4,a5⟩:=h;obtain⟨b1,b2⟩:=Zv h1;have kid:=rF xs a5 h1;simp only[pz];cases τ <;> simp[jb]at a4
   case arr n e=>
    simp only[AL];refine⟨cs,rfl,by rw[b1,a3];rfl,by simpa[iy]using a1,a2,fun i c hi=>?_⟩;obtain⟨o,f,k1,_,k3⟩:=kid i c hi;simp only[cm,ke]at k1;split at k1;{simp at k1;obtain⟨rfl,rfl⟩:=k1;exact k3};{cases k1}
   case struct sz os fs=>
    simp only[AL];refine⟨cs,rfl,by simpa[iy]using a1,a2,BR.LQ (by rw[b1,a3];rfl) fun i f c hf hi=>?_⟩;obtain⟨o,f',k1,k2,k3⟩:=kid i c hi;simp only[cm,ke]at k1;cases ho:os[i]? with
    |none=>simp[ho]at k1|some o'=>simp[ho,hf]at k1;obtain⟨rfl,rfl⟩:=k1;exact⟨o',rfl,k2,k3⟩
 | .ym,_,_,_,_,hc| .ptr _ _ _,_,_,_,_,hc| .yn _ _,_,_,_,_,hc| .sr _ _ _ _ _ _ _,_,_,_,_,hc| .mp _,_,_,_,_,hc| .fn _ _,_,_,_,_,hc| .top _,_,_,_,_,hc| .any,_,_,_,_,hc| .tup _,_,_,_,_,hc=>by simp[Bp]at hc
def rF:∀(xs:List V) {p:List Nat} {i0:Nat} {τ:Ty} {vs:List Value} {cs:List C},Aa Γ hm p i0 τ xs vs->Du xs=some cs->
  ∀(i:Nat) (c:C),cs[i]? =some c->∃o f,τ.child (i0+i)=some (o,f)/\o+f.size<=vs.length/\AL Γ.H f (chunk vs o f.size) c
 | [],_,_,_,_,_,_,h,i,c,hc=>by simp[Du]at h;subst h;simp at hc
 |x::xs,_,i0,τ,vs,cs,h,hcs,i,c,hc=>by
  simp only[Aa]at h;simp only[Du]at hcs;cases h1:Bp x with
  |none=>simp[h1]at hcs|some d=>
   cases h2:Du xs with
   |none=>simp[h1,h2]at hcs|some ds=>
    simp[h1,h2]at hcs;subst hcs;cases i with
    |zero=>
     simp at hc;subst hc;obtain⟨⟨o,f,k1,k2,k3,k4⟩,_⟩:=h;have:=Ki x k4 h1;rw[k2]at this;exact⟨o,f,k1,k3,this⟩
    |succ i=>
     have:=rF xs h.2 h2 i c (by simpa using hc);rw[show i0+(i+1)=i0+1+i by omega];exact this
end
end
end
section
def Df (vs:List Value) (o n i:Nat):(chunk vs o n)[i]? =if i<n then vs[o+i]? else none:=by simp[chunk,fu,jo]
def BP (vs:List Value) (o:Nat) (ws:List Value):List Value:=vs.take o++ws++vs.drop (o+ws.length)
def IP {vs ws:List Value} {o:Nat} (h:o+ws.length<=vs.length):(BP vs o ws).length=vs.length:=by simp[BP];omega
def Fx {vs ws:List Value} {o:Nat} (h:o+ws.length<=vs.length) (i:Nat):
  (BP vs o ws)[i]? =if o<=i/\i<o+ws.length then ws[i-o]? else vs[i]?:=by
 unfold BP;by_cases h1:i<o;{rw[if_neg (by omega),dp,fm (by simp;omega),fu,if_pos h1]};{by_cases h2:i<o+ws.length;{rw[if_pos (by omega),dp,ft (by simp;omega),fm (by simp;omega)];simp only[kg];congr 1;omega};{rw[if_neg (by omega),ft (by simp;omega),jo];simp only[bt,kg];congr 1;omega}}
def Zs {vs ws:List Value} {o n:Nat} (h:o+ws.length<=vs.length) (hn:ws.length=n):chunk (BP vs o ws) o n=ws:=by apply fk;intro i;rw[Df,Fx h];split;{rw[if_pos (by omega)];congr 1;omega};{rw[gb (by omega)]}
def Qo {vs ws:List Value} {o o' n:Nat} (h:o+ws.length<=vs.length) (hd:o'+n<=o\/o+ws.length<=o'):chunk (BP vs o ws) o' n=chunk vs o' n:=by apply fk;intro i;rw[Df,Df,Fx h];split;{rw[if_neg (by omega)]};{rfl}
def q4l {vs ws:List Value} {o o1 n1 o2:Nat} (h:o1+n1<=vs.length) (hw:o2+ws.length<=n1) (ho:o=o1+o2):chunk (BP vs o ws) o1 n1=BP (chunk vs o1 n1) o2 ws:=by subst ho;apply fk;intro i;have hl:(chunk vs o1 n1).length=n1:=Dt _ _ _ h;rw[Df,Fx (by omega),Fx (by omega),Df];by_cases hi:i<n1;{rw[if_pos hi,if_pos hi];by_cases h2:o2<=i/\i<o2+ws.length;{rw[if_pos (by omega),if_pos h2];congr 1;omega};{rw[if_neg (by omega),if_neg h2]}};{rw[if_neg hi,if_neg hi,if_neg (by omega)]}
def Ct.BP {vs ws} {o:Nat} (h1:Ct vs) (h2:Ct ws):Ct (BP vs o ws):=by intro v hv;simp only[Go.E.BP,List.mem_append]at hv;rcases hv with(hv|hv)|hv;{exact h1 v (List.mem_of_mem_take hv)};{exact h2 v hv};{exact h1 v (List.mem_of_mem_drop hv)}
def Qz (o n:Nat):List Nat->List Ty->Bool
 |o'::os,f::fs=>decide (o'+f.size<=o\/o+n<=o')&&Qz o n os fs|_,_=>true
def Nz:List Nat->List Ty->Bool
 |o::os,f::fs=>Qz o f.size os fs&&Nz os fs|_,_=>true
mutual
def Ty.Cl:Ty->Bool
 | .struct _ os fs=>Nz os fs&&Ty.RA fs| .arr _ e=>e.Cl|_=>true
def Ty.RA:List Ty->Bool
 | []=>true|f::fs=>f.Cl&&Ty.RA fs
end
def sP:∀{os:List Nat} {fs:List Ty} {o n j o':Nat} {f:Ty},Qz o n os fs=true->os[j]? =some o'->fs[j]? =some f->o'+f.size<=o\/o+n<=o'
 | [],_,_,_,_,_,_,_,h,_=>by simp at h
 |_::_,[],_,_,_,_,_,_,_,h=>by simp at h
 |o1::os,f1::fs,o,n,0,o',f,h,h1,h2=>by simp only[Qz,az,decide_eq_true_eq]at h;simp at h1 h2;subst h1;subst h2;exact h.1
 |o1::os,f1::fs,o,n,j+1,o',f,h,h1,h2=>by simp only[Qz,az]at h;exact sP h.2 (show os[j]? =some o' by simpa using h1) (show fs[j]? =some f by simpa using h2)
def bB:∀{os:List Nat} {fs:List Ty} {i j o o':Nat} {f f':Ty},Nz os fs=true->i<j->os[i]? =some o->fs[i]? =some f->os[j]? =some o'->fs[j]? =some f'->o'+f'.size<=o\/o+f.size<=o'
 | [],_,_,_,_,_,_,_,_,_,h,_,_,_=>by simp at h
 |_::_,[],_,_,_,_,_,_,_,_,_,h,_,_=>by simp at h
 |o1::os,f1::fs,0,j+1,o,o',f,f',h,_,h1,h2,h3,h4=>by simp only[Nz,az]at h;simp at h1 h2;subst h1;subst h2;exact sP h.1 (show os[j]? =some o' by simpa using h3) (show fs[j]? =some f' by simpa using h4)
 |o1::os,f1::fs,i+1,j+1,o,o',f,f',h,hij,h1,h2,h3,h4=>by simp only[Nz,az]at h;exact bB h.2 (show i<j by omega) (show os[i]? =some o by simpa using h1) (show fs[i]? =some f by simpa using h2) (show os[j]? =some o' by simpa using h3) (show fs[j]? =some f' by simpa using h4)
 |_::_,_::_,_,0,_,_,_,_,_,hij,_,_,_,_=>by omega
def sQ {os:List Nat} {fs} {i j o o':Nat} {f f':Ty} (h:Nz os fs=true) (hij:i≠j) (h1:os[i]? =some o) (h2:fs[i]? =some f) (h3:os[j]? =some o') (h4:fs[j]? =some f'):
  o'+f'.size<=o\/o+f.size<=o':=by
 rcases kh i j with h5|h5;{exact bB h h5 h1 h2 h3 h4};{have:=bB h (show j<i by omega) h3 h4 h1 h2;omega}
def sR:∀{fs:List Ty} {i:Nat} {f:Ty},Ty.RA fs=true->fs[i]? =some f->f.Cl=true
 | [],_,_,_,h=>by simp at h
 |f1::fs,0,f,h,h1=>by simp only[Ty.RA,az]at h;simp at h1;subst h1;exact h.1
 |f1::fs,i+1,f,h,h1=>by simp only[Ty.RA,az]at h;exact sR h.2 (show fs[i]? =some f by simpa using h1)
def Ty.LB:Ty->List Ty
 | .struct _ _ fs=>fs| .arr n e=>ay n e|_=>[]
def C.set:C->Nat->C->C
 | .agg cs,i,c=>.agg (cs.set i c)|c,_,_=>c
def HF (c:C):Nat->List Ty->List V
 |_,[]=>[]|j,f::fs=>.d f (c.get j)::HF c (j+1) fs
def V.set:V->Nat->V->V
 | .d τ c,i,.d _ c'=>.d τ (c.set i c')| .d τ c,i,y=>.agg τ ((HF c 0 τ.LB).set i y)| .agg τ vs,i,y=>.agg τ (vs.set i y)|_,_,_=>.any
def V.setAt:V->List Nat->V->V
 |_,[],y=>y|x,i::q,y=>x.set i ((x.get i).setAt q y)
def Ty.q7x (τ:Ty):τ.LB.length=τ.kids:=by cases τ <;> simp[Ty.LB,Ty.kids]
def AL.child {H} {τ f:Ty} {vs c} {i:Nat} (h:AL H τ vs c) (hf:τ.LB[i]? =some f):∃o,τ.child i=some (o,f):=by
 cases τ <;> simp only[Ty.LB,List.getElem?_nil,reduceCtorEq]at hf
 case arr n e=>
  rw[ng]at hf;split at hf;{cases hf;rename_i hi;exact⟨_,by simp only[ke];rw[if_pos hi]⟩};{cases hf}
 case struct sz os fs=>
  simp only[AL]at h;obtain⟨cs,rfl,_,_,h3⟩:=h;obtain⟨o,c,a,_⟩:=h3.get hf;exact⟨o,by simp[ke,a,hf]⟩
def q4k {τ f f':Ty} {i j o o':Nat} (hd:τ.Cl=true) (h1:τ.child i=some (o,f)) (h2:τ.child j=some (o',f')) (hij:i≠j):o'+f'.size<=o\/o+f.size<=o':=by
 cases τ <;> simp only[ke,reduceCtorEq]at h1 h2
 case arr n e=>
  split at h1 <;> simp at h1;split at h2 <;> simp at h2;obtain⟨rfl,rfl⟩:=h1;obtain⟨rfl,rfl⟩:=h2;rcases kh j i with hlt|hge;{left;have:(j+1)*e.size<=i*e.size:=bz _ (by omega);rw[dc]at this;omega};{right;have:(i+1)*e.size<=j*e.size:=bz _ (by omega);rw[dc]at this;omega}
 case struct sz os fs=>
  simp only[Ty.Cl,az]at hd;cases ho:os[i]? with
  |none=>simp[ho]at h1|some a=>
   cases hf:fs[i]? with
   |none=>simp[ho,hf]at h1|some g=>
    cases ho':os[j]? with
    |none=>simp[ho']at h2|some a'=>
     cases hf':fs[j]? with
     |none=>simp[ho',hf']at h2|some g'=>
      simp[ho,hf]at h1;simp[ho',hf']at h2;obtain⟨rfl,rfl⟩:=h1;obtain⟨rfl,rfl⟩:=h2;exact sQ hd.1 hij ho hf ho' hf'
section
variable {Γ:G} {hm:Option Key}
def AL.set {H} {τ f:Ty} {vs ws} {c c':C} {i o:Nat} (h:AL H τ vs c) (hd:τ.Cl=true) (hc:τ.child i=some (o,f)) (hr:AL H f ws c'):
  AL H τ (BP vs o ws) (c.set i c'):=by
 have hwl:=hr.length;have hb:=(h.get hc).2.1;cases τ <;> simp only[ke,reduceCtorEq]at hc
 case arr n e=>
  split at hc <;> simp at hc;rename_i hi;obtain⟨rfl,rfl⟩:=hc;simp only[AL]at h ⊢;obtain⟨cs,rfl,h1,h2,h3,h4⟩:=h;refine⟨cs.set i c',rfl,by simpa using h1,by rw[IP (by omega)];exact h2,h3.BP hr.one,fun j cc hj=>?_⟩;rw[gd]at hj;split at hj;{rename_i hij;subst hij;split at hj;{cases hj;rw[Zs (by omega) hwl];exact hr};{cases hj}}
  ·rename_i hij;have hjl:j<n:=by rw[<-h1];exact(bu.1 hj).1
   rw[Qo (by omega)];{exact h4 j cc hj};{rcases kh j i with hlt|hge;{left;have:(j+1)*e.size<=i*e.size:=bz _ (by omega);rw[dc]at this;omega};{right;have:(i+1)*e.size<=j*e.size:=bz _ (by omega);rw[dc]at this;omega}}
 case struct sz os fs=>
  simp only[AL]at h ⊢;simp only[Ty.Cl,az]at hd;obtain⟨cs,rfl,h1,h2,h3⟩:=h;cases ho:os[i]? with
  |none=>simp[ho]at hc|some o'=>
   cases hf:fs[i]? with
   |none=>simp[ho,hf]at hc|some f'=>
    simp[ho,hf]at hc;obtain⟨rfl,rfl⟩:=hc;have hl:=h3.yW;refine⟨cs.set i c',rfl,by rw[IP (by omega)];exact h1,h2.BP hr.one,BR.LQ (by simpa using hl) fun j g cc hg hcc=>?_⟩;rw[gd]at hcc;obtain⟨oj,cj,a,b,d,r⟩:=h3.get hg;refine⟨oj,a,by rw[IP (by omega)];exact d,?_⟩;split at hcc;{rename_i hij;subst hij;rw[hf]at hg;cases hg;rw[ho]at a;cases a;split at hcc;{cases hcc;rw[Zs (by omega) hwl];exact hr};{cases hcc}};{rename_i hij;rw[b]at hcc;cases hcc;rw[Qo (by omega)];{exact r};{have:=sQ hd.1 (fun e=>hij e) ho hf a hg;omega}}
def Aa.LQ {p:List Nat} {τ:Ty}:∀{xs:List V} {i0:Nat} {vs:List Value},
  (∀(i:Nat) (x:V),xs[i]? =some x->∃o f,τ.child (i0+i)=some (o,f)/\x.ty=f/\o+f.size<=vs.length/\AA Γ hm (p++[i0+i]) x (chunk vs o f.size))->Aa Γ hm p i0 τ xs vs
 | [],_,_,_=>by simp[Aa]
 |x::xs,i0,vs,h=>by simp only[Aa];refine⟨h 0 x rfl,Aa.LQ fun i y hy=>?_⟩;have:=h (i+1) y (by simpa using hy);rw[show i0+1+i=i0+(i+1) by omega];exact this
def uI (c:C):∀(fs:List Ty) (j i:Nat),(HF c j fs)[i]? =(fs[i]?).map fun f=>.d f (c.get (j+i))
 | [],_,_=>by simp[HF]
 |f::fs,j,0=>by simp[HF]
 |f::fs,j,i+1=>by simp only[HF,gf];rw[uI c fs (j+1) i,show j+(i+1)=j+1+i by omega]
def uJ (c:C):∀(fs:List Ty) (j:Nat),(HF c j fs).length=fs.length
 | [],_=>rfl|f::fs,j=>by simp[HF,uJ c fs]
def q6x {τ:Ty} {c} {p:List Nat} {vs} (h:AL Γ.H τ vs c) (ha:τ.isAgg=true):AA Γ hm p (.agg τ (HF c 0 τ.LB)) vs:=by
 simp only[AA];refine⟨h.length,h.one,by rw[uJ,Ty.q7x],ha,Aa.LQ fun i x hx=>?_⟩;rw[uI]at hx;cases hf:τ.LB[i]? with
 |none=>simp[hf]at hx|some f=>
  simp[hf]at hx;subst hx;obtain⟨o,ho⟩:=h.child hf;obtain⟨_,h2,h3⟩:=h.get ho;refine⟨o,f,by simpa using ho,rfl,h2,?_⟩;simpa only[AA]using h3
def q4i {τ f:Ty} {i o:Nat} (h:τ.child i=some (o,f)):τ.isAgg=true:=by cases τ <;> simp[ke]at h <;> rfl
def pG {p:List Nat} {τ:Ty} {xs:List V} {y:V} {vs ws:List Value} {i o:Nat} (h:AA Γ hm p (.agg τ xs) vs) (hd:τ.Cl=true) (hc:τ.child i=some (o,y.ty))
  (hr:AA Γ hm (p++[i]) y ws) (hy:y.plain=true) (hb:o+y.ty.size<=vs.length):AA Γ hm p (.agg τ (xs.set i y)) (BP vs o ws):=by
 simp only[AA]at h ⊢;obtain⟨h1,h2,h3,h4,h5⟩:=h;have hwl:=hr.length hy;refine⟨by rw[IP (by omega)];exact h1,h2.BP (hr.one hy),by simpa using h3,h4,Aa.LQ fun j x hx=>?_⟩;rw[gd]at hx;split at hx;{rename_i hij;subst hij;split at hx;{cases hx;refine⟨o,_,by simpa using hc,rfl,by rw[IP (by omega)];exact hb,?_⟩;rw[Zs (by omega) hwl];simpa using hr};{cases hx}};{rename_i hij;obtain⟨o',f',a,b,d,r⟩:=h5.get hx;refine⟨o',f',a,b,by rw[IP (by omega)];exact d,?_⟩;rw[Qo (by omega)];{exact r};{rw[cm]at a;have:=q4k hd hc a hij;omega}}
def AA.set {p:List Nat} {x y:V} {vs ws} {i o:Nat} (h:AA Γ hm p x vs) (hd:x.ty.Cl=true) (hc:x.ty.child i=some (o,y.ty)) (hg:x.get i≠.any)
  (hr:AA Γ hm (p++[i]) y ws) (hy:y.plain=true):AA Γ hm p (x.set i y) (BP vs o ws)/\(x.set i y).ty=x.ty/\(x.set i y).plain=true:=by
 have hb:=(h.get hc hg).2.1;have gen:∀{τ:Ty} {c:C},x= .d τ c->AA Γ hm p (.agg τ ((HF c 0 τ.LB).set i y)) (BP vs o ws):=by intro τ c e;subst e;simp only[AA]at h;simp only[pz]at hc hd;exact pG (q6x h (q4i hc)) hd hc hr hy hb
 cases x <;> (try (simp only[xw,ne_eq,not_true_eq_false]at hg;done))
 case d τ c=>
  have:=gen rfl;cases y
  case d τ' c'=>
   simp only[V.set];refine⟨?_,rfl,rfl⟩;simp only[AA]at h hr ⊢;simp only[pz]at hc hd;exact h.set hd hc hr
  all_goals (simp only[V.set];exact⟨this,rfl,rfl⟩)
 case agg τ xs=>
  simp only[V.set];exact⟨pG h hd hc hr hy hb,rfl,rfl⟩
def q4j {τ f:Ty} {i o:Nat} (h:τ.Cl=true) (hc:τ.child i=some (o,f)):f.Cl=true:=by
 cases τ <;> simp only[ke,reduceCtorEq]at hc
 case arr n e=>split at hc <;> simp at hc;rw[<-hc.2];simpa[Ty.Cl]using h
 case struct sz os fs=>
  simp only[Ty.Cl,az]at h;cases ho:os[i]? with
  |none=>simp[ho]at hc|some o'=>
   cases hf:fs[i]? with
   |none=>simp[ho,hf]at hc|some f'=>simp[ho,hf]at hc;rw[<-hc.2];exact sR h.2 hf
def AA.setAt:∀{q:List Nat} {p:List Nat} {x y:V} {vs ws:List Value} {o:Nat},AA Γ hm p x vs->x.plain=true->x.ty.Cl=true->x.ty.walk q=some (o,y.ty)->x.at q≠.any->
  AA Γ hm (p++q) y ws->y.plain=true->
  AA Γ hm p (x.setAt q y) (BP vs o ws)/\(x.setAt q y).ty=x.ty/\(x.setAt q y).plain=true
 | [],p,x,y,vs,ws,o,h,hp,hd,hw,hx,hr,hy=>by
  simp[vu]at hw;obtain⟨rfl,ht⟩:=hw;have h1:=h.length hp;have h2:=hr.length hy;have:BP vs 0 ws=ws:=by simp only[BP,xp,fx,cm];rw[kf (by rw[h1,h2,ht];exact bx _)];simp
  simp only[V.setAt,this];exact⟨by simpa using hr,ht.symm,hy⟩
 |i::q,p,x,y,vs,ws,o,h,hp,hd,hw,hx,hr,hy=>by
  simp only[vu]at hw;cases hc:x.ty.child i with
  |none=>simp[hc]at hw|some of=>
   obtain⟨o1,f⟩:=of;simp only[hc]at hw;cases hw2:f.walk q with
   |none=>simp[hw2]at hw|some ot=>
    obtain⟨o2,t⟩:=ot;simp only[hw2,ek,gm]at hw;obtain⟨rfl,rfl⟩:=hw;have hne:x.get i≠.any:=by intro e;apply hx;simp only[V.at,e];exact V.Qc q
    obtain⟨h1,h2,h3⟩:=h.get hc hne;have hpl:(x.get i).plain=true:=V.TE h3 hne;have _hget:=Qn hc;have ih:=AA.setAt (q:=q) h3 hpl (by rw[h1];exact q4j hd hc) (by rw[h1];exact hw2) (by simpa[V.at]using hx) (by simpa using hr) hy;obtain⟨i1,i2,i3⟩:=ih;have hwl:=hr.length hy;have hb2:o2+y.ty.size<=f.size:=by
     obtain⟨_,hb,_⟩:=h3.at_ (by rw[h1];exact hw2) (by simpa[V.at]using hx) hpl
     rwa [Dt _ _ _ h2]at hb
    have z5V:=AA.set (i:=i) (o:=o1) (y:=(x.get i).setAt q y) h hd (by rw[i2,h1];exact hc) hne i1 i3;have e1:BP vs o1 (BP (chunk vs o1 f.size) o2 ws)=BP vs (o1+o2) ws:=by
     have hl1:(chunk vs o1 f.size).length=f.size:=Dt _ _ _ h2;have hl2:(BP (chunk vs o1 f.size) o2 ws).length=f.size:=by rw[IP (by omega)];exact hl1
     apply fk;intro j;rw[Fx (vs:=vs) (o:=o1) (by omega),Fx (vs:=vs) (o:=o1+o2) (ws:=ws) (by omega),hl2];by_cases hj:o1<=j/\j<o1+f.size;{rw[if_pos hj,Fx (by omega),Df];by_cases hk:o1+o2<=j/\j<o1+o2+ws.length;{rw[if_pos (by omega),if_pos hk];congr 1;omega};{rw[if_neg (by omega),if_neg hk,if_pos (by omega)];congr 1;omega}};{rw[if_neg hj,if_neg (by omega)]}
    rw[e1]at z5V;simp only[V.setAt];exact z5V
end
end
section
def Au (P:Program) (o:Oper) (a:Act) (w:World) (BC:Value->World->Prop):Prop:=
 ∀(next:Act->World->Prop) (Q:Exit->Act->World->Prop),(∀v w',BC v w'->next (a.put o.dst v) w')->o.wp P a w next Q
section
variable {P:Program} {o:Oper} {a:Act} {w w':World} {BC:Value->World->Prop}
def Au.val {v} (h:(execOp a.eval o).run P w= .ok (.value v) w') (hp:BC v w'):Au P o a w BC:=by
 intro next Q hn
 unfold Oper.wp;rw[h];exact hn v w' hp
def Au.skip (h:(execOp a.eval o).run P w= .ok .skip w') (hp:BC undef w'):Au P o a w BC:=by
 intro next Q hn
 unfold Oper.wp;rw[h];exact hn _ w' hp
def Au.enter {f args} (h:(execOp a.eval o).run P w= .ok (.enter f args) w')
  (hc:Calls P f args w' fun e w''=>∃v,e= .returned v/\BC v w''):Au P o a w BC:=by
 intro next Q hn
 unfold Oper.wp;rw[h];refine Calls.mono hc ?_;rintro e w'' ⟨v,rfl,hp⟩;exact hn v w'' hp
def Au.mono {z7b} (h:Au P o a w BC) (hp:∀v w',BC v w'->z7b v w'):Au P o a w z7b:=
 fun next Q hn=>h next Q fun v w' hv=>hn v w' (hp v w' hv)
end
structure Ext (w w':World):Prop where
 size:w.heap.size<=w'.heap.size
 old:∀b,b<w.heap.size->w'.heap[b]? =w.heap[b]?
 oo:oof w'=oof w
def Ext.refl (w:World):Ext w w:=⟨bx _,fun _ _=>rfl,rfl⟩
def Ext.trans {a b c} (h:Ext a b) (h':Ext b c):Ext a c:=
 ⟨pw h.size h'.size,fun x hx=>(h'.old x (Nat.lt_of_lt_of_le hx h.size)).trans (h.old x hx),h'.oo.trans h.oo⟩
def Ext.alloc (w:World) (o:Obj):Ext w (w.alloc o):=⟨by simp,fun _ hb=>heap_alloc_old w o hb,rfl⟩
def Ext.drew (w:World):Ext w w.drew:=⟨bx _,fun _ _=>rfl,rfl⟩
def Db {α:Type} (f:Key->Option α) (k:Key) (x:α):Key->Option α:=fun j=>if j=k then some x else f j
def BV {α:Type} (f:Nat->Option α) (k:Nat) (x:α):Nat->Option α:=fun j=>if j=k then some x else f j
def Ce {α:Type} (f:Nat->Option α) (k:Nat) (x:α):BV f k x k=some x:=by simp[BV]
def Ei {α:Type} (f:Nat->Option α) {k j:Nat} (x:α) (h:j≠k):BV f k x j=f j:=by simp[BV,h]
def BC (Γ:G) (w:World) (s':S) (x:V) (v:Value) (w':World):Prop:=
 ∃Γ',GLe Γ Γ'/\BI Γ Γ'/\AQ Γ' w' s'/\AG Γ' x v
section
variable {Γ:G} {w w':World} {s:S}
def AQ.Zlt (c:AQ Γ w s) {b:Nat} (h:Γ.Z b≠none):b<w.heap.size:=by
 cases hk:Γ.Z b with
 |none=>exact absurd hk h|some o=>exact IA (c.hZ b o hk)
def AQ.congr (c:AQ Γ w s) {s':S} (h1:∀k,s'.obj k=s.obj k) (h2:∀t,s'.live t=s.live t) (h3:∀t,s.known t=true->s'.known t=true):AQ Γ w s':=
 ⟨c.hH,c.hZ,c.hκ,fun k o h=>c.obj k o (by rw[<-h1];exact h),fun k h=>by rw[h1];exact c.dom k h,c.Jz (fun k h=>by unfold S.Bb at h ⊢;rw[h1];exact h),fun t L h=>c.tok t L (by rw[<-h2];exact h),fun t h=>h3 t (c.zc t h),c.hgl,c.hoo,c.hσ⟩
def AQ.σlt (c:AQ Γ w s) {b sz:Nat} (h:Γ.σ b=some sz):b<w.heap.size:=by obtain⟨arr,T,fr,h1,_⟩:=c.hσ b sz h;exact IA h1
def AQ.oL (c:AQ Γ w s) (he:Ext w w'):∀b sz,Γ.σ b=some sz->∃arr T fr,w'.heap[b]? =some (.cells arr T fr)/\arr.size=sz:=fun b sz h=>by rw[he.old b (c.σlt h)];exact c.hσ b sz h
def AQ.env (c:AQ Γ w s) (e:List (Nat × V)):AQ Γ w {s with env:=e}:=c.congr (fun _=>rfl) (fun _=>rfl) (fun _ h=>h)
def AQ.ext (c:AQ Γ w s) (he:Ext w w'):AQ Γ w' s:=by refine c.change (BI.refl Γ) rfl rfl rfl he.oo (fun b l h=>?_) (fun b h=>he.old b (c.Zlt h)) (fun b o sz h=>?_) (fun k o h=>?_) (fun _ h _=>h) c.dom (c.oL he) c.inj c.tok c.zc he.size;{rw[he.old b (c.Hlt (by rw[h];simp))];exact c.hH b l h};{rw[he.old b (c.κlt (by rw[h];simp))];exact c.hκ b o sz h};{refine .inl ⟨h,fun hd=>⟨fun b p sz _=>⟨rfl,rfl⟩,fun b τ hb=>?_⟩⟩;obtain⟨a1,a2,a3,_⟩:=c.Eb hb h hd;exact⟨he.old b a3,a1⟩}
def BC.same (c:AQ Γ w s) {x v} (h:AG Γ x v):BC Γ w s x v w:=⟨Γ,.refl Γ,.refl Γ,c,h⟩
def BC.ext (c:AQ Γ w s) (he:Ext w w') {x v} (h:AG Γ x v):BC Γ w s x v w':=⟨Γ,.refl Γ,.refl Γ,c.ext he,h⟩
def Mc {α:Type} (n:Key) (x:α) (l:List (Key × α)):AR ((n,x)::l) n=some x:=by simp[AR]
def Wk {α:Type} (n:Nat) (x:α) (l:List (Nat × α)):look ((n,x)::l) n=some x:=by simp[look]
def CX (s:S) (k j:Key) (o:O):S.obj {s with loc:=(k,o)::s.loc} j=if k=j then some o else s.obj j:=by unfold S.obj Bx;by_cases h:k=j;{subst h;simp[AR]};{simp[AR,h]}
def aU {s:S} {k} {o:O} (h:s.Bb k=true->o.EY=true) (j:Key) (hj:s.Bb j=true):S.Bb {s with loc:=(k,o)::s.loc} j=true:=by unfold S.Bb;rw[CX];split;{rename_i e;subst e;exact h hj};{exact hj}
def Mb (s:S) (t u:Nat) (L:Option Nat):S.live {s with tk:=(t,L)::s.tk} u=if t=u then L else s.live u:=by unfold S.live EA;by_cases h:t=u;{subst h;simp only[Wk,if_true];cases L <;> rfl};{simp[look,h]}
def MZ (s:S) (t u:Nat) (L:Option Nat):S.known {s with tk:=(t,L)::s.tk} u=(decide (t=u)||s.known u):=by unfold S.known;by_cases h:t=u;{subst h;simp[look]};{simp[look,h]}
def AQ.QR (c:AQ Γ w s) {k} (h:s.obj k=none):Γ.ι k=none:=by
 cases hk:Γ.ι k with
 |none=>rfl|some x=>exact absurd h (c.dom k (by rw[hk];simp))
def AQ.q3e (c:AQ Γ w s) {t:Nat} (h:s.known t=false):Γ.τ t=none:=by
 cases hk:Γ.τ t with
 |none=>rfl|some x=>have:=c.zc t (by rw[hk];simp);rw[h]at this;cases this
def G.Bt (Γ:G) (k:Key) (b:Nat) (τ:Ty):G:={Γ with ι:=Db Γ.ι k (b,τ)}
def AQ.Bt (c:AQ Γ w s) {k} (hn:s.obj k=none) (he:Ext w w') {τ o} (ho:∀Γ':G,BI Γ Γ'->NW Γ Γ' (some k)->Γ'.ι k=some (w.heap.size,τ)->Γ'.H w.heap.size=none->Γ'.Z w.heap.size=none->Own Γ' w' k o) (hkl:∀i,k≠.g i:=by intro i h;cases h):
  AQ (Γ.Bt k w.heap.size τ) w' {s with loc:=(k,o)::s.loc}/\BI Γ (Γ.Bt k w.heap.size τ)/\GLe Γ (Γ.Bt k w.heap.size τ):=by
 have hk:=c.QR hn;have hι:∀j x,Γ.ι j=some x->(Γ.Bt k w.heap.size τ).ι j=some x:=by
  intro j x hj;have:j≠k:=by intro e;subst e;rw[hk]at hj;cases hj
  simp[G.Bt,Db,this,hj]
 have hp:BI Γ (Γ.Bt k w.heap.size τ):=⟨gq _,hι,fun t x L h=>⟨x,L,h,bx _,fun _=>rfl⟩,fun _ _ h=>h⟩
 refine⟨?_,hp,⟨gq _,rfl,fun _ _=>rfl,fun j x h=>hι _ _ h,rfl,rfl,fun _ _ h=>h,fun i h=>by
  have:Key.g i≠k:=fun e=>hkl i e.symm;simpa[G.Bt,Db,this]using h⟩⟩
 refine c.change hp rfl rfl rfl he.oo (fun b l h=>?_) (fun b h=>he.old b (c.Zlt h)) (fun b o sz h=>?_) (fun j o' h=>?_) (fun j h h'=>by
  have:j≠k:=fun e=>by subst e;exact h' hn
  simpa[G.Bt,Db,this]using h) (fun j h=>?_) (c.oL he) (fun j j' b τ1 τ2 h1 h2=>?_) c.tok c.zc he.size
 ·have h':Γ.H b=some l:=h;rw[he.old b (c.Hlt (by rw[h'];simp))];exact c.hH b l h
 ·have h':Γ.κ b=some (o,sz):=h;rw[he.old b (c.κlt (by rw[h'];simp))];exact c.hκ b o sz h
 ·rw[CX]at h;split at h;{rename_i e;cases h;subst e;refine .inr (ho _ hp (fun _ _ _ _=>⟨rfl,rfl⟩) (by simp[G.Bt,Db]) ?_ ?_);{cases hh:Γ.H w.heap.size with|none=>exact hh|some l=>exact absurd (c.Hlt (by rw[hh];simp)) (qc _)};{cases hh:Γ.Z w.heap.size with|none=>exact hh|some l=>exact absurd (c.Zlt (by rw[hh];simp)) (qc _)}};{refine .inl ⟨h,fun hd=>⟨fun b p sz _=>⟨rfl,rfl⟩,fun b τ hb=>?_⟩⟩;obtain⟨a1,a2,a3,_⟩:=c.Eb hb h hd;exact⟨he.old b a3,a1⟩}
 ·rw[CX];split;{simp};{rename_i e;refine c.dom j ?_;have:j≠k:=fun h=>e h.symm;simpa[G.Bt,Db,this]using h}
 ·have key:∀j b τ',(Γ.Bt k w.heap.size τ).ι j=some (b,τ')->(j=k/\b=w.heap.size)\/(j≠k/\Γ.ι j=some (b,τ')/\b<w.heap.size):=by
   intro j b τ' h;by_cases hjk:j=k;{left;simp[G.Bt,Db,hjk]at h;exact⟨hjk,h.1.symm⟩}
   ·right;have h':Γ.ι j=some (b,τ'):=by simpa[G.Bt,Db,hjk]using h
    obtain⟨_,_,_,hlt,_⟩:=c.q3d h';exact⟨hjk,h',hlt⟩
  rcases key j b τ1 h1 with⟨e1,e2⟩|⟨e1,e2,e3⟩ <;> rcases key j' b τ2 h2 with⟨f1,f2⟩|⟨f1,f2,f3⟩;{exact .inl (by rw[e1,f1])};{omega};{omega};{refine(c.inj _ _ _ _ _ e2 f2).imp id (And.imp (Or.imp (fun h=>?_) (fun h=>?_)) id);{unfold S.Bb at h ⊢;rw[CX,if_neg (fun e=>e1 e.symm)];exact h};{unfold S.Bb at h ⊢;rw[CX,if_neg (fun e=>f1 e.symm)];exact h}}
def Ww (c:AQ Γ w s) {n:Nat} (hn:s.obj (.l n)=none) {x:V} {cells:Array Value} {T:TypeId} (he:Ext w w') (hw:w'.heap[w.heap.size]? =some (.cells cells T (0,0))) (hsz:x.ty.size<=cells.size)
  (hx:AA Γ none [] x (chunk cells.toList 0 x.ty.size)) (hp:x.plain=true) (hns:x.Ay=true):
  BC Γ w {s with loc:=(.l n,.box x)::s.loc} (.ptr (.l n) [] x.ty) (.pointer (some ⟨w.heap.size,0,none⟩)) w':=by
 obtain⟨h1,h2,h3⟩:=c.Bt hn he (τ:=x.ty) (o:=.box x) fun Γ' hpr _ hι hH hZ=>⟨_,cells,T,hι,hH,hZ,hw,hsz,(hx.BN hpr (by trivial)).Dd,hp,hns⟩;exact⟨_,h3,h2,h1,Py (τ0:=x.ty) (by simp[G.Bt,Db]) rfl⟩
def G.Dr (Γ:G) (b:Nat) (l:List Value):G:={Γ with H:=BV Γ.H b l}
def AQ.Dr (c:AQ Γ w s) (he:Ext w w') {arr:Array Value} {T:TypeId} {fr l r} (hw:w'.heap[w.heap.size]? =some (.cells arr T fr)) (hl:arr.toList=l++r):
  AQ (Γ.Dr w.heap.size l) w' s/\BI Γ (Γ.Dr w.heap.size l)/\GLe Γ (Γ.Dr w.heap.size l):=by
 have oH:∀b,b<w.heap.size->(Γ.Dr w.heap.size l).H b=Γ.H b:=fun b hb=>Ei _ _ (by omega);have hle:Γ.H.le (Γ.Dr w.heap.size l).H:=fun b l' h=>⟨[],by rw[oH b (c.Hlt (by rw[h];simp)),h];simp⟩;have hp:BI Γ (Γ.Dr w.heap.size l):=⟨hle,fun _ _ h=>h,fun t x L h=>⟨x,L,h,bx _,fun _=>rfl⟩,fun _ _ h=>h⟩;refine⟨?_,hp,⟨hle,rfl,fun b h=>oH b (c.Zlt h),fun _ _ h=>h,rfl,rfl,fun _ _ h=>h,fun _ h=>h⟩⟩;refine c.change hp rfl rfl rfl he.oo (fun b l' h=>?_) (fun b h=>he.old b (c.Zlt h)) (fun b o sz h=>?_) (fun k o h=>?_) (fun _ h _=>h) c.dom (c.oL he) c.inj (fun t L h=>?_) c.zc he.size
 ·by_cases hb:b=w.heap.size;{subst hb;simp[G.Dr,BV]at h;subst h;exact⟨arr,T,fr,r,hw,hl⟩}
  ·have h':Γ.H b=some l':=by simpa[G.Dr,BV,hb]using h
   rw[he.old b (c.Hlt (by rw[h'];simp))];exact c.hH b l' h'
 ·have h':Γ.κ b=some (o,sz):=h;have hlt:=c.κlt (by rw[h'];simp);rw[he.old b hlt,oH b hlt];exact c.hκ b o sz h
 ·refine .inl ⟨h,fun hd=>⟨fun b p sz hb=>⟨rfl,oH b (c.κlt (by rw[hb];simp))⟩,fun b τ hb=>?_⟩⟩;obtain⟨a1,a2,a3,_⟩:=c.Eb hb h hd;exact⟨he.old b a3,by rw[oH b a3];exact a1⟩
 ·obtain⟨x,h1,h2⟩:=c.tok t L h;refine⟨x,h1,fun b pos sz hx=>?_⟩;obtain⟨a1,a2⟩:=h2 b pos sz hx;rw[oH b (c.κlt (by rw[a2];simp))];exact⟨a1,a2⟩
def G.Hl (Γ:G) (b sz:Nat):G:={Γ with σ:=BV Γ.σ b sz}
def AQ.Hl (c:AQ Γ w s) {b:Nat} {arr:Array Value} {T:TypeId} {fr} (hw:w.heap[b]? =some (.cells arr T fr)):
  AQ (Γ.Hl b arr.size) w s/\BI Γ (Γ.Hl b arr.size)/\GLe Γ (Γ.Hl b arr.size):=by
 have hσ:∀b' sz,Γ.σ b'=some sz->(Γ.Hl b arr.size).σ b'=some sz:=by intro b' sz h;by_cases e:b'=b;{subst e;obtain⟨yy,T',fr',a1,a2⟩:=c.hσ b' sz h;rw[hw]at a1;cases a1;rw[<-a2];exact Ce _ _ _};{exact(Ei _ _ e).trans h}
 have hp:BI Γ (Γ.Hl b arr.size):=⟨gq _,fun _ _ h=>h,fun t x L h=>⟨x,L,h,bx _,fun _=>rfl⟩,hσ⟩;refine⟨?_,hp,⟨gq _,rfl,fun _ _=>rfl,fun _ _ h=>h,rfl,rfl,hσ,fun _ h=>h⟩⟩;refine c.change hp rfl rfl rfl rfl c.hH (fun _ _=>rfl) c.hκ (fun k o h=>?_) (fun _ h _=>h) c.dom (fun b' sz h=>?_) c.inj c.tok c.zc (bx _);{refine .inl ⟨h,fun hd=>⟨fun b p sz _=>⟨rfl,rfl⟩,fun b τ hb=>?_⟩⟩;obtain⟨a1,a2,a3,_⟩:=c.Eb hb h hd;exact⟨rfl,a1⟩}
 ·by_cases e:b'=b
  ·subst e;have:arr.size=sz:=by have h':BV Γ.σ b' arr.size b'=some sz:=h;rw[Ce]at h';exact Option.some.inj h'
   exact⟨arr,T,fr,hw,this⟩
  ·exact c.hσ b' sz ((Ei _ _ e).symm.trans h)
def G.DI (Γ:G) (t:Nat) (x:Option (Nat × Nat × Nat)) (L:Nat):G:=
 {Γ with τ:=BV Γ.τ t (x,L),κ:=match x with|none=>Γ.κ|some (b,_,sz)=>BV Γ.κ b (.tok t,sz)}
def AQ.DI (c:AQ Γ w s) {t:Nat} (ht:s.known t=false) {x} {L:Nat}
  (hx:∀b pos sz,x=some (b,pos,sz)->Γ.κ b=none/\Γ.Z b=none/\(∃l,Γ.H b=some l/\l.length=pos)/\∃arr T,w.heap[b]? =some (.cells arr T (0,0))/\arr.size=sz):
  AQ (Γ.DI t x L) w {s with tk:=(t,some L)::s.tk}/\BI Γ (Γ.DI t x L)/\GLe Γ (Γ.DI t x L):=by
 have hτ:=c.q3e ht;have oκ:∀b o,Γ.κ b=some o->(Γ.DI t x L).κ b=some o:=by
  intro b o h;cases x with
  |none=>exact h|some y=>
   obtain⟨b',pos,sz⟩:=y;have:b≠b':=by intro e;subst e;rw[(hx b pos sz rfl).1]at h;cases h
   simp[G.DI,BV,this,h]
 have hp:BI Γ (Γ.DI t x L):=⟨gq _,fun _ _ h=>h,fun u y M h=>by
  have:u≠t:=by intro e;subst e;rw[hτ]at h;cases h
  exact⟨y,M,by simp[G.DI,BV,this,h],bx _,fun _=>rfl⟩,fun _ _ h=>h⟩
 refine⟨?_,hp,⟨gq _,rfl,fun _ _=>rfl,fun _ _ h=>h,rfl,rfl,fun _ _ h=>h,fun _ h=>h⟩⟩;refine c.change hp rfl rfl rfl rfl c.hH (fun b _=>rfl) (fun b o sz h=>?_) (fun k o h=>?_) (fun _ h _=>h) c.dom c.hσ c.inj (fun u M h=>?_) (fun u h=>?_) (bx _)
 ·cases hk:Γ.κ b with
  |some o'=>rw[oκ b o' hk]at h;cases h;exact c.hκ b o sz hk
  |none=>
   cases x with
   |none=>have h':Γ.κ b=some (o,sz):=h;rw[hk]at h';cases h'
   |some y=>
    obtain⟨b',pos,sz'⟩:=y;by_cases e:b=b';{subst e;simp[G.DI,BV]at h;obtain⟨_,a2,⟨l,a3,_⟩,a4⟩:=hx b pos sz' rfl;rw[<-h.2];obtain⟨arr,T,q1,q2⟩:=a4;exact⟨a2,by show Γ.H b≠none;rw[a3];simp,arr,T,q1,q2,by rw[<-h.1];trivial⟩};{simp[G.DI,BV,e,hk]at h}
 ·refine .inl ⟨h,fun hd=>⟨fun b p sz hb=>⟨by rw[oκ b _ hb,hb],rfl⟩,fun b τ hb=>?_⟩⟩;obtain⟨a1,a2,a3,_⟩:=c.Eb hb h hd;exact⟨rfl,a1⟩
 ·rw[Mb]at h;split at h;{rename_i e;subst e;cases h;refine⟨x,by simp[G.DI,BV],fun b pos sz e=>?_⟩;obtain⟨a1,a2,a3,a4⟩:=hx b pos sz e;subst e;exact⟨a3,by simp[G.DI,BV]⟩};{rename_i e;obtain⟨y,h1,h2⟩:=c.tok u M h;have e':u≠t:=fun h'=>e h'.symm;refine⟨y,by simp[G.DI,BV,e',h1],fun b pos sz hy=>?_⟩;obtain⟨a1,a2⟩:=h2 b pos sz hy;exact⟨a1,oκ b _ a2⟩}
 ·rw[MZ];by_cases e:t=u;{simp[e]};{simp only[e,decide_false,jr];have e':u≠t:=fun h'=>e h'.symm;refine c.zc u ?_;simpa[G.DI,BV,e']using h}
end
end
section
def EH (s:S):V->Option (Nat × Ty × List C)
 | .sr k q lo n _ eb e=>match s.obj k with
  |some (.box x)=>match x.at q with| .d _ c=>some (eb,e,(c.elems.drop lo).take n)|_=>none
  |_=>none
 |x=>x.Ej
def PG {H} {e:Ty} {ys:List C} {m:Nat} {news:List Value} (h1:ys.length=m) (hl:news.length=m*e.size) (hr:∀i c',ys[i]? =some c'->AL H e (chunk news (i*e.size) e.size) c'):Ct news:=by
 intro v hv;obtain⟨j,hj⟩:=List.getElem?_of_mem hv;have hjl:j<m*e.size:=by rw[<-hl];exact(bu.1 hj).1
 have hs:0<e.size:=by rcases og e.size with h|h;· rw[h,Nat.mul_zero]at hjl;omega
                      ·exact h
 have hi:j / e.size<ys.length:=by rw[h1];exact(Nat.div_lt_iff_lt_mul hs).2 hjl
 have hdm:=Nat.div_add_mod j e.size;have z6a:=Nat.mod_lt j hs;refine(hr _ _ (bg hi)).one v (fg (i:=j%e.size) ?_);rw[Df,if_pos z6a,Nat.mul_comm,hdm];exact hj
section
variable {P:Program} {Γ:G} {w:World} {s:S}
def qX {b off k:Nat} {arr:Array Value} {T:TypeId} {fr l r} (hb:w.heap[b]? =some (.cells arr T fr)) (hl:arr.toList=l++r) {j:Nat} {u} (h:(chunk l off k)[j]? =some u):
  w.cell? ⟨b,off+j,none⟩=some u:=by
 rw[Df]at h;split at h
 ·have hlt:=(bu.1 h).1;have:arr[off+j]? =some u:=by rw[<-Array.getElem?_toList,hl,fm hlt];exact h
  simp[nt,hb,this]
 ·cases h
def Yb (c:AQ Γ w s) {Y v} {eb:Nat} {e:Ty} {ys:List C} (hr:AG Γ Y v) (he:EH s Y=some (eb,e,ys)) {tx E':TypeId} (hu:P.underlying tx=some (.slice E')):
  ∃n news,Src P e.size tx v n news w/\ys.length=n/\n<=maxLen/\n*eb<=140737488355328/\∀i c',ys[i]? =some c'->AL Γ.H e (chunk news (i*e.size) e.size) c':=by
 -- a slice that is known as data
 have frozen:∀{eb:Nat} {e:Ty} {ys:List C},Y.Ej=some (eb,e,ys)->∃n news,Src P e.size tx v n news w/\ys.length=n/\n<=maxLen/\n*eb<=140737488355328/\∀i c',ys[i]? =some c'->AL Γ.H e (chunk news (i*e.size) e.size) c':=by
  intro eb e ys he;obtain⟨a,n,cap,rfl,h1,h2,h3,h4,h5⟩:=KP hr he;obtain⟨a',n',z6g,e1,_,e2,e3,e4,e5,e6⟩:=Iv h5;simp at e1;obtain⟨rfl,rfl,rfl⟩:=e1;simp only[ao]at e6;have hz:∀{ad:Addr},n=0->Src P e.size tx (.slice (some ad) n cap) n [] w:=by intro ad h0;subst h0;exact po w hu _ 0 cap [] (by simp) (by simp) (by simp)
  by_cases h0:n=0;{refine⟨n,[],?_,h1,by omega,h4,fun i c' hi=>?_⟩;{cases a with|none=>subst h0;exact ur w hu cap|some ad=>exact hz h0};{have:=(bu.1 hi).1;omega}}
  ·rcases e6 with e6|⟨b,off,l,rfl,hb,hs,hc⟩;{exact absurd e6 h0}
   ·obtain⟨arr,T,fr,r,hw,hl⟩:=c.hH b l hb;have hnl:(chunk l off (n*e.size)).length=n*e.size:=Dt _ _ _ hs;have za:∀i c',ys[i]? =some c'->AL Γ.H e (chunk (chunk l off (n*e.size)) (i*e.size) e.size) c':=by
     intro i c' hi;have hil:i<n:=by rw[<-h1];exact(bu.1 hi).1
     have hle:(i+1)*e.size<=n*e.size:=bz _ hil;rw[dc]at hle;rw[EG _ _ _ _ _ (by omega)];exact hc i c' hi
    exact⟨n,chunk l off (n*e.size),po w hu _ n cap _ hnl (fun j u hj=>by rw[Ia];exact qX hw hl hj) (PG h1 hnl za),h1,by omega,h4,za⟩
 cases Y <;> (try exact frozen he)
 case sr k q lo n cp eb' e'=>
  simp only[EH]at he;cases ho:s.obj k with
  |none=>simp[ho]at he|some o=>
   cases o with
   |map=>simp[ho]at he|it=>simp[ho]at he|dead=>simp[ho]at he|box x=>
    simp only[ho]at he;cases hx:x.at q with
    |d τ cc=>
     simp only[hx,ek,gm]at he;obtain⟨rfl,rfl,rfl⟩:=he;rcases Hc hr with⟨_,rfl,a,rfl⟩|⟨b,τ0,o0,m,cap,a,a1,a2,a3,rfl,a4,a5,a6,a7,_⟩;{refine⟨0,[],?_,by simp,by unfold maxLen;omega,by rw[gy];exact dv _,fun i c' hi=>by simp at hi⟩;cases a with|none=>exact ur w hu 0|some ad=>exact po w hu _ 0 0 [] (by simp) (by simp) (by simp)};obtain⟨b',cells,T,g1,g2,g3,g4,g5,g6,g7,_⟩:=c.own a1 ho;rw[a1]at g1;cases g1;obtain⟨q1,q2,q3⟩:=g6.at_ a2 (by rw[hx];simp) g7;rw[hx]at q1 q3;simp only[pz]at q1;subst q1;simp only[AA,AL]at q3;obtain⟨cs,rfl,r1,r2,r3,r4⟩:=q3;simp only[ao];rw[Dt _ _ _ (by simpa using g5)]at q2;have hlen:((cs.drop lo).take n).length=n:=by simp;omega
     have hmul:(lo+n)*e'.size<=m*e'.size:=bz _ a3;rw[dc]at hmul;simp only[iy]at q2 r2 r4;have yx:o0+lo*e'.size+n*e'.size<=cells.toList.length:=by simp;omega
     have hnl:(chunk cells.toList (o0+lo*e'.size) (n*e'.size)).length=n*e'.size:=Dt _ _ _ yx;have za:∀i c',((cs.drop lo).take n)[i]? =some c'->AL Γ.H e' (chunk (chunk cells.toList (o0+lo*e'.size) (n*e'.size)) (i*e'.size) e'.size) c':=by intro i c' hi;rw[fu]at hi;split at hi;{rename_i hin;rw[jo]at hi;have:=r4 _ _ hi;have hle:(i+1)*e'.size<=n*e'.size:=bz _ hin;have z6S:(lo+i+1)*e'.size<=m*e'.size:=bz _ (by omega);rw[dc,dc]at z6S;rw[dc]at hle this;rw[EG _ _ _ _ _ (by omega),EG _ _ _ _ _ (by omega)]at this;rw[EG _ _ _ _ _ (by omega)];rw[show 0+(o0+(lo*e'.size+i*e'.size))=o0+lo*e'.size+i*e'.size by omega]at this;exact this};{cases hi}
     rcases og n with h0|h0;{subst h0;refine⟨0,[],?_,hlen,by omega,by rw[gy];exact dv _,fun i c' hi=>by simp at hi⟩;cases a with|none=>exact ur w hu cap|some ad=>exact po w hu _ 0 cap [] (by simp) (by simp) (by simp)}
     ·have ha:a=some ⟨b,o0+lo*e'.size,none⟩:=by rcases a4 with h|h;· omega
                                                ·exact h
      subst ha;exact⟨n,_,po w hu _ n cap _ hnl (fun j u hj=>by rw[Ia];exact qX (r:=[]) g4 (by simp) hj) (PG hlen hnl za),hlen,by omega,a7,za⟩
    |_=>simp[hx]at he
def z4y {Y:V} {v} (hr:AG Γ Y v) (hY:Y.isStr) {tx:TypeId} (hu:P.underlying tx=some .string):
  ∃n news,Src P 1 tx v n news w/\(Y.toStr.map fun b=>C.int b.toNat).length=n/\n<=maxLen/\n*1<=140737488355328/\
   ∀i c',(Y.toStr.map fun b=>C.int b.toNat)[i]? =some c'->AL Γ.H (.int .u8) (chunk news (i*1) 1) c':=by
 obtain⟨cc,rfl⟩:=V.MX hY;obtain⟨rfl,_,hl⟩:=Iw hr;have hsz:(⟨cc.toStr.toArray⟩:ByteArray).size=cc.toStr.length:=by simp[ByteArray.size]
 refine⟨cc.toStr.length,byteCells ⟨cc.toStr.toArray⟩,?_,by simp[V.toStr],by unfold maxLen;omega,by omega,fun i c' hi=>?_⟩
 ·have:=Src.ofString w hu (⟨cc.toStr.toArray⟩:ByteArray)
  rwa [hsz]at this
 ·simp only[V.toStr,dg]at hi;cases hc:cc.toStr[i]? with
  |none=>simp[hc]at hi|some b=>
   simp[hc]at hi;subst hi;have:chunk (byteCells ⟨cc.toStr.toArray⟩) (i*1) 1=[.int .u8 b.toNat]:=by
    apply fk;intro j;rw[Df];by_cases hj:j<1
    ·have:j=0:=by omega
     subst this;simp[byteCells,hc]
    ·simp[hj]
   rw[this];simp only[AL];refine⟨_,rfl,rfl,?_,?_⟩
   ·have:IntKind.u8.min=0:=by decide
    omega
   ·have:IntKind.u8.max=255:=by decide
    have:=b.toNat_lt;omega
end
def cZ {H} {e:Ty} {n m:Nat} {xs ys:List C} {olds news rest:List Value} (h1:xs.length=n) (h2:ys.length=m) (h3:olds.length=n*e.size) (h4:news.length=m*e.size)
  (hx:∀i c',xs[i]? =some c'->AL H e (chunk olds (i*e.size) e.size) c') (hy:∀i c',ys[i]? =some c'->AL H e (chunk news (i*e.size) e.size) c'):
  ∀i c',(xs++ys)[i]? =some c'->AL H e (chunk (olds++news++rest) (i*e.size) e.size) c':=by
 intro i c' hi;by_cases hlt:i<n;{rw[fm (by omega)]at hi;have:=hx i c' hi;have hb:(i+1)*e.size<=n*e.size:=bz _ (by omega);rw[dc]at hb;rw[dp,Nq _ _ _ _ (by omega)];exact this}
 ·rw[ft (by omega),h1]at hi;have hil:i-n<m:=by rw[<-h2];exact(bu.1 hi).1
  have:=hy _ c' hi;have hb:(i-n+1)*e.size<=m*e.size:=bz _ (by omega);rw[dc]at hb;have hmul:i*e.size=n*e.size+(i-n)*e.size:=by rw[<-dc];congr 1;omega
  have e1:chunk (olds++news++rest) (i*e.size) e.size=chunk news ((i-n)*e.size) e.size:=by simp only[chunk,dp];rw[hmul,<-h3,qq,kf (by omega),fx,Nat.add_sub_cancel_left,List.drop_append_of_le_length (by omega),qu (by simp;omega)]
  rw[e1];exact this
end
section
def Al (P:Program) (T:TypeId):TypeId:=match P.underlying T with|some (.slice e)=>e|_=>0
section
variable {P:Program} {Γ:G} {w w':World} {s:S}
def Lj (hP:Aq P=true) {T:TypeId} {eb:Nat} {e} (h:ty P T= .slice eb e):
  P.underlying T=some (.slice (Al P T))/\e=tyF P 11 (Al P T)/\eb=P.bytesOf (Al P T)/\Al P T<P.types.size:=by
 obtain⟨E,h1,h2,h3,h4⟩:=JD hP h;have:Al P T=E:=by simp[Al,h1]
 rw[this];exact⟨h1,h2,h3,h4⟩
def Lq {T:TypeId} (h:CB P T=true):∃i z,P.info? T=some i/\i.zero=some z/\Dp (ty P T) z.cells.toList=true/\Dp (tyF P 11 T) z.cells.toList=true:=by
 unfold CB at h;cases hi:P.info? T with
 |none=>simp[hi]at h|some i=>
  cases hz:i.zero with
  |none=>simp[hi,hz]at h|some z=>simp[hi,hz]at h;exact⟨i,z,rfl,hz,h.1.1,h.2⟩
def NN {τ:Ty} {vs:List Value} (h:Dp τ vs=true):vs.length=τ.size:=(Gy (H:=fun _=>none) h).length
def mS {w w':World} {b:Nat} {o} (hw:w'.heap[b]? =some o) (oth:∀b',b'≠b->w'.heap[b']? =w.heap[b']?):w.heap.size<=w'.heap.size:=by
 cases kh w'.heap.size w.heap.size with
 |inr h=>exact h|inl hlt=>
  have h1:=IA hw;have h3:=oth w'.heap.size (by omega);rw[Array.getElem?_eq_none (bx _),ee hlt]at h3;cases h3
def AQ.q60 (c:AQ Γ w s) {t L L' b pos sz:Nat} {l ws r} {yy:Array Value} {T:TypeId} (hl:s.live t=some L) (hτ:Γ.τ t=some (some (b,pos,sz),L)) (hw:w'.heap[b]? =some (.cells yy T (0,0)))
  (hH:Γ.H b=some l) (hκ:Γ.κ b=some (.tok t,sz)) (z73:yy.toList=l++ws++r) (hsz:yy.size=sz) (oth:∀b',b'≠b->w'.heap[b']? =w.heap[b']?) (hLL:L<L') (hoo:oof w'=oof w):
  ∃Γ',Γ'.H b=some (l++ws)/\Γ'.τ t=some (some (b,(l++ws).length,sz),L')/\AQ Γ' w' {s with tk:=(t,some L')::s.tk}/\BI Γ Γ'/\GLe Γ Γ':=by
 have hz:Γ.Z b=none:=(c.hκ b _ _ hκ).1;refine⟨{Γ with H:=BV Γ.H b (l++ws),τ:=BV Γ.τ t (some (b,(l++ws).length,sz),L')},Ce _ _ _,Ce _ _ _,?_⟩;have hle:Γ.H.le (BV Γ.H b (l++ws)):=by intro b' l' h;by_cases e:b'=b;{subst e;rw[hH]at h;cases h;exact⟨ws,Ce _ _ _⟩};{exact⟨[],by rw[Ei _ _ e,h];simp⟩}
 have hp:BI Γ {Γ with H:=BV Γ.H b (l++ws),τ:=BV Γ.τ t (some (b,(l++ws).length,sz),L')}:=by refine⟨hle,fun _ _ h=>h,fun u y M h=>?_,fun _ _ h=>h⟩;by_cases e:u=t;{subst e;rw[hτ]at h;cases h;exact⟨_,L',Ce _ _ _,by omega,fun e=>by omega⟩};{exact⟨y,M,(Ei _ _ e).trans h,bx _,fun _=>rfl⟩}
 refine⟨?_,hp,⟨hle,rfl,fun b' h=>Ei _ _ (fun e=>by subst e;exact h hz),fun _ _ h=>h,rfl,rfl,fun _ _ h=>h,fun _ h=>h⟩⟩;refine c.change hp rfl rfl rfl hoo (fun b' l' h=>?_) (fun b' h=>oth b' (fun e=>by subst e;exact h hz)) (fun b' o sz' h=>?_) (fun k o h=>?_) (fun _ h _=>h) c.dom (fun b' sz' h=>?_) c.inj (fun u M h=>?_) (fun u h=>?_) (mS hw oth)
 ·by_cases e:b'=b
  ·subst e;have h':l++ws=l':=by simpa[BV]using h
   subst h';exact⟨yy,T,(0,0),r,hw,z73⟩
  ·have h':Γ.H b'=some l':=by simpa[BV,e]using h
   rw[oth b' e];exact c.hH b' l' h'
 ·have h':Γ.κ b'=some (o,sz'):=h;by_cases e:b'=b;{subst e;rw[hκ]at h';cases h';exact⟨hz,by simp[BV],yy,T,hw,hsz,trivial⟩};{obtain⟨a1,a2,a3⟩:=c.hκ b' o sz' h';exact⟨a1,by simpa[BV,e]using a2,by rw[oth b' e];exact a3⟩}
 ·refine .inl ⟨h,fun hd=>⟨fun b' p sz' hb=>?_,fun b' τ hb=>?_⟩⟩
  ·have hb':Γ.κ b'=some (.home k p,sz'):=hb;have e:b'≠b:=by intro e;subst e;rw[hκ]at hb';cases hb'
   exact⟨rfl,Ei _ _ e⟩
  ·obtain⟨a1,a2,a3,_⟩:=c.Eb hb h hd;have e:b'≠b:=by intro e;subst e;rw[hH]at a1;cases a1
   exact⟨oth b' e,by simpa[BV,e]using a1⟩
 ·obtain⟨arr,T1,fr,a1,a2⟩:=c.hσ b' sz' h;by_cases e:b'=b;{subst e;obtain⟨_,_,arr2,T2,a3,a4,_⟩:=c.hκ b' _ _ hκ;rw[a1]at a3;cases a3;exact⟨yy,T,(0,0),hw,by omega⟩};{exact⟨arr,T1,fr,by rw[oth b' e];exact a1,a2⟩}
 ·rw[Mb]at h;split at h;{rename_i e;subst e;cases h;refine⟨_,Ce _ _ _,fun b' pos' sz' e=>?_⟩;cases e;exact⟨⟨_,Ce _ _ _,rfl⟩,hκ⟩}
  ·rename_i e;have e':u≠t:=fun h'=>e h'.symm;obtain⟨y,h1,h2⟩:=c.tok u M h;refine⟨y,(Ei _ _ e').trans h1,fun b' pos' sz' hy=>?_⟩;obtain⟨a1,a2⟩:=h2 b' pos' sz' hy;have e2:b'≠b:=by intro e2;subst e2;rw[hκ]at a2;simp at a2;exact e a2.1
   exact⟨by simpa[BV,e2]using a1,a2⟩
 ·rw[MZ];by_cases e:t=u;{simp[e]};{have e':u≠t:=fun h'=>e h'.symm;simp only[e,decide_false,jr];refine c.zc u ?_;simpa[BV,e']using h}
def AQ.q9L (c:AQ Γ w s) {t L L' b sz:Nat} {x} {l:List Value} {arr:Array Value} {T:TypeId} (hτ:Γ.τ t=some (x,L)) (hw:w.heap[b]? =some (.cells arr T (0,0)))
  (hH:Γ.H b=some l) (hκ:Γ.κ b=none) (hz:Γ.Z b=none) (hsz:arr.size=sz) (hLL:L<L'):
  ∃Γ',Γ'.H=Γ.H/\Γ'.τ t=some (some (b,l.length,sz),L')/\AQ Γ' w {s with tk:=(t,some L')::s.tk}/\BI Γ Γ'/\GLe Γ Γ':=by
 refine⟨{Γ with τ:=BV Γ.τ t (some (b,l.length,sz),L'),κ:=BV Γ.κ b (.tok t,sz)},rfl,Ce _ _ _,?_⟩;have oκ:∀b' o,Γ.κ b'=some o->BV Γ.κ b (.tok t,sz) b'=some o:=by
  intro b' o h;have:b'≠b:=by intro e;subst e;rw[hκ]at h;cases h
  rw[Ei _ _ this,h]
 have hp:BI Γ {Γ with τ:=BV Γ.τ t (some (b,l.length,sz),L'),κ:=BV Γ.κ b (.tok t,sz)}:=by refine⟨gq _,fun _ _ h=>h,fun u y M h=>?_,fun _ _ h=>h⟩;by_cases e:u=t;{subst e;rw[hτ]at h;cases h;exact⟨_,L',Ce _ _ _,by omega,fun e=>by omega⟩};{exact⟨y,M,(Ei _ _ e).trans h,bx _,fun _=>rfl⟩}
 refine⟨?_,hp,⟨gq _,rfl,fun _ _=>rfl,fun _ _ h=>h,rfl,rfl,fun _ _ h=>h,fun _ h=>h⟩⟩;refine c.change hp rfl rfl rfl rfl c.hH (fun b' _=>rfl) (fun b' o sz' h=>?_) (fun k o h=>?_) (fun _ h _=>h) c.dom c.hσ c.inj (fun u M h=>?_) (fun u h=>?_) (bx _)
 ·by_cases e:b'=b
  ·subst e;have h':sz=sz':=by have:=h;simp[BV]at this;exact this.2
   subst h';exact⟨hz,by rw[hH];simp,arr,T,hw,hsz,by have:=h;simp[BV]at this;rw[<-this];trivial⟩
  ·exact c.hκ b' o sz' ((Ei _ _ e).symm.trans h)
 ·refine .inl ⟨h,fun hd=>⟨fun b' p sz' hb=>⟨(oκ b' _ hb).trans hb.symm,rfl⟩,fun b' τ hb=>?_⟩⟩;obtain⟨a1,_⟩:=c.Eb hb h hd;exact⟨rfl,a1⟩
 ·rw[Mb]at h;split at h;{rename_i e;subst e;cases h;refine⟨_,Ce _ _ _,fun b' pos' sz' e=>?_⟩;cases e;exact⟨⟨l,hH,rfl⟩,Ce _ _ _⟩};{rename_i e;have e':u≠t:=fun h'=>e h'.symm;obtain⟨y,h1,h2⟩:=c.tok u M h;refine⟨y,(Ei _ _ e').trans h1,fun b' pos' sz' hy=>?_⟩;obtain⟨a1,a2⟩:=h2 b' pos' sz' hy;exact⟨a1,oκ b' _ a2⟩}
 ·rw[MZ];by_cases e:t=u;{simp[e]};{have e':u≠t:=fun h'=>e h'.symm;simp only[e,decide_false,jr];refine c.zc u ?_;simpa[BV,e']using h}
def AQ.z36 (c:AQ Γ w s) {t L:Nat} (hl:s.live t=some L):AQ Γ w {s with tk:=(t,some L)::s.tk}:=by refine c.congr (fun _=>rfl) (fun u=>?_) (fun u h=>?_);{rw[Mb];split;{rename_i e;rw[<-e,hl]};{rfl}};{rw[MZ,h];simp}
def mM (b:Nat):∀(vs:List Value) (o:Nat) (w:World) (arr:Array Value) (T:TypeId) (fr:Nat × Nat),w.heap[b]? =some (.cells arr T fr)->o+vs.length<=arr.size->
  ∃yy,(w.setCells b o vs).heap[b]? =some (.cells yy T fr)/\yy.toList=BP arr.toList o vs
 | [],o,w,arr,T,fr,h,_=>⟨arr,h,by simp[BP]⟩|v::vs,o,w,arr,T,fr,h,hl=>by
  have h1:(w.setCell ⟨b,o,none⟩ v).heap[b]? =some (.cells (arr.setIfInBounds o v) T fr):=by simp[xx,tj,h]
  obtain⟨yy,h2,h3⟩:=mM b vs (o+1) _ _ T fr h1 (by simp at hl ⊢;omega);refine⟨yy,h2,?_⟩;rw[h3];apply fk;intro j;simp only[cg]at hl;rw[Fx (by simp;omega),Fx (by simp;omega)];simp only[cg,rm,gd,jf];by_cases h4:o+1<=j/\j<o+1+vs.length;{rw[if_pos h4,if_pos (by omega),show j-o=(j-(o+1))+1 by omega,gf]};{rw[if_neg h4];by_cases h5:o=j;{subst h5;rw[if_pos rfl,if_pos (by omega),if_pos (by omega)];simp};{rw[if_neg h5,if_neg (by omega)]}}
def mN (b:Nat):∀(vs:List Value) (o:Nat) (w:World) (b':Nat),b'≠b->(w.setCells b o vs).heap[b']? =w.heap[b']?
 | [],_,_,_,_=>rfl|v::vs,o,w,b',h=>by rw[World.setCells,mN b vs _ _ b' h];have hb:b≠b':=fun e=>h e.symm;simp[xx,tj,hb]
def Nd (o:Oper) (x y:Operand) (t t':TypeId):Prop:=o.op= .call {callee:=.builtin .append,args:=#[x,y],argTypes:=#[t,t']}
def KR {o:Oper} {x y} {t t':TypeId} (ho:Nd o x y t t') {ρ w w' v}
  (h:(nm #[t,t'] o.type #[ρ x,ρ y]).run P w= .ok v w'):(execOp ρ o).run P w= .ok (.value v) w':=by
 unfold Nd at ho;unfold execOp;simp[ho,resolve,invoke,builtin,h]
def q1s {t tx T E:TypeId} {i:TypeInfo} (ht:P.underlying t=some (.slice E)) (hi:P.info? E=some i) {a} {n cap:Nat} {x news} (hs:Src P i.size tx x 0 news w) (h:n<=cap):
  (nm #[t,tx] T #[.slice a n cap,x]).run P w= .ok (.slice a n cap) w:=by
 have hn:news=[]:=fh (by rw[hs.newsLen];simp);subst hn;rcases hs.kind with⟨e',hk⟩|hk <;> cases a <;> simp[nm,run_underlying ht,run_underlying hk,sizeOf,typeInfo,hi,hs.len,h,hs.cells,storeCells]
def KW (P:Program) (s:S) (t':TypeId) (eb:Nat) (e:Ty) (Y:V) (ys:List C):Prop:=
 ((∃E',P.underlying t'=some (.slice E'))/\(EH s Y=some (eb,e,ys)\/(Y= .ym/\ys=[])))\/
 (P.underlying t'=some .string/\Y.isStr/\e= .int .u8/\eb=1/\ys=Y.toStr.map fun b=>C.int b.toNat)
def Ug (c:AQ Γ w s) {t':TypeId} {Y v} {eb:Nat} {e:Ty} {ys:List C} (hr:AG Γ Y v) (h:KW P s t' eb e Y ys):
  ∃n news,Src P e.size t' v n news w/\ys.length=n/\n<=maxLen/\n*eb<=140737488355328/\∀i c',ys[i]? =some c'->AL Γ.H e (chunk news (i*e.size) e.size) c':=by
 rcases h with⟨⟨E',hu⟩,h|⟨rfl,rfl⟩⟩|⟨hu,h1,rfl,rfl,rfl⟩;{exact Yb c hr h hu};{rw[Fb hr];exact⟨0,[],ur w hu 0,rfl,dv _,by rw[gy];exact dv _,fun i c' hi=>by simp at hi⟩};{exact z4y hr h1 hu}
def xD (c:AQ Γ w s):Γ.κ w.heap.size=none/\Γ.Z w.heap.size=none:=by refine⟨?_,?_⟩;{cases hh:Γ.κ w.heap.size with|none=>rfl|some x=>exact absurd (c.κlt (by rw[hh];simp)) (qc _)};{cases hh:Γ.Z w.heap.size with|none=>rfl|some x=>exact absurd (c.Zlt (by rw[hh];simp)) (qc _)}
def sT (hP:Aq P=true) (c:AQ Γ w s) {o} {a:Act} {x y} {t t':TypeId} {n:Nat} {X Y ys} {eb:Nat} {e} (ho:Nd o x y t t')
  (ht:ty P t= .slice eb e) (hz:CB P (Al P t)=true) (hn:s.known n=false)
  (hx:AG Γ X (a.eval x)) (hX:X= .ym\/∃eb' e',X= .emp eb' e') (hy:AG Γ Y (a.eval y)) (hel:KW P s t' eb e Y ys):
  Au P o a w (BC Γ w {s with tk:=(n,some ys.length)::s.tk} (.sl eb e ys n)):=by
 obtain⟨hu,he,heb,hE⟩:=Lj hP ht;obtain⟨a0,hx0⟩:∃a0,a.eval x= .slice a0 0 0:=by rcases hX with rfl|⟨eb',e',rfl⟩;{exact⟨none,Fb hx⟩};{obtain⟨h1,_⟩:=(Bi rfl rfl).1 hx;simp only[AA]at h1;obtain⟨a0,h1⟩:=h1;exact⟨a0,by simpa using h1⟩}
 obtain⟨m,news,hs,r1,r2,r3,r4⟩:=Ug c hy hel;obtain⟨i,z,hi,hzz,hzo,z6h⟩:=Lq hz;have hcz:=NN hzo;have hsz:i.size=e.size:=by have:=Cj hP 11 (Al P t);rw[he,this];simp[il,hi]
 have hby:i.bytes=eb:=by rw[heb];simp[np,hi]
 rw[<-hsz]at hs;by_cases hm:m=0;{subst hm;have hys:ys=[]:=fh r1;subst hys;obtain⟨c1,p1,g1⟩:=c.DI hn (x:=none) (L:=0) (fun _ _ _ h=>by cases h);refine Au.val (v:=.slice a0 0 0) (w':=w) (KR ho ?_) ⟨_,g1,p1,c1,(Bi rfl rfl).2 ⟨?_,rfl⟩⟩;{rw[hx0];exact q1s hu hi hs (bx _)};{simp only[AA];exact⟨a0,0,0,rfl,Dm rfl (bx _) (dv _) (by rw[gy];exact dv _) (.inl rfl),none,0,by simp[G.DI,BV],bx _,fun _=>rfl⟩}}
 ·have zo:((0+m:Nat):Int)<=9223372036854775807:=by unfold maxLen at r2;omega
  have hge:=grownCap_ge w (0+m) 0 (Al P t);have hcm:=grownCap_le_maxLen w (0+m) 0 (Al P t) (by omega);have hold:(fv i.size 0 (.slice a0 0 0)).run P w.drew= .ok ([]:List Value).toArray w.drew:=by
   cases a0 with
   |none=>exact run_firstCells_none w.drew i.size 0 0 0|some ad=>exact run_firstCells_some w.drew i.size 0 ad 0 0 [] (by simp) (by simp)
  have run:=run_append_grow_src (P:=P) w t t' o.type _ i z hu hi hzz a0 0 0 [] hold (a.eval y) m news hs (by omega) zo (by
   rw[hby];exact growslice_fits (by omega) (by rw[cm];exact r3))
  rw[<-hx0]at run;have he:Ext w (w.drew.alloc (.cells ((([]:List Value)++news).toArray++fp z.cells (grownCap w (0+m) 0 (Al P t)-(0+m))) (Al P t))):=(Ext.drew w).trans (Ext.alloc _ _);have zh:=heap_alloc_new w.drew (.cells ((([]:List Value)++news).toArray++fp z.cells (grownCap w (0+m) 0 (Al P t)-(0+m))) (Al P t));obtain⟨c1,p1,g1⟩:=c.Dr he (l:=news) (r:=(fp z.cells (grownCap w (0+m) 0 (Al P t)-(0+m))).toList) zh (by simp);obtain⟨k1,k2⟩:=xD c;have hzc:z.cells.size=e.size:=by have h1:=Cj hP 11 (Al P t);have h2:=NJ hP (Al P t);rw[‹e=_›,h1,<-h2,<-hcz];simp
  have hnl:news.length=m*e.size:=by rw[hs.newsLen,hsz]
  have zw:((([]:List Value)++news).toArray++fp z.cells (grownCap w (0+m) 0 (Al P t)-(0+m))).size=grownCap w (0+m) 0 (Al P t)*e.size:=by simp only[fx,qn,iv,size_zeroCells,hzc,hnl,<-dc];congr 1;omega
  obtain⟨c2,p2,g2⟩:=c1.DI (t:=n) hn (x:=some (w.heap.size,news.length,grownCap w (0+m) 0 (Al P t)*e.size)) (L:=ys.length) (fun b pos sz h=>by
   cases h;exact⟨k1,k2,⟨news,Ce _ _ _,rfl⟩,_,_,zh,zw⟩)
  refine Au.val (KR ho run) ⟨_,g1.trans g2,p1.trans p2,c2,(Bi rfl rfl).2 ⟨?_,rfl⟩⟩;simp only[AA];rw[show 0+m=m by omega]at hge hcm ⊢;refine⟨_,m,_,rfl,Dm r1 hge hcm r3 (.inr ⟨w.heap.size,0,news,rfl,Ce _ _ _,by omega,fun i c' hi=>?_⟩),_,_,Ce _ _ _,bx _,fun _=>⟨rfl,hnl.symm,bx _⟩⟩;rw[cm];exact(r4 i c' hi).mono p1.H
def q5q (hP:Aq P=true) (c:AQ Γ w s) {o} {a:Act} {x y} {t t':TypeId} {tk:Nat} {Y} {cs ys:List C} {eb:Nat} {e} (ho:Nd o x y t t')
  (ht:ty P t= .slice eb e) (hz:CB P (Al P t)=true) (hl:s.live tk=some cs.length)
  (hx:AG Γ (.sl eb e cs tk) (a.eval x)) (hy:AG Γ Y (a.eval y)) (hel:KW P s t' eb e Y ys) (hlen:(cs.length+ys.length)*eb<=140737488355328) (z7c:cs.length+ys.length<=maxLen):
  Au P o a w (BC Γ w {s with tk:=(tk,some (cs.length+ys.length))::s.tk} (.sl eb e (cs++ys) tk)):=by
 obtain⟨hu,he,heb,hE⟩:=Lj hP ht;obtain⟨m,news,hs,r1,r2,r3,r4⟩:=Ug c hy hel;obtain⟨n,olds,hso,o1,o2,o3,o4⟩:=Yb (P:=P) (tx:=t) c hx (show EH s (.sl eb e cs tk)=some (eb,e,cs) from rfl) hu;obtain⟨h1,_⟩:=(Bi rfl rfl).1 hx;simp only[AA]at h1;obtain⟨aa,n',cap,hv,hrc,x0,L0,hτ,hL1,hL2⟩:=h1;simp at hv;obtain⟨x1,hτ1,z74⟩:=c.tok tk _ hl;rw[hτ]at hτ1;cases hτ1;have hL2:=hL2 rfl;obtain⟨_,n1,z75,e1,_,e2,hle,z6C,hnb,hm⟩:=Iv hrc;simp at e1;obtain⟨rfl,rfl,rfl⟩:=e1;simp only[ao]at e2 hm;have hnn:n=n':=by omega
 subst hnn;obtain⟨i,z,hi,hzz,hzo,z6h⟩:=Lq hz;have hcz:=NN hzo;have hsz:i.size=e.size:=by have:=Cj hP 11 (Al P t);rw[he,this];simp[il,hi]
 have hby:i.bytes=eb:=by rw[heb];simp[np,hi]
 have hzc:z.cells.size=e.size:=by have h1:=Cj hP 11 (Al P t);have h2:=NJ hP (Al P t);rw[‹e=_›,h1,<-h2,<-hcz];simp
 rw[<-hsz]at hs hso;have hnl:news.length=m*e.size:=by rw[hs.newsLen,hsz]
 have hol:olds.length=n*e.size:=by rw[hso.newsLen,hsz]
 by_cases hm0:m=0;{subst hm0;have hys:ys=[]:=fh r1;subst hys;refine Au.val (v:=.slice aa n cap) (w':=w) (KR ho ?_) ⟨Γ,.refl Γ,.refl Γ,?_,?_⟩;{rw[hv];exact q1s hu hi hs hle};{exact c.z36 (by simpa using hl)};{rw[List.append_nil,<-hv];exact hx}}
 ·have hys:0<ys.length:=by omega
  have z7d:(cs++ys).length=n+m:=by rw[bt,o1,r1]
  have hmx:n+m<=maxLen:=by omega
  have zo:((n+m:Nat):Int)<=9223372036854775807:=by unfold maxLen at hmx;omega
  have hbb:(n+m)*eb<=140737488355328:=by rw[<-o1,<-r1];exact hlen
  by_cases z5X:n+m<=cap
  · -- in the room behind
   cases x0 with
   |none=>simp only at hL2;omega|some y0=>
    obtain⟨b,pos,sz⟩:=y0;simp only at hL2;obtain⟨rfl,z6T,hcs⟩:=hL2;obtain⟨⟨l,hH,hlp⟩,hκ⟩:=z74 b pos sz rfl;obtain⟨hZ,_,arr,T,hw,has,_⟩:=c.hκ b _ _ hκ;have z6b:n*e.size+m*e.size<=arr.size:=by rw[has,<-dc];exact pw (bz _ z5X) hcs
    have run:=run_append_room_src (P:=P) w t t' o.type _ i hu hi b 0 n cap (a.eval y) m news hs z5X
     (fun j hj=>by
      rw[hnl]at hj;simp[nt,hw];rw[hsz];omega)
     (fun j hj=>by simp[World.frozen?,hw])
    rw[<-hv]at run;rw[cm,hsz]at run;obtain⟨yy,hw',z6n⟩:=mM b news (n*e.size) w arr T (0,0) hw (by rw[hnl];exact z6b);obtain⟨arr0,T0,fr0,r0,hw0,hl0⟩:=c.hH b l hH;rw[hw]at hw0;cases hw0;have z7o:yy.toList=l++news++r0.drop news.length:=by rw[z6n,hl0];unfold BP;rw[z6T,<-hlp,List.take_left',qq,kf (by omega)];{simp};{rfl}
    obtain⟨Γ',q1,q2,q3,q4,q5⟩:=c.q60 (w':=w.setCells b (n*e.size) news) hl hτ hw' hH hκ z7o (by rw[<-has,<-jf,<-jf,z6n,IP (by rw[hnl];simpa using z6b)])
     (fun b' hb'=>mN b news _ w b' hb') (show cs.length<cs.length+ys.length by omega) (by unfold oof;rw[World.os_setCells,World.output_setCells])
    refine Au.val (KR ho run) ⟨Γ',q5,q4,q3,(Bi rfl rfl).2 ⟨?_,rfl⟩⟩;simp only[AA];refine⟨_,n+m,cap,rfl,Dm z7d z5X z6C hbb (.inr ⟨b,0,l++news,rfl,q1,?_,fun j c' hj=>?_⟩),_,_,q2,by rw[bt];exact bx _,fun _=>⟨rfl,?_,hcs⟩⟩;{simp only[bt,hnl,hlp];rw[dc];omega}
    ·rw[cm];have hold:∀i c',cs[i]? =some c'->AL Γ'.H e (chunk l (i*e.size) e.size) c':=by intro i' c'' hi';rcases hm with hm|⟨b1,off,l1,e1,hb1,hs1,hc1⟩;{have:=(bu.1 hi').1;omega};{simp at e1;obtain⟨rfl,rfl⟩:=e1;rw[hH]at hb1;cases hb1;have:=hc1 i' c'' hi';rw[cm]at this;exact this.mono q4.H}
     have zh:∀i c',ys[i]? =some c'->AL Γ'.H e (chunk news (i*e.size) e.size) c':=fun i c' hi=>(r4 i c' hi).mono q4.H;have:=cZ (rest:=[]) e2 r1 (by rw[hlp];exact z6T.symm) hnl hold zh j c' hj;simpa using this
    ·simp only[bt,hnl,hlp,dc,z6T]
  · -- a new block
   have hge:=grownCap_ge w (n+m) cap (Al P t);have hcm:=grownCap_le_maxLen w (n+m) cap (Al P t) hmx;have z6D:(fv i.size n (.slice aa n cap)).run P w.drew= .ok olds.toArray w.drew:=by rw[<-hv];exact hso.cellsD
   have run:=run_append_grow_src (P:=P) w t t' o.type _ i z hu hi hzz aa n cap olds z6D (a.eval y) m news hs (by omega) zo (by
    rw[hby];exact growslice_fits (by omega) hbb)
   rw[<-hv]at run;have z6i:Ext w (w.drew.alloc (.cells ((olds++news).toArray++fp z.cells (grownCap w (n+m) cap (Al P t)-(n+m))) (Al P t))):=(Ext.drew w).trans (Ext.alloc _ _);have zh:=heap_alloc_new w.drew (.cells ((olds++news).toArray++fp z.cells (grownCap w (n+m) cap (Al P t)-(n+m))) (Al P t));obtain⟨c1,p1,g1⟩:=c.Dr z6i (l:=olds++news) (r:=(fp z.cells (grownCap w (n+m) cap (Al P t)-(n+m))).toList) zh (by simp);obtain⟨k1,k2⟩:=xD c;have zw:((olds++news).toArray++fp z.cells (grownCap w (n+m) cap (Al P t)-(n+m))).size=grownCap w (n+m) cap (Al P t)*e.size:=by simp only[qn,iv,bt,size_zeroCells,hzc,hnl,hol,<-dc];congr 1;omega
   obtain⟨Γ',q1,q2,q3,q4,q5⟩:=c1.q9L (t:=tk) (L':=cs.length+ys.length) (show(Γ.Dr w.heap.size (olds++news)).τ tk=some (x0,cs.length) from hτ) zh (Ce _ _ _) k1 k2 zw (by omega);refine Au.val (KR ho run) ⟨Γ',g1.trans q5,p1.trans q4,q3,(Bi rfl rfl).2 ⟨?_,rfl⟩⟩;simp only[AA];have hll:(olds++news).length=(n+m)*e.size:=by rw[bt,hol,hnl,dc]
   refine⟨_,n+m,_,rfl,Dm z7d hge hcm hbb (.inr ⟨w.heap.size,0,olds++news,rfl,by rw[q1];exact Ce _ _ _,by omega,fun j c' hj=>?_⟩),_,_,q2,by rw[bt];exact bx _,fun _=>⟨rfl,hll.symm,bx _⟩⟩;rw[cm];have z7I:∀i c',cs[i]? =some c'->AL Γ'.H e (chunk olds (i*e.size) e.size) c':=fun i c' hi=>(o4 i c' hi).mono (p1.trans q4).H;have z7J:∀i c',ys[i]? =some c'->AL Γ'.H e (chunk news (i*e.size) e.size) c':=fun i c' hi=>(r4 i c' hi).mono (p1.trans q4).H;have:=cZ (rest:=[]) e2 r1 hol hnl z7I z7J j c' hj;simpa using this
end
end
section
def cG {sz:Nat}:∀(vs:List Value) (i:Nat) (v:Value),(∀v∈vs,v.cells.size=sz)->vs[i]? =some v->chunk (vs.flatMap fun v=>v.cells.toList) (i*sz) sz=v.cells.toList
 | [],_,_,_,h=>by simp at h
 |u::vs,0,v,hs,h=>by simp at h;subst h;have:=hs u (by simp);simp only[chunk,gy,ia,ju];rw[qu (by simp[this]),List.take_of_length_le (by simp[this])]
 |u::vs,i+1,v,hs,h=>by have hu:=hs u (by simp);have ih:=cG vs i v (fun v hv=>hs v (by simp[hv])) (by simpa using h);simp only[chunk,ju]at ih ⊢;rw[qq,kf (by simp[hu,dc]),fx];rw[show(i+1)*sz-u.cells.toList.length=i*sz by simp[hu,dc]];exact ih
def vK (off:Nat):∀(l:List Value) (k:Nat) (cells:Array Value),off+k+l.length<=cells.size->
  ((l.zipIdx k).foldl (fun cs (p:Value × Nat)=>cs.setIfInBounds (off+p.2) p.1) cells).toList=cells.toList.take (off+k)++l++cells.toList.drop (off+k+l.length)
 | [],k,cells,_=>by simp
 |v::l,k,cells,h=>by
  simp only[cg]at h;simp only[List.zipIdx_cons,List.foldl_cons];rw[vK off l (k+1) _ (by simp;omega)];have hlt:off+k<cells.toList.length:=by simp;omega
  simp only[rm,cg];rw[show off+(k+1)=off+k+1 by omega,List.take_add_one];simp only[gd,if_true,hlt];rw[List.take_set_of_le (bx _),List.drop_set_of_lt (by omega)];rw[show off+k+1+l.length=off+k+(l.length+1) by omega];simp
def q6A {place} {cells:Array Value} {i off size:Nat} {v:Value} {rest} (hp:place i=some (off,size)) (hv:v.cells.size=size) (hl:off+size<=cells.size):
  ∃yt,yt.toList=BP cells.toList off v.cells.toList/\qb place cells ((i,v)::rest)=qb place yt rest:=by
 refine⟨v.cells.zipIdx.foldl (fun cs (c,j)=>cs.setIfInBounds (off+j) c) cells,?_,?_⟩;{rw[<-Array.foldl_toList,Array.toList_zipIdx];have:=vK off v.cells.toList 0 cells (by simp;omega);simpa[BP]using this};{simp only[qb,hp];rw[if_neg];simp[hv];omega}
def Bm (τ:Ty) (y:V):V:=
 match y,τ with
 | .ym,.slice eb e=>.emp eb e|y,_=>y
def Jo (τ:Ty):V->List (Nat × V)->V
 |x,[]=>x|x,(i,v)::rest=>Jo τ (x.setAt [i] (Bm (τ.get i) v)) rest
def MH (τ:Ty):V->List (Nat × V)->Prop
 |_,[]=>True|x,(i,v)::rest=>(τ.child i).isSome=true/\(Bm (τ.get i) v).ty=τ.get i/\(Bm (τ.get i) v).plain=true/\x.at [i]≠.any/\MH τ (x.setAt [i] (Bm (τ.get i) v)) rest
section
variable {P:Program} {Γ:G} {w w':World} {s:S}
def ZT {τ y v} (h:AG Γ y v):AG Γ (Bm τ y) v:=by unfold Bm;split;{rw[Fb h];exact Px};{exact h}
def YQ {T:TypeId} {τ:Ty} (hP:Aq P=true) (ht:ty P T=τ) (hk:τ.known=true) {b off:Nat} {arr:Array Value} {E:TypeId} {fr} {w:World}
  (hb:w.heap[b]? =some (.cells arr E fr)) (hl:off+τ.size<=arr.size) (h1:Ct (chunk arr.toList off τ.size)):
  ∃v,(loadVar T ⟨b,off,none⟩).run P w= .ok v w/\v.cells.toList=chunk arr.toList off τ.size/\BJ v=τ.isAgg:=by
 have hno:∀s,τ≠.opq s:=by intro s e;subst e;simp[Ty.known]at hk
 have z6u:=z3W (w:=w) ht hno;have hsz:=run_sizeOf (w:=w) hP (T:=T) (by intro s e;exact hno s (ht ▸ e));rw[ht]at hsz;unfold loadVar;cases ha:τ.isAgg with
 |true=>
  have hlen:(chunk arr.toList off τ.size).length=τ.size:=Dt _ _ _ (by simpa using hl)
  have:=run_loadCells_list (P:=P) w ⟨b,off,none⟩ (chunk arr.toList off τ.size) (fun j v hv=>by
   rw[Ia];rw[Df]at hv;split at hv;{simp[nt,hb];simpa using hv}
   ·cases hv)
  rw[hlen]at this;refine⟨.agg (chunk arr.toList off τ.size).toArray,?_,by simp[fc],rfl⟩;simp[z6u,ha,hsz,this]
 |false=>
  have h0:τ.size=1:=Ty.size_leaf hk ha;have hlt:off<arr.size:=by omega
  have hc:chunk arr.toList off τ.size=[arr[off]]:=by rw[h0];simp[chunk,List.drop_eq_getElem_cons (l:=arr.toList) (i:=off) (by simpa using hlt)]
  have z56:arr[off].oneCell'=true:=h1 _ (by rw[hc];simp);have hna:BJ arr[off]=false:=by cases hv:arr[off] <;> simp_all[Value.oneCell',BJ]
  refine⟨arr[off],?_,by rw[CW hna,hc],hna⟩;have z5Y:w.cell? ⟨b,off,none⟩=some arr[off]:=by simp[nt,hb,ee hlt]
  simp[z6u,ha,z5Y]
def eS (hP:Aq P=true) (c:AQ Γ w s) {T:TypeId} {k} {q:List Nat} {τ:Ty} {x:V} {v}
  (hr:AG Γ (.ptr k q τ) v) (ho:s.obj k=some (.box x)) (hne:x.at q≠.any) (ht:τ=ty P T) (hk:τ.known=true):
  ∃u,(kx T v).run P w= .ok u w/\AG Γ (view (x.at q)) u:=by
 obtain⟨b,τ0,o,h1,h2,rfl⟩:=Gr hr;obtain⟨b',cells,E,e1,_,_,hb,hsz,za,hxp,_⟩:=c.own (by assumption) ho;rw[h1]at e1;cases e1;obtain⟨g1,g2,g3⟩:=za.at_ h2 hne hxp;have hcl:(chunk cells.toList 0 x.ty.size).length=x.ty.size:=Dt _ _ _ (by simpa using hsz);rw[hcl]at g2;have hch:chunk (chunk cells.toList 0 x.ty.size) o τ.size=chunk cells.toList o τ.size:=by rw[EG _ _ _ _ _ g2,cm]
 rw[hch]at g3;have hpl:=V.TE g3 hne;obtain⟨u,r1,r2,r3⟩:=YQ (T:=T) (E:=E) (fr:=(0,0)) hP ht.symm hk hb (by omega) (g3.one hpl);refine⟨u,?_,(Bd (by rw[z44];exact hpl)).2 ⟨?_,by rw[q2N,g1,r3]⟩⟩;{simp[kx,jv,r1]};{rw[r2];exact q2M _ g3}
def q2V:∀{q:List Nat} {τ0 f:Ty} {o:Nat} {i:Nat},τ0.walk (q++[i])=some (o,f)->∃o1 τ o2,τ0.walk q=some (o1,τ)/\τ.child i=some (o2,f)/\o=o1+o2
 | [],τ0,f,o,i,h=>by
  simp only[fx,vu]at h;cases hc:τ0.child i with
  |none=>rw[hc]at h;cases h
  |some x=>
   obtain⟨o2,f2⟩:=x;rw[hc]at h;simp only[ek,gm]at h;obtain⟨rfl,rfl⟩:=h;exact⟨0,τ0,o2,rfl,hc,by omega⟩
 |j::q,τ0,f,o,i,h=>by
  simp only[ji,vu]at h ⊢;cases hc:τ0.child j with
  |none=>rw[hc]at h;cases h
  |some x=>
   obtain⟨o3,f3⟩:=x;rw[hc]at h;simp only at h ⊢;cases hw:f3.walk (q++[i])with
   |none=>rw[hw]at h;cases h
   |some y=>
    obtain⟨o4,f4⟩:=y;rw[hw]at h;simp only[ek,gm]at h;obtain⟨rfl,rfl⟩:=h;obtain⟨o1,τ,o2,h1,h2,rfl⟩:=q2V hw;exact⟨o3+o1,τ,o2,by rw[h1],h2,by omega⟩
def q8R (hP:Aq P=true) (c:AQ Γ w s) {T:TypeId} {k} {q:List Nat} {lo m M:Nat} {e} {x:V} {cc:C} {v}
  (hr:AG Γ (.ptr k (q++[lo]) e) v) (ho:s.obj k=some (.box x)) (hat:x.at q= .d (.arr M e) cc) (ht:ty P T= .arr m e) (hk:(Ty.arr m e).known=true) (hlo:lo+m<=M):
  ∃u,(kx T v).run P w= .ok u w/\AG Γ (.d (.arr m e) (.agg ((cc.elems.drop lo).take m))) u:=by
 obtain⟨b,τ0,o,h1,h2,rfl⟩:=Gr hr;obtain⟨b',cells,E,e1,_,_,hb,hsz,za,hxp,_⟩:=c.own (by assumption) ho;rw[h1]at e1;cases e1;obtain⟨o1,τ,o2,w1,w2,rfl⟩:=q2V h2;obtain⟨g1,g2,g3⟩:=za.at_ w1 (by rw[hat];simp) hxp;have hcl:(chunk cells.toList 0 x.ty.size).length=x.ty.size:=Dt _ _ _ (by simpa using hsz);rw[hcl]at g2;have hch:chunk (chunk cells.toList 0 x.ty.size) o1 τ.size=chunk cells.toList o1 τ.size:=by rw[EG _ _ _ _ _ g2,cm]
 rw[hch,hat]at g3;rw[hat]at g1;simp only[pz]at g1;subst g1;simp only[AA,AL,iy]at g3;obtain⟨cs,rfl,r1,r2,r3,r4⟩:=g3;simp only[ao];simp only[ke]at w2;split at w2
 ·rename_i hlM;simp only[ek,gm,and_true]at w2;subst w2;simp only[iy]at g2;have hlen:((cs.drop lo).take m).length=m:=by simp;omega
  have hms:(lo+m)*e.size<=M*e.size:=bz _ hlo;rw[dc]at hms;have z7p:(chunk cells.toList (o1+lo*e.size) (m*e.size)).length=m*e.size:=Dt _ _ _ (by simp;omega);have hel:∀i c,((cs.drop lo).take m)[i]? =some c->AL Γ.H e (chunk (chunk cells.toList (o1+lo*e.size) (m*e.size)) (i*e.size) e.size) c:=by intro i c hi;rw[fu]at hi;split at hi;{rename_i hin;rw[jo]at hi;have h9:=r4 _ _ hi;have hle:(i+1)*e.size<=m*e.size:=bz _ hin;rw[dc]at hle;rw[dc]at h9;rw[EG _ _ _ _ _ (by omega)]at h9 ⊢;rw[show o1+lo*e.size+i*e.size=o1+(lo*e.size+i*e.size) by omega];exact h9};{cases hi}
  have h4:AL Γ.H (.arr m e) (chunk cells.toList (o1+lo*e.size) (Ty.arr m e).size) (.agg ((cs.drop lo).take m)):=by simp only[AL,iy];exact⟨_,rfl,hlen,z7p,Q7 hlen z7p hel,hel⟩
  obtain⟨u,q1,q2,q3⟩:=YQ (T:=T) (E:=E) (fr:=(0,0)) (off:=o1+lo*e.size) hP ht hk hb (by simp only[iy];omega) h4.one;refine⟨u,?_,Cz.2 ⟨by rw[q2];exact h4,q3⟩⟩;simp[kx,jv,q1]
 ·cases w2
def q8Q (hP:Aq P=true) (c:AQ Γ w s) {T:TypeId} {τ:Ty} {cc v}
  (hr:AG Γ (.yn τ cc) v) (ht:τ=ty P T) (hk:τ.known=true):
  ∃u,(kx T v).run P w= .ok u w/\AG Γ (.d τ cc) u:=by
 obtain⟨b,off,l,rfl,h2,h3,h4⟩:=UJ hr;obtain⟨arr,E,fr,r,hb,hl⟩:=c.hH b l h2;have hch:chunk arr.toList off τ.size=chunk l off τ.size:=by rw[hl,Nq _ _ _ _ h3]
 have hsz:off+τ.size<=arr.size:=by rw[<-jf,hl,bt];omega
 obtain⟨u,r1,r2,r3⟩:=YQ (T:=T) hP ht.symm hk hb hsz (by rw[hch];exact h4.one);exact⟨u,by simp[kx,jv,r1],Cz.2 ⟨by rw[r2,hch];exact h4,r3⟩⟩
def z5r {cells:Array Value} (h:Dp Lh cells.toList=true):cells=#[.pointer none,.slice none 0 0]:=by
 apply Array.ext';generalize cells.toList=l at h;simp only[Lh,Dp,JF,az,beq_iff_eq,decide_eq_true_eq,iy,chunk]at h;obtain⟨⟨h1,_⟩,⟨_,h2⟩,⟨_,h3⟩,_⟩:=h
 match l,h1 with
 | [a,b],_=>
  simp only[ia,List.take_succ_cons,xp,List.drop_succ_cons]at h2 h3;cases a <;> simp[NM]at h2;cases b <;> simp[NM]at h3;obtain⟨⟨rfl,rfl⟩,rfl⟩:=h3;subst h2;rfl
def Sn (τ:Ty) (T:TypeId):O:=bif Ty.beq τ Lh then .it [] T else .box (Bz τ)
def q5p (c:AQ Γ w s) {o:Oper} {a} {T:TypeId} {n:Nat} (ho:o.op= .alloc T) (hn:s.obj (.l n)=none) (hz:CB P T=true):
  Au P o a w (BC Γ w {s with loc:=(.l n,Sn (ty P T) T)::s.loc} (.ptr (.l n) [] (ty P T))):=by
 obtain⟨z,zi,hzo,hag⟩:=q1D hz;have hlen:=NN hzo;cases hB:Ty.beq (ty P T) Lh with
 |true=>
  have e:=(Ty.beq_iff _ _).1 hB;rw[e]at hzo;have hz2:z.cells=#[.pointer none,.slice none 0 0]:=z5r hzo;obtain⟨h1,h2,h3⟩:=c.Bt hn (Ext.alloc w (.cells z.cells T)) (τ:=Lh) (o:=.it [] T) fun Γ' hpr _ hι hH hZ=>⟨w.heap.size,.pointer none,.slice none 0 0,hι,hH,hZ,by rw[heap_alloc_new,hz2],.inl rfl,by simp,.inl ⟨rfl,rfl⟩⟩;simp only[Sn,hB,cond_true];rw[e];refine Au.val (v:=.pointer (some ⟨w.heap.size,0,none⟩)) (w':=w.alloc (.cells z.cells T)) ?_ ⟨_,h3,h2,h1,(Bd rfl).2 ⟨?_,by simp[pz,jb,BJ]⟩⟩;{unfold execOp;simp only[ho,yc,cu,zi,cr];simp[newVar,newRow]};{simp only[AA];exact⟨w.heap.size,Lh,0,by simp[G.Bt,Db],rfl,by simp[fc]⟩}
 |false=>
 simp only[Sn,hB,cond_false];have hX:AA Γ none [] (Bz (ty P T)) z.cells.toList:=Yw (ty P T) hzo;have hb:=Ww c hn (T:=T) (x:=Bz (ty P T)) (cells:=z.cells) (Ext.alloc w _) (heap_alloc_new w (.cells z.cells T)) (by rw[NP,<-hlen];simp) (by rw[NP,<-hlen,MI];exact hX) (Yv _) (q28 _);rw[NP]at hb;refine Au.val (v:=.pointer (some ⟨w.heap.size,0,none⟩)) (w':=w.alloc (.cells z.cells T)) ?_ hb;unfold execOp;simp only[ho,yc,cu,zi,cr];simp[newVar,newRow]
def q5s (c:AQ Γ w s) {o:Oper} {a:Act} {T:TypeId} {x} {n:Nat} {y:V} (ho:o.op= .box T x) (hn:s.obj (.l n)=none) (hr:AG Γ y (a.eval x)) (hpl:y.plain=true) (hns:y.Ay=true):
  Au P o a w (BC Γ w {s with loc:=(.l n,.box y)::s.loc} (.ptr (.l n) [] y.ty)):=by
 obtain⟨h1,_⟩:=(Bd hpl).1 hr;have hlen:=h1.length hpl;have hb:=Ww c hn (T:=T) (x:=y) (cells:=(a.eval x).cells) (Ext.alloc w _) (heap_alloc_new w (.cells (a.eval x).cells T)) (by rw[<-hlen];simp) (by rw[<-hlen,MI];exact h1) hpl hns;refine Au.val (v:=.pointer (some ⟨w.heap.size,0,none⟩)) (w':=w.alloc (.cells (a.eval x).cells T)) ?_ hb;unfold execOp;simp only[ho,vy];simp[newVar,newRow]
def q5t (c:AQ Γ w s) {o:Oper} {a:Act} {T:TypeId} {x} {y:V} {cc} (ho:o.op= .box T x) (hr:AG Γ y (a.eval x)) (hpl:y.plain=true) (hc:Bp y=some cc):
  Au P o a w (BC Γ w s (.yn y.ty cc)):=by
 obtain⟨h1,_⟩:=(Bd hpl).1 hr;have hlen:=h1.length hpl;obtain⟨c1,p1,g1⟩:=c.Dr (l:=(a.eval x).cells.toList) (r:=[]) (Ext.alloc w _) (heap_alloc_new w (.cells (a.eval x).cells T)) (by simp);refine Au.val (v:=.pointer (some ⟨w.heap.size,0,none⟩)) (w':=w.alloc (.cells (a.eval x).cells T)) ?_ ⟨_,g1,p1,c1,Mz (l:=(a.eval x).cells.toList) (Ce _ _ _) (by rw[hlen];omega) ?_⟩;{unfold execOp;simp only[ho,vy];simp[newVar,newRow]};{have:=(Ki _ h1 hc).mono p1.H;rw[<-hlen,MI];exact this}
def AQ.write (c:AQ Γ w s) {k} {x x':V} {b:Nat} {τ} {yt:Array Value} {T:TypeId}
  (ho:s.obj k=some (.box x)) (hι:Γ.ι k=some (b,τ)) (zh:w'.heap[b]? =some (.cells yt T (0,0))) (zg:∀b',b'≠b->w'.heap[b']? =w.heap[b']?) (hoo:oof w'=oof w)
  (hsz:x'.ty.size<=yt.size) (hx:AA Γ (some k) [] x' (chunk yt.toList 0 x'.ty.size)) (ht:x'.ty=x.ty) (hp:x'.plain=true) (hns:x'.Ay=true)
  (hcs:∀arr T fr,w.heap[b]? =some (.cells arr T fr)->yt.size=arr.size):
  AQ Γ w' {s with loc:=(k,.box x')::s.loc}:=by
 obtain⟨hH,hZ,hlt,e2⟩:=c.Eb hι ho rfl;simp only[O.ty]at e2;refine c.change (.refl Γ) rfl rfl rfl hoo (fun b' l h=>?_) (fun b' h=>zg b' (fun e=>by subst e;exact h hZ)) (fun b' o sz h=>?_) (fun j o h=>?_) (fun _ h _=>h) (fun j h=>?_) (fun b' sz h=>?_) (c.Jz (aU fun h=>by rw[Ed ho]at h;cases h)) c.tok c.zc (mS zh zg);{rw[zg b' (fun e=>by subst e;rw[hH]at h;cases h)];exact c.hH b' l h};{obtain⟨a1,a2,a3⟩:=c.hκ b' o sz h;rw[zg b' (fun e=>by subst e;exact a2 hH)];exact⟨a1,a2,a3⟩};{rw[CX]at h;split at h;{rename_i e;subst e;cases h;exact .inr ⟨b,yt,T,by rw[hι,e2,ht],hH,hZ,zh,hsz,hx,hp,hns⟩};{rename_i e;refine .inl ⟨h,fun hd=>⟨fun _ _ _ _=>⟨rfl,rfl⟩,fun b' τ' hb=>?_⟩⟩;obtain⟨a1,a2,a3,_⟩:=c.Eb hb h hd;refine⟨zg b' (fun e'=>?_),a1⟩;subst e';exact e (c.dI hι hb (by rw[Ed ho];rfl) (by rw[Ed h];exact hd))}};{rw[CX];split;{simp};{exact c.dom j h}};{obtain⟨arr,T1,fr,a1,a2⟩:=c.hσ b' sz h;by_cases e:b'=b;{subst e;exact⟨yt,T,(0,0),zh,by rw[hcs _ _ _ a1];exact a2⟩};{exact⟨arr,T1,fr,by rw[zg b' e];exact a1,a2⟩}}
def z30 {T:TypeId} {τ:Ty} (hP:Aq P=true) (ht:ty P T=τ) (hk:τ.known=true) {b off:Nat} {arr:Array Value} {E:TypeId} {v:Value}
  (hb:w.heap[b]? =some (.cells arr E (0,0))) (hl:off+τ.size<=arr.size) (hv:v.cells.toList.length=τ.size) (h1:Ct v.cells.toList):
  (storeVar T ⟨b,off,none⟩ v).run P w= .ok () (w.setRow b (BP arr.toList off v.cells.toList).toArray):=by
 have hsz:=run_sizeOf (w:=w) hP (T:=T) (by intro s e;rw[ht]at e;subst e;simp[Ty.known]at hk);rw[ht]at hsz;have hv':v.cells.size=τ.size:=by simpa using hv
 have hst:=run_storeCells_at P b off E v.cells.toList 0 arr w hb (by simp;omega) h1;simp only[Nat.add_zero]at hst;simp[storeVar,hsz,hv',hst,BP]
def q13 (vs ws:List Value) {o n:Nat} (h:o+ws.length<=n) (hn:n<=vs.length):chunk (BP vs o ws) 0 n=BP (chunk vs 0 n) o ws:=by apply fk;intro i;have hl:(chunk vs 0 n).length=n:=Dt _ _ _ (by omega);rw[Df,Fx (by omega),Fx (by omega),Df];simp only[cm];by_cases hi:i<n;{rw[if_pos hi,if_pos hi]};{rw[if_neg hi,if_neg (by omega),if_neg hi]}
def q5F (hP:Aq P=true) (c:AQ Γ w s) {o:Oper} {a:Act} {t:TypeId} {l cp:Operand} {L Cp:V} {k1 k2:IntKind} {nl nc:Nat} {n:Nat} {eb:Nat} {e:Ty}
  (ho:o.op= .makeSlice t l cp) (ht:ty P t= .slice eb e) (hz:CB P (Al P t)=true) (hn:s.obj (.l n)=none)
  (hl:a.eval l= .int k1 nl) (hc:a.eval cp= .int k2 nc) (h1:nl<=nc) (h2:nc<=maxLen) (hb:nc*eb<=140737488355328) (hes:e.size≠0) {cpv:Option Nat} (z76:∀c,cpv=some c->nc=c):
  Au P o a w (BC Γ w {s with loc:=(.l n,.box (.d (.arr nl e) (.agg (ay nl (AJ e)))))::s.loc} (.sr (.l n) [] 0 nl cpv eb e)):=by
 obtain⟨hu,he,heb,hE⟩:=Lj hP ht;obtain⟨i,z,hi,hzz,hzo,z6h⟩:=Lq hz;have hcz:=NN hzo;have hsz:i.size=e.size:=by have:=Cj hP 11 (Al P t);rw[he,this];simp[il,hi]
 have hby:i.bytes=eb:=by rw[heb];simp[np,hi]
 have hzc:z.cells.size=e.size:=by have h1:=Cj hP 11 (Al P t);have h2:=NJ hP (Al P t);rw[he,h1,<-h2,<-hcz];simp
 have w1:IntKind.i64.wrap (nl:Int)=nl:=df _ (by unfold maxLen at h2;omega);have w2:IntKind.i64.wrap (nc:Int)=nc:=df _ (by unfold maxLen at h2;omega);have hb':¬(281474976710656:Int)<(eb:Int)*(nc:Int):=by
  have:(eb:Int)*(nc:Int)=((nc*eb:Nat):Int):=by rw[Int.mul_comm];push_cast;rfl
  rw[this];omega
 have zi:(rf t (a.eval l) (a.eval cp)).run P w= .ok (.slice (some ⟨w.heap.size,0,none⟩) nl nc) (w.alloc (.cells ((ij (nc*e.size)).map (z.cells[· %z.cells.size]!)) (Al P t))):=by
  by_cases h0:nc=0
  ·subst h0;have:nl=0:=by omega
   subst this;have h00:(vv (fun _=>(default:Value)) (ij 0))=#[]:=by apply gz;simp
   have h01:(vv (fun x=>z.cells[x%z.cells.size]!) (ij 0))=#[]:=by apply gz;simp
   have w0:IntKind.i64.wrap 0=0:=by decide
   simp[rf,hl,hc,run_underlying hu,asInt,asIntOf,typeInfo,hi,w0,sizeOf,hsz,newRow,h00,h01]
  ·have h3:¬(nc*e.size=0):=xr h0 hes;have h4:¬((nc:Int)<(nl:Int)):=by omega
   have h5:¬((nc:Int)<0):=by omega
   have h6:¬((nl:Int)<0):=by omega
   simp[rf,hl,hc,run_underlying hu,asInt,asIntOf,typeInfo,hi,w1,w2,sizeOf,hsz,newRow,h3,hby,hb',h4,h5,h6,zeroValue,hzz]
 have zw:((ij (nc*e.size)).map (z.cells[· %z.cells.size]!)).size=nc*e.size:=by rw[Array.size_map,Array.size_range]
 have hnl:nl*e.size<=nc*e.size:=bz _ h1;have hX:∀j,j<nl->chunk ((ij (nc*e.size)).map (z.cells[· %z.cells.size]!)).toList (j*e.size) e.size=z.cells.toList:=by
  intro j hlt;apply fk;intro q;rw[Df];have hb2:(j+1)*e.size<=nc*e.size:=bz _ (by omega);rw[dc]at hb2;split
  ·rename_i hq;have e1:(j*e.size+q)%z.cells.size=q:=by rw[hzc,Nat.add_comm,Nat.add_mul_mod_self_right,Nat.mod_eq_of_lt hq]
   rw[lr,dg,Array.toList_range,ir (by omega)];simp only[Option.map_some,e1];have:q<z.cells.size:=by omega
   simp[getElem!_pos z.cells q this]
  ·rw[gb (by simp;omega)]
 have za:AA Γ none [] (.d (.arr nl e) (.agg (ay nl (AJ e)))) (chunk ((ij (nc*e.size)).map (z.cells[· %z.cells.size]!)).toList 0 (V.d (.arr nl e) (.agg (ay nl (AJ e)))).ty.size):=by
  simp only[AA,pz,iy];have hlen:(chunk ((ij (nc*e.size)).map (z.cells[· %z.cells.size]!)).toList 0 (nl*e.size)).length=nl*e.size:=Dt _ _ _ (by simp only[jf,zw];omega);have hel:∀i c',(ay nl (AJ e))[i]? =some c'->AL Γ.H e (chunk (chunk ((ij (nc*e.size)).map (z.cells[· %z.cells.size]!)).toList 0 (nl*e.size)) (i*e.size) e.size) c':=by intro i c' hi;rw[ng]at hi;split at hi;{rename_i hlt;cases hi;have hb2:(i+1)*e.size<=nl*e.size:=bz _ hlt;rw[dc]at hb2;rw[EG _ _ _ _ _ (by omega),cm,hX i hlt,he];exact Gy z6h};{cases hi}
  simp only[AL];exact⟨_,rfl,by simp,hlen,PG (by simp) hlen hel,hel⟩
 obtain⟨Γ',q1,q2,q3,q4⟩:=Ww c hn (T:=Al P t) (Ext.alloc w _) (heap_alloc_new w (.cells ((ij (nc*e.size)).map (z.cells[· %z.cells.size]!)) (Al P t))) (by rw[zw];exact hnl) za rfl rfl;obtain⟨y1,y2,y3⟩:=q3.Hl (heap_alloc_new w (.cells ((ij (nc*e.size)).map (z.cells[· %z.cells.size]!)) (Al P t)));refine Au.val (v:=.slice (some ⟨w.heap.size,0,none⟩) nl nc) (w':=w.alloc (.cells ((ij (nc*e.size)).map (z.cells[· %z.cells.size]!)) (Al P t))) ?_ ⟨_,q1.trans y3,q2.trans y2,y1,?_⟩;{unfold execOp;simp only[ho,cu,zi,cr,fb]};{obtain⟨b,τ0,o',r1,r2,r3⟩:=Gr q4;simp at r3;obtain⟨rfl,rfl⟩:=r3;exact YI (show(G.Hl Γ' _ _).ι (.l n)=_ from r1) r2 (by omega) (.inr (by simp)) h1 h2 (pw (bz _ h1) hb) z76 (fun _=>.inr ⟨_,Ce _ _ _,by rw[zw,cm,cm];exact bx _⟩)}
def qR (hP:Aq P=true) (w:World) (a:Act) {t:TypeId} {len:Nat} {parts:Array (Nat × Operand)} {eb:Nat} {e:Ty}
  (ht:ty P t= .slice eb e) (hz:CB P (Al P t)=true) (hlen:0<len) (hes:e.size≠0) (zy:len*e.size<=16777216)
  (z5W:parts.toList.map (·.1)=fi len) (z5U:∀v∈(parts.toList.map fun x=>a.eval x.2),v.cells.size=e.size):
  (vm t len (parts.map fun(i,x)=>(i,a.eval x))).run P w= .ok (.slice (some ⟨w.heap.size,0,none⟩) len len) (w.alloc (.cells ((parts.toList.map fun x=>a.eval x.2).flatMap fun v=>v.cells.toList).toArray (Al P t)))/\
  ((parts.toList.map fun x=>a.eval x.2).flatMap fun v=>v.cells.toList).length=len*e.size:=by
 obtain⟨hu,he,heb,hE⟩:=Lj hP ht;obtain⟨i,z,hi,hzz,hzo,z6h⟩:=Lq hz;have hcz:=NN hzo;have hsz:i.size=e.size:=by have:=Cj hP 11 (Al P t);rw[he,this];simp[il,hi]
 have hzc:z.cells.size=e.size:=by have h1:=Cj hP 11 (Al P t);have h2:=NJ hP (Al P t);rw[he,h1,<-h2,<-hcz];simp
 have hpl:parts.toList.length=len:=by have:=congrArg ak z5W;simpa using this
 have hvs:(parts.map fun(i,x)=>(i,a.eval x)).toList=((parts.toList.map fun x=>a.eval x.2).zipIdx 0).map fun x=>(x.2,x.1):=by
  apply fk;intro j;simp only[lr,dg,List.getElem?_zipIdx];cases hj:parts.toList[j]? with
  |none=>simp|some x=>
   have:(parts.toList.map (·.1))[j]? =some x.1:=by simp[hj]
   rw[z5W]at this;have hlt:j<len:=by rw[<-hpl];exact(bu.1 hj).1
   simp[ir hlt]at this;simp[this]
 have hf:=Great.fill_whole (s:=e.size) (by omega) (parts.toList.map fun x=>a.eval x.2) ((ij (len*e.size)).map (z.cells[· %z.cells.size]!)) z5U (by simp[hpl]);have run:=run_buildSlice (P:=P) w t (Al P t) len (parts.map fun(i,x)=>(i,a.eval x)) _ i z hu hi hzz (by rw[hsz];omega) (by rw[hsz];exact xr (by omega) hes) (by rw[hsz,hvs];exact hf);refine⟨run,?_⟩;simp only[List.length_flatMap];have:(List.map (fun v=>v.cells.toList.length) (parts.toList.map fun x=>a.eval x.2))=ay len e.size:=by apply List.eq_replicate_iff.2;refine⟨by simp[hpl],fun b hb=>?_⟩;obtain⟨v,hv,rfl⟩:=List.mem_map.1 hb;simpa using z5U v hv
 rw[this];simp
def sU (hP:Aq P=true) (c:AQ Γ w s) {o:Oper} {a:Act} {t:TypeId} {len:Nat} {parts:Array (Nat × Operand)} {cs:List C} {eb:Nat} {e:Ty}
  (ho:o.op= .buildSlice t len parts) (ht:ty P t= .slice eb e) (hz:CB P (Al P t)=true) (hlen:0<len) (hes:e.size≠0) (zy:len*e.size<=16777216) (hb:len*eb<=140737488355328)
  (z5W:parts.toList.map (·.1)=fi len) (hcs:cs.length=len)
  (hx:∀(i:Nat) (x:Nat × Operand) (cc:C),parts.toList[i]? =some x->cs[i]? =some cc->AG Γ (.d e cc) (a.eval x.2)):
  Au P o a w (fun v w'=>(∃ad,v= .slice ad len len)/\BC Γ w s (.d (.slice eb e) (.slice cs)) v w'):=by
 have hpl:parts.toList.length=len:=by have:=congrArg ak z5W;simpa using this
 have za:∀(j:Nat) (v:Value),(parts.toList.map fun x=>a.eval x.2)[j]? =some v->∃cc,cs[j]? =some cc/\AG Γ (.d e cc) v:=by
  intro j v hj;simp only[dg]at hj;cases hx':parts.toList[j]? with
  |none=>simp[hx']at hj|some x=>
   simp[hx']at hj;have hlt:j<len:=by rw[<-hpl];exact(bu.1 hx').1
   have hcj:cs[j]? =some cs[j]:=bg (by omega);exact⟨_,hcj,hj ▸ hx j x _ hx' hcj⟩
 have z5U:∀v∈(parts.toList.map fun x=>a.eval x.2),v.cells.size=e.size:=by intro v hv;obtain⟨j,hj⟩:=oa.1 hv;obtain⟨cc,_,hr⟩:=za j v hj;have:=(Cz.1 hr).1.length;simpa using this
 obtain⟨run,z6f⟩:=qR hP w a ht hz hlen hes zy z5W z5U;obtain⟨c1,p1,g1⟩:=c.Dr (Ext.alloc w _) (l:=(parts.toList.map fun x=>a.eval x.2).flatMap fun v=>v.cells.toList) (r:=[]) (heap_alloc_new w (.cells ((parts.toList.map fun x=>a.eval x.2).flatMap fun v=>v.cells.toList).toArray (Al P t))) (by simp);refine Au.val (v:=.slice (some ⟨w.heap.size,0,none⟩) len len) (w':=w.alloc (.cells ((parts.toList.map fun x=>a.eval x.2).flatMap fun v=>v.cells.toList).toArray (Al P t))) ?_ ⟨⟨_,rfl⟩,_,g1,p1,c1,Pz (Dm hcs (bx _) (by have:=tu len (vp hes);unfold maxLen;omega) hb (.inr ⟨w.heap.size,0,_,rfl,Ce _ _ _,by rw[z6f];omega,fun j c' hj=>?_⟩))⟩;{unfold execOp;simp only[ho,cu,run,cr,fb]}
 ·have hlt:j<len:=by rw[<-hcs];exact(bu.1 hj).1
  have hv:(parts.toList.map fun x=>a.eval x.2)[j]? =some ((parts.toList.map fun x=>a.eval x.2)[j]'(by simp[hpl];omega)):=bg _;obtain⟨cc,hcc,hr⟩:=za j _ hv;rw[hj]at hcc;cases hcc;have:=cG _ j _ z5U hv;rw[cm,this];exact(Cz.1 hr).1.mono p1.H
def q09 {Γ} {τ:Ty} {cells:List Value}:∀(xs:List V) (p:List Nat) (i:Nat),(∀(j:Nat) y,xs[j]? =some y->∃o f,τ.child (i+j)=some (o,f)/\y.ty=f/\o+f.size<=cells.length/\AA Γ none [] y (chunk cells o f.size))->Aa Γ none p i τ xs cells
 | [],_,_,_=>by simp only[Aa]
 |x::xs,p,i,h=>by simp only[Aa];obtain⟨o,f,h1,h2,h3,h4⟩:=h 0 x rfl;exact⟨⟨o,f,h1,h2,h3,h4.Dd⟩,q09 xs p (i+1) fun j y hy=>by rw[show i+1+j=i+(j+1) by omega];exact h (j+1) y hy⟩
def q5y (hP:Aq P=true) (c:AQ Γ w s) {o:Oper} {a:Act} {t:TypeId} {len:Nat} {parts:Array (Nat × Operand)} {vs:List V} {eb:Nat} {e:Ty} {n:Nat} (hn:s.obj (.l n)=none)
  (ho:o.op= .buildSlice t len parts) (ht:ty P t= .slice eb e) (hz:CB P (Al P t)=true) (hlen:0<len) (hes:e.size≠0) (zy:len*e.size<=16777216) (hb:len*eb<=140737488355328)
  (z5W:parts.toList.map (·.1)=fi len) (hcs:vs.length=len)
  (hx:∀(i:Nat) (x:Nat × Operand) (y:V),parts.toList[i]? =some x->vs[i]? =some y->AG Γ y (a.eval x.2)) (hy:∀y∈vs,y.ty=e/\y.plain=true) (hns:V.CF vs=true):
  Au P o a w (BC Γ w {s with loc:=(.l n,.box (.agg (.arr len e) vs))::s.loc} (.sr (.l n) [] 0 len (some len) eb e)):=by
 have hpl:parts.toList.length=len:=by have:=congrArg ak z5W;simpa using this
 have za:∀(j:Nat) (v:Value),(parts.toList.map fun x=>a.eval x.2)[j]? =some v->∃y,vs[j]? =some y/\y.ty=e/\y.plain=true/\AA Γ none [] y v.cells.toList:=by
  intro j v hj;simp only[dg]at hj;cases hx':parts.toList[j]? with
  |none=>simp[hx']at hj|some x=>
   simp[hx']at hj;have hlt:j<len:=by rw[<-hpl];exact(bu.1 hx').1
   have hcj:vs[j]? =some vs[j]:=bg (by omega);obtain⟨h1,h2⟩:=hy _ (fg hcj);exact⟨_,hcj,h1,h2,hj ▸ ((Bd h2).1 (hx j x _ hx' hcj)).1⟩
 have z5U:∀v∈(parts.toList.map fun x=>a.eval x.2),v.cells.size=e.size:=by intro v hv;obtain⟨j,hj⟩:=oa.1 hv;obtain⟨y,_,h1,h2,hr⟩:=za j v hj;have:=hr.length h2;rw[h1]at this;simpa using this
 obtain⟨run,z6f⟩:=qR hP w a ht hz hlen hes zy z5W z5U;have z56:Ct ((parts.toList.map fun x=>a.eval x.2).flatMap fun v=>v.cells.toList):=by intro u hu;obtain⟨v,hv,hu⟩:=List.mem_flatMap.1 hu;obtain⟨j,hj⟩:=oa.1 hv;obtain⟨y,_,_,h2,hr⟩:=za j v hj;exact hr.one h2 u hu
 have hX:AA Γ none [] (.agg (.arr len e) vs) ((parts.toList.map fun x=>a.eval x.2).flatMap fun v=>v.cells.toList):=by
  simp only[AA];refine⟨z6f,z56,hcs,rfl,q09 _ _ _ fun j y hj=>?_⟩;have hlt:j<len:=by rw[<-hcs];exact(bu.1 hj).1
  have hv:(parts.toList.map fun x=>a.eval x.2)[j]? =some ((parts.toList.map fun x=>a.eval x.2)[j]'(by simp[hpl];omega)):=bg _;obtain⟨y',hy',h1,h2,hr⟩:=za j _ hv;rw[hj]at hy';cases hy';have:=cG _ j _ z5U hv;have hm:(j+1)*e.size<=len*e.size:=bz _ hlt;rw[dc]at hm;refine⟨j*e.size,e,by simp only[ke,cm];rw[if_pos hlt],h1,by rw[z6f];omega,?_⟩;rw[this];exact hr
 obtain⟨Γ',q1,q2,q3,q4⟩:=Ww c hn (T:=Al P t) (Ext.alloc w _) (heap_alloc_new w (.cells ((parts.toList.map fun x=>a.eval x.2).flatMap fun v=>v.cells.toList).toArray (Al P t)))
  (x:=.agg (.arr len e) vs) (by rw[iv,z6f];exact bx _) (by rw[show(V.agg (.arr len e) vs).ty.size=((parts.toList.map fun x=>a.eval x.2).flatMap fun v=>v.cells.toList).length from z6f.symm,mj,MI];exact hX) rfl hns
 refine Au.val (v:=.slice (some ⟨w.heap.size,0,none⟩) len len) (w':=w.alloc (.cells ((parts.toList.map fun x=>a.eval x.2).flatMap fun v=>v.cells.toList).toArray (Al P t))) ?_ ⟨Γ',q1,q2,q3,?_⟩;{unfold execOp;simp only[ho,cu,run,cr,fb]};{obtain⟨b,τ0,o',r1,r2,r3⟩:=Gr q4;simp at r3;obtain⟨rfl,rfl⟩:=r3;exact YI (show Γ'.ι (.l n)=_ from r1) r2 (by omega) (.inr (by simp)) (bx _) (by have:=tu len (vp hes);unfold maxLen;omega) hb (fun c h=>by cases h;rfl) (fun h=>by cases h)}
def q5w (hP:Aq P=true) (c:AQ Γ w s) {o:Oper} {a:Act} {t:TypeId} {len:Nat} {parts:Array (Nat × Operand)} {cs:List C} {eb:Nat} {e:Ty}
  (ho:o.op= .buildSlice t len parts) (ht:ty P t= .slice eb e) (hz:CB P (Al P t)=true) (hlen:0<len) (hes:e.size≠0) (zy:len*e.size<=16777216) (hb:len*eb<=140737488355328)
  (z5W:parts.toList.map (·.1)=fi len) (hcs:cs.length=len)
  (hx:∀(i:Nat) (x:Nat × Operand) (cc:C),parts.toList[i]? =some x->cs[i]? =some cc->AG Γ (.d e cc) (a.eval x.2)):
  Au P o a w (BC Γ w s (.d (.slice eb e) (.slice cs))):=
 (sU hP c ho ht hz hlen hes zy hb z5W hcs hx).mono fun _ _ h=>h.2
def q5z (hP:Aq P=true) (c:AQ Γ w s) {o:Oper} {a:Act} {t:TypeId} {len:Nat} {parts:Array (Nat × Operand)} {cs:List C} {eb:Nat} {e:Ty} {n:Nat} (hn:s.known n=false)
  (ho:o.op= .buildSlice t len parts) (ht:ty P t= .slice eb e) (hz:CB P (Al P t)=true) (hlen:0<len) (hes:e.size≠0) (zy:len*e.size<=16777216) (hb:len*eb<=140737488355328)
  (z5W:parts.toList.map (·.1)=fi len) (hcs:cs.length=len)
  (hx:∀(i:Nat) (x:Nat × Operand) (cc:C),parts.toList[i]? =some x->cs[i]? =some cc->AG Γ (.d e cc) (a.eval x.2)):
  Au P o a w (BC Γ w {s with tk:=(n,some cs.length)::s.tk} (.sl eb e cs n)):=by
 refine(sU hP c ho ht hz hlen hes zy hb z5W hcs hx).mono ?_;rintro v w' ⟨⟨ad,rfl⟩,Γ',g1,p1,c1,hr⟩;obtain⟨c2,p2,g2⟩:=c1.DI hn (x:=none) (L:=cs.length) (fun _ _ _ h=>by cases h);refine⟨_,g1.trans g2,p1.trans p2,c2,(Bi rfl rfl).2 ⟨?_,rfl⟩⟩;obtain⟨h1,_⟩:=(Bi rfl rfl).1 (hr.BN p2);simp only[AA]at h1 ⊢;exact⟨ad,len,len,rfl,h1,none,cs.length,by simp[G.DI,BV],bx _,fun _=>rfl⟩
def q5x (hP:Aq P=true) (c:AQ Γ w s) {o:Oper} {a} {t:TypeId} {eb:Nat} {e} (ho:o.op= .buildSlice t 0 #[]) (ht:ty P t= .slice eb e):
  Au P o a w (BC Γ w s (.emp eb e)):=by
 obtain⟨hu,he,heb,hE⟩:=Lj hP ht;have hz:=Ix (f:=11) hP (w:=w) hE;refine Au.val (v:=.slice (some ⟨w.heap.size,0,none⟩) 0 0) (w':=w.alloc (.cells #[] (Al P t))) ?_ (.ext c (Ext.alloc _ _) Px);have h0:(vv (fun _=>(default:Value)) (ij 0))=#[]:=by apply gz;simp
 unfold execOp;simp[ho,vm,run_underlying hu,hz,qb,newRow,h0]
def cB {place:Nat->Option (Nat × Nat)} {τ:Ty} (hd:τ.Cl=true) (hpl:∀i o f,τ.child i=some (o,f)->place i=some (o,f.size)) {ρ:Operand->V} {ev:Operand->Value}:
  ∀(L:List (Nat × Operand)) (x:V) (cells:Array Value),AA Γ none [] x cells.toList->x.ty=τ->x.plain=true->(∀p∈L,AG Γ (ρ p.2) (ev p.2))->MH τ x (L.map fun p=>(p.1,ρ p.2))->
  ∃yt,qb place cells (L.map fun p=>(p.1,ev p.2))=some yt/\AA Γ none [] (Jo τ x (L.map fun p=>(p.1,ρ p.2))) yt.toList/\(Jo τ x (L.map fun p=>(p.1,ρ p.2))).ty=τ/\(Jo τ x (L.map fun p=>(p.1,ρ p.2))).plain=true
 | [],x,cells,hx,ht,hp,_,_=>⟨cells,rfl,hx,ht,hp⟩|(i,y)::L,x,cells,hx,ht,hp,hr,hok=>by
  simp only[dy,MH]at hok;obtain⟨h1,h2,h3,h4,h6⟩:=hok;obtain⟨⟨o,f⟩,hc⟩:=Option.isSome_iff_exists.1 h1;have hf:=Qn hc;rw[hf]at h2 h3 h6;have hy:=ZT (τ:=f) (hr (i,y) (by simp));obtain⟨q1,q2⟩:=(Bd h3).1 hy;have z7e:x.ty.walk [i]=some (o,(Bm f (ρ y)).ty):=by rw[ht,h2];simp[vu,hc]
  obtain⟨g1,g2,_⟩:=hx.at_ z7e h4 hp;have hlen:=q1.length h3;rw[h2]at hlen g2;have q3:AA Γ none ([]++[i]) (Bm f (ρ y)) (ev y).cells.toList:=q1.Dd;obtain⟨r1,r2,r3⟩:=AA.setAt hx hp (by rw[ht];exact hd) z7e h4 q3 h3;obtain⟨yt,e1,e2⟩:=q6A (rest:=L.map fun p=>(p.1,ev p.2)) (hpl i o f hc) (by simpa using hlen) (by simpa using g2);simp only[dy,e2,Jo,hf];exact cB hd hpl L _ yt (by rw[e1];exact r1) (by rw[r2,ht]) r3 (fun p hp'=>hr p (by simp[hp'])) h6
def q80 {gs:List Field}:∀{places:List (Nat × Nat)} {j:Nat} {g:Field},gs.mapM (fun f=>(P.info? f.type).map fun i=>(f.offset,i.size))=some places->gs[j]? =some g->places[j]? =some (g.offset,P.cellsOf g.type):=by
 induction gs with
 |nil=>intro places j g _ hj;simp at hj|cons g0 gs ih=>
  intro places j g h hj;simp only[ub,Option.bind_eq_bind,Option.pure_def]at h;cases hi:P.info? g0.type with
  |none=>simp[hi]at h|some it=>
   cases hr:gs.mapM (fun f=>(P.info? f.type).map fun i=>(f.offset,i.size))with
   |none=>simp[hi,hr]at h|some rest=>
    simp[hi,hr]at h;subst h;cases j with
    |zero=>simp at hj;subst hj;simp[il,hi]|succ j=>simpa using ih hr (by simpa using hj)
def mapM_some {gs:List Field} (h:∀g∈gs,g.type<P.types.size):∃places,gs.mapM (fun f=>(P.info? f.type).map fun i=>(f.offset,i.size))=some places:=by
 induction gs with
 |nil=>exact⟨[],rfl⟩|cons g gs ih=>
  obtain⟨rest,hr⟩:=ih fun g' hg'=>h g' (by simp[hg']);have hlt:=h g (by simp);cases hi:P.info? g.type with
  |none=>simp[ud,hlt]at hi|some it=>exact⟨(g.offset,it.size)::rest,by simp[ub,hi,hr]⟩
def q5v (hP:Aq P=true) {T:TypeId} {parts:Array (Nat × Operand)} {ρ:Operand->V} {ev:Operand->Value} (hz:CB P T=true) (hd:(ty P T).Cl=true) (hs:(ty P T).isAgg=true)
  (hr:∀p∈parts.toList,AG Γ (ρ p.2) (ev p.2)) (hok:MH (ty P T) (Bz (ty P T)) (parts.toList.map fun p=>(p.1,ρ p.2))):
  ∃v,(Instr.build T (parts.map fun p=>(p.1,ev p.2))).run P w= .ok v w/\AG Γ (Jo (ty P T) (Bz (ty P T)) (parts.toList.map fun p=>(p.1,ρ p.2))) v:=by
 obtain⟨it,z,hi,hzz,hzo,_⟩:=Lq hz;have hX:AA Γ none [] (Bz (ty P T)) z.cells.toList:=Yw (ty P T) hzo;have hXp:=Yv (ty P T);cases hτ:ty P T with
 |struct sz os fs=>
  obtain⟨gs,hu,rfl,rfl,hsz,hgs⟩:=nR hP hτ;obtain⟨places,hpm⟩:=mapM_some (P:=P) (gs:=gs.toList) fun g hg=>(hgs g hg).1;have hpl:∀i o f,(ty P T).child i=some (o,f)->(places.toArray[i]?)=some (o,f.size):=by
   intro i o f hc;rw[hτ]at hc;simp only[ke,dg]at hc;cases hg:gs.toList[i]? with
   |none=>rw[hg]at hc;simp at hc|some g=>
    rw[hg]at hc;simp at hc;obtain⟨rfl,rfl⟩:=hc;rw[Cj hP 11 g.type];simpa using q80 hpm hg
  obtain⟨yt,e1,e2,e3,e4⟩:=cB (Γ:=Γ) hd hpl parts.toList (Bz (ty P T)) z.cells hX (NP _) hXp hr hok;refine⟨.agg yt,run_build w T _ yt ?_,?_⟩;{simp only[wg,hi,hu,hzz,hpm,lr];exact e1};{rw[<-hτ];refine(Bd e4).2 ⟨by simpa[fc]using e2,?_⟩;rw[e3,hτ];simp[BJ,jb]}
 |arr n e=>
  obtain⟨E,hu,he⟩:=QN hτ;have hT:T<P.types.size:=by rcases kh T P.types.size with hh|hh;{exact hh};{unfold ty tyF at hτ;rw[if_neg (Nat.not_lt.2 hh)]at hτ;cases hτ}
  have z6c:=Ip hP hT;unfold okT at z6c;simp only[hu]at z6c;simp at z6c;obtain⟨ie,hie⟩:∃i,P.info? E=some i:=by
   cases hi:P.info? E with
   |none=>simp[ud,z6c.2]at hi|some i=>exact⟨i,rfl⟩
  have hes:ie.size=e.size:=by have:=Cj hP 11 E;rw[he,this];simp[il,hie]
  have hpl:∀i o f,(ty P T).child i=some (o,f)->(fun i=>some (i*ie.size,ie.size):Nat->Option (Nat × Nat)) i=some (o,f.size):=by intro i o f hc;rw[hτ]at hc;simp only[ke]at hc;split at hc;{simp at hc;obtain⟨rfl,rfl⟩:=hc;simp[hes]};{cases hc}
  obtain⟨yt,e1,e2,e3,e4⟩:=cB (Γ:=Γ) hd hpl parts.toList (Bz (ty P T)) z.cells hX (NP _) hXp hr hok;refine⟨.agg yt,run_build w T _ yt ?_,?_⟩;{simp only[wg,hi,hu,hzz,hie,lr];exact e1};{rw[<-hτ];refine(Bd e4).2 ⟨by simpa[fc]using e2,?_⟩;rw[e3,hτ];simp[BJ,jb]}
 |int|bool|str|slice|ptr|map|func|iface|opq=>rw[hτ]at hs;simp[jb]at hs
end
end
section
mutual
def V.sites (lv:Nat->Option Nat):List Nat->V->List (Nat × List Nat)
 |p,.sl _ _ cs t=>if lv t=some cs.length then[(t,p)]else[]|p,.agg _ vs=>V.Uc lv p 0 vs|_,_=>[]
def V.Uc (lv:Nat->Option Nat):List Nat->Nat->List V->List (Nat × List Nat)
 |_,_,[]=>[]|p,i,x::xs=>V.sites lv (p++[i]) x++V.Uc lv p (i+1) xs
end
mutual
def V.Bh (σ:List (Nat × List Nat)) (lv:Nat->Option Nat):List Nat->V->V
 |p,.sl eb e cs t=>if look σ t=some p/\lv t=some cs.length then .ts eb e cs else .d (.slice eb e) (.slice cs)|p,.agg τ vs=>.agg τ (V.Hw σ lv p 0 vs)|_,x=>x
def V.Hw (σ:List (Nat × List Nat)) (lv:Nat->Option Nat):List Nat->Nat->List V->List V
 |_,_,[]=>[]|p,i,x::xs=>V.Bh σ lv (p++[i]) x::V.Hw σ lv p (i+1) xs
end
def V.wT (σ:List (Nat × List Nat)) (lv:Nat->Option Nat):∀(p:List Nat) (i:Nat) (xs:List V),(V.Hw σ lv p i xs).length=xs.length
 |_,_,[]=>rfl|p,i,x::xs=>by simp[V.Hw,V.wT σ lv p (i+1) xs]
def V.Ri (σ:List (Nat × List Nat)) (lv:Nat->Option Nat) (p:List Nat) (x:V):(x.Bh σ lv p).ty=x.ty:=by cases x <;> simp only[V.Bh] <;> (try split) <;> simp[pz]
def V.wR (σ:List (Nat × List Nat)) (lv:Nat->Option Nat) (p:List Nat) (x:V):(x.Bh σ lv p).plain=x.plain:=by cases x <;> simp only[V.Bh] <;> (try split) <;> simp[V.plain]
mutual
def V.okH:V->Bool
 | .fn _ vs=>V.CF vs| .agg _ vs=>V.Sr vs| .tup _=>false|_=>true
def V.Sr:List V->Bool
 | []=>true|x::xs=>x.okH&&V.Sr xs
end
mutual
def V.dG (σ:List (Nat × List Nat)) (lv:Nat->Option Nat):∀(x:V) (p:List Nat),x.okH=true->(x.Bh σ lv p).Ay=true
 | .sl eb e cs t,p,_=>by simp only[V.Bh];split <;> rfl
 | .agg τ vs,p,h=>by simp only[V.Bh,V.Ay];exact V.wU σ lv vs p 0 (by simpa[V.okH]using h)
 | .fn f vs,p,h=>by simpa[V.Bh,V.Ay,V.okH]using h
 | .tup _,p,h=>by simp[V.okH]at h
 | .d _ _,_,_| .ts _ _ _,_,_| .emp _ _,_,_| .ym,_,_| .ptr _ _ _,_,_| .yn _ _,_,_| .sr _ _ _ _ _ _ _,_,_| .mp _,_,_| .top _,_,_| .any,_,_=>by simp[V.Bh,V.Ay]
def V.wU (σ:List (Nat × List Nat)) (lv:Nat->Option Nat):∀(xs:List V) (p:List Nat) (i:Nat),V.Sr xs=true->V.CF (V.Hw σ lv p i xs)=true
 | [],_,_,_=>rfl|x::xs,p,i,h=>by simp only[V.Sr,az]at h;simp only[V.Hw,V.CF,az];exact⟨V.dG σ lv x _ h.1,V.wU σ lv xs _ _ h.2⟩
end
def G.home (Γ:G) (k:Key) (σ:List (Nat × List Nat)):G:=
 {Γ with κ:=fun b=>match Γ.κ b with
   |some (.tok t,sz)=>match look σ t with|some p=>some (.home k p,sz)|none=>some (.tok t,sz)
   |x=>x}
def Jq (σ:List (Nat × List Nat)):List (Nat × Option Nat):=σ.map fun x=>(x.1,none)
def Wl (σ:List (Nat × List Nat)) (tk:List (Nat × Option Nat)) (t:Nat):look (Jq σ++tk) t=match look σ t with|some _=>some none|none=>look tk t:=by
 induction σ with
 |nil=>rfl|cons x σ ih=>
  obtain⟨u,p⟩:=x;simp only[Jq,dy,ji,look]at ih ⊢;split;{rfl};{exact ih}
section
variable {P:Program} {Γ:G} {w w':World} {s:S}
def BI.home (Γ:G) (k:Key) (σ:List (Nat × List Nat)):BI Γ (Γ.home k σ):=⟨gq _,fun _ _ h=>h,fun t x L h=>⟨x,L,h,bx _,fun _=>rfl⟩,fun _ _ h=>h⟩
mutual
def AA.Bh (c:AQ Γ w s) (k:Key) (σ:List (Nat × List Nat)):∀(x:V) {p:List Nat} {vs:List Value},AA Γ none p x vs->AA (Γ.home k σ) (some k) p (x.Bh σ s.live p) vs
 | .sl eb e cs t,p,vs,h=>by
  simp only[AA]at h;obtain⟨a,n,cap,rfl,h2,x,L,h3,h4,h5⟩:=h;simp only[V.Bh];split
  ·rename_i hc;obtain⟨hσ,hl⟩:=hc;obtain⟨x',h6,h7⟩:=c.tok t _ hl;rw[h3]at h6;cases h6;have h5:=h5 rfl;simp only[AA];refine⟨a,n,cap,k,rfl,rfl,h2,?_⟩;cases x with
   |none=>exact .inl h5|some y=>
    obtain⟨b,pos,sz⟩:=y;simp only at h5;obtain⟨⟨l,a1,a2⟩,a3⟩:=h7 b pos sz rfl;exact .inr ⟨b,l,sz,h5.1,a1,by rw[a2];exact h5.2.1,by simp[G.home,a3,hσ],h5.2.2⟩
  ·simp only[AA];exact h2
 | .agg τ xs,p,vs,h=>by simp only[AA]at h;simp only[V.Bh,AA];exact⟨h.1,h.2.1,by rw[V.wT];exact h.2.2.1,h.2.2.2.1,Aa.Bh c k σ xs h.2.2.2.2⟩
 | .ts _ _ _,_,_,h=>by simp only[AA]at h;obtain⟨_,_,_,_,h0,_⟩:=h;cases h0
 | .tup _,_,_,h=>by simp only[AA]at h
 | .d τ cc,_,_,h=>by simp only[V.Bh];exact(AA.BN (BI.home Γ k σ) (hm:=none) trivial _ h).Dd
 | .emp _ _,_,_,h=>by simp only[V.Bh];exact(AA.BN (BI.home Γ k σ) (hm:=none) trivial _ h).Dd
 | .ym,_,_,h=>by simp only[V.Bh];exact(AA.BN (BI.home Γ k σ) (hm:=none) trivial _ h).Dd
 | .ptr _ _ _,_,_,h=>by simp only[V.Bh];exact(AA.BN (BI.home Γ k σ) (hm:=none) trivial _ h).Dd
 | .yn _ _,_,_,h=>by simp only[V.Bh];exact(AA.BN (BI.home Γ k σ) (hm:=none) trivial _ h).Dd
 | .sr _ _ _ _ _ _ _,_,_,h=>by simp only[V.Bh];exact(AA.BN (BI.home Γ k σ) (hm:=none) trivial _ h).Dd
 | .mp _,_,_,h=>by simp only[V.Bh];exact(AA.BN (BI.home Γ k σ) (hm:=none) trivial _ h).Dd
 | .fn _ _,_,_,h=>by simp only[V.Bh];exact(AA.BN (BI.home Γ k σ) (hm:=none) trivial _ h).Dd
 | .top _,_,_,h=>by simp only[V.Bh];exact(AA.BN (BI.home Γ k σ) (hm:=none) trivial _ h).Dd
 | .any,_,_,_=>by simp only[V.Bh,AA]
def Aa.Bh (c:AQ Γ w s) (k:Key) (σ:List (Nat × List Nat)):∀(xs:List V) {p:List Nat} {i:Nat} {τ:Ty} {vs:List Value},Aa Γ none p i τ xs vs->Aa (Γ.home k σ) (some k) p i τ (V.Hw σ s.live p i xs) vs
 | [],_,_,_,_,_=>by simp only[V.Hw,Aa]
 |x::xs,_,_,_,_,h=>by simp only[Aa]at h;simp only[V.Hw,Aa,V.Ri];obtain⟨⟨o,f,h1,h2,h3,h4⟩,h5⟩:=h;exact⟨⟨o,f,h1,h2,h3,AA.Bh c k σ x h4⟩,Aa.Bh c k σ xs h5⟩
end
def AQ.home (c:AQ Γ w s) (k:Key) (σ:List (Nat × List Nat)):AQ (Γ.home k σ) w {s with tk:=Jq σ++s.tk}/\GLe Γ (Γ.home k σ):=by
 refine⟨?_,⟨gq _,rfl,fun _ _=>rfl,fun _ _ h=>h,rfl,rfl,fun _ _ h=>h,fun _ h=>h⟩⟩;have z57:∀t L,S.live {s with tk:=Jq σ++s.tk} t=some L->look σ t=none/\s.live t=some L:=by
  intro t L h;unfold S.live EA at h;simp only[Wl]at h;cases hs:look σ t with
  |some p=>simp[hs]at h|none=>rw[hs]at h;exact⟨rfl,h⟩
 refine c.change (BI.home Γ k σ) rfl rfl rfl rfl c.hH (fun _ _=>rfl) (fun b o sz h=>?_) (fun j o h=>?_) (fun _ h _=>h) c.dom c.hσ c.inj (fun t L h=>?_) (fun t h=>?_) (bx _)
 ·simp only[G.home]at h;cases hk:Γ.κ b with
  |none=>simp[hk]at h|some y=>
   obtain⟨o',sz'⟩:=y;have:sz'=sz:=by
    cases o' with
    |home=>simp[hk]at h;exact h.2|tok t=>simp only[hk]at h;split at h <;> simp at h <;> exact h.2
   subst this;obtain⟨a1,a2,arr,T,a3,a4,a5⟩:=c.hκ b o' sz' hk;refine⟨a1,a2,arr,T,a3,a4,?_⟩;cases o' with
   |home=>simp[hk]at h;rw[<-h];exact a5|tok t=>simp only[hk]at h;split at h <;> simp at h <;> rw[<-h] <;> trivial
 ·refine .inl ⟨h,fun hd=>⟨fun b p sz hb=>⟨by simp[G.home,hb],rfl⟩,fun b τ hb=>?_⟩⟩;obtain⟨a1,_⟩:=c.Eb hb h hd;exact⟨rfl,a1⟩
 ·obtain⟨h1,h2⟩:=z57 t L h;obtain⟨x,h3,h4⟩:=c.tok t L h2;refine⟨x,h3,fun b pos sz hx=>?_⟩;obtain⟨a1,a2⟩:=h4 b pos sz hx;exact⟨a1,by simp[G.home,a2,h1]⟩
 ·have:=c.zc t h;unfold S.known at this ⊢;rw[Wl];split;{rfl};{exact this}
def q9Q (c:AQ Γ w s) {n:Nat} (hn:s.obj (.l n)=none) {x:V} {cells:Array Value} {T:TypeId} (he:Ext w w') (hw:w'.heap[w.heap.size]? =some (.cells cells T (0,0))) (hsz:x.ty.size<=cells.size)
  (hx:AA Γ none [] x (chunk cells.toList 0 x.ty.size)) (hp:x.plain=true) (hok:x.okH=true):
  BC Γ w {s with loc:=(.l n,.box (x.Bh (x.sites s.live []) s.live []))::s.loc,tk:=Jq (x.sites s.live [])++s.tk} (.ptr (.l n) [] x.ty) (.pointer (some ⟨w.heap.size,0,none⟩)) w':=by
 obtain⟨c0,g0⟩:=c.home (.l n) (x.sites s.live []);have p0:=BI.home Γ (.l n) (x.sites s.live []);have hx':=hx.Bh c (.l n) (x.sites s.live [])
 obtain⟨h1,h2,h3⟩:=c0.Bt (k:=.l n) hn he (τ:=x.ty) (o:=.box (x.Bh (x.sites s.live []) s.live [])) fun Γ' hpr hkh hι hH hZ=>
  ⟨_,cells,T,by rw[V.Ri];exact hι,hH,hZ,hw,by rw[V.Ri];exact hsz,by rw[V.Ri];exact hx'.BN hpr hkh,by rw[V.wR];exact hp,V.dG _ _ _ _ hok⟩
 exact⟨_,g0.trans h3,p0.trans h2,h1,Py (τ0:=x.ty) (by simp[G.Bt,Db]) rfl⟩
def q5u (c:AQ Γ w s) {o:Oper} {a:Act} {T:TypeId} {x} {n:Nat} {y:V} (ho:o.op= .box T x) (hn:s.obj (.l n)=none) (hr:AG Γ y (a.eval x)) (hpl:y.plain=true) (hok:y.okH=true):
  Au P o a w (BC Γ w {s with loc:=(.l n,.box (y.Bh (y.sites s.live []) s.live []))::s.loc,tk:=Jq (y.sites s.live [])++s.tk} (.ptr (.l n) [] y.ty)):=by
 obtain⟨h1,_⟩:=(Bd hpl).1 hr;have hlen:=h1.length hpl;have hb:=q9Q c hn (T:=T) (x:=y) (cells:=(a.eval x).cells) (Ext.alloc w _) (heap_alloc_new w (.cells (a.eval x).cells T)) (by rw[<-hlen];simp) (by rw[<-hlen,MI];exact h1) hpl hok;refine Au.val (v:=.pointer (some ⟨w.heap.size,0,none⟩)) (w':=w.alloc (.cells (a.eval x).cells T)) ?_ hb;unfold execOp;simp only[ho,vy];simp[newVar,newRow]
def gD:∀{xs:List V} {i:Nat} {y:V},V.CF xs=true->y.Ay=true->V.CF (xs.set i y)=true
 | [],_,_,_,_=>rfl|x::xs,0,y,h,hy=>by simp[V.CF]at h ⊢;exact⟨hy,h.2⟩
 |x::xs,i+1,y,h,hy=>by simp[V.CF]at h ⊢;exact⟨h.1,gD h.2 hy⟩
def u6 (c:C):∀(j:Nat) (fs:List Ty),V.CF (HF c j fs)=true
 |_,[]=>rfl|j,f::fs=>by simp[HF,V.CF,V.Ay,u6 c (j+1) fs]
def V.q9T:∀(x:V) (i:Nat) (y:V),x.Ay=true->y.Ay=true->(x.set i y).Ay=true
 | .d τ c,i,y,_,hy=>by cases y <;> simp only[V.set] <;> first|rfl|(simp only[V.Ay];exact gD (u6 _ _ _) hy)
 | .agg τ vs,i,y,hx,hy=>by simp only[V.set,V.Ay];exact gD (by simpa[V.Ay]using hx) hy
 | .sl _ _ _ _,_,_,h,_=>by simp[V.Ay]at h
 | .ts _ _ _,_,_,_,_| .emp _ _,_,_,_,_| .ym,_,_,_,_| .ptr _ _ _,_,_,_,_| .yn _ _,_,_,_,_| .sr _ _ _ _ _ _ _,_,_,_,_| .mp _,_,_,_,_| .fn _ _,_,_,_,_| .tup _,_,_,_,_| .top _,_,_,_,_| .any,_,_,_,_=>by simp[V.set,V.Ay]
def u7:∀{xs:List V} {i:Nat} {x:V},V.CF xs=true->xs[i]? =some x->x.Ay=true
 | [],_,_,_,h=>by simp at h
 |y::ys,0,x,h,hx=>by simp[V.CF]at h;simp at hx;subst hx;exact h.1
 |y::ys,i+1,x,h,hx=>by simp[V.CF]at h;exact u7 h.2 (by simpa using hx)
def V.q9S {x:V} (h:x.Ay=true) (i:Nat):(x.get i).Ay=true:=by
 cases x <;> simp only[xw] <;> (try rfl)
 case agg τ vs=>
  cases hi:vs[i]? with
  |none=>simp[bj,hi,V.Ay]|some y=>simp[bj,hi];exact u7 (by simpa[V.Ay]using h) hi
def V.XA:∀(q:List Nat) (x y:V),x.Ay=true->y.Ay=true->(x.setAt q y).Ay=true
 | [],_,_,_,hy=>hy|i::q,x,y,hx,hy=>by simp only[V.setAt];exact V.q9T x i _ hx (V.XA q _ y (V.q9S hx i) hy)
def AQ.Ay (c:AQ Γ w s) {k} {x:V} {y} (hι:Γ.ι k=some y) (h:s.obj k=some (.box x)):x.Ay=true:=by obtain⟨_,_,_,_,_,_,_,_,_,_,h⟩:=c.own hι h;exact h
def q5I (hP:Aq P=true) (c:AQ Γ w s) {o:Oper} {a:Act} {T:TypeId} {p y k} {q:List Nat} {τ:Ty} {x Y:V}
  (ho:o.op= .store T p y) (hr:AG Γ (.ptr k q τ) (a.eval p)) (hy:AG Γ Y (a.eval y)) (yr:s.obj k=some (.box x))
  (ht:τ=ty P T) (hk:τ.known=true) (hY:(Bm τ Y).ty=τ) (hYp:(Bm τ Y).plain=true) (hne:x.at q≠.any) (hd:x.ty.Cl=true) (hok:(Bm τ Y).okH=true):
  Au P o a w (BC Γ w {s with loc:=(k,.box (x.setAt q ((Bm τ Y).Bh ((Bm τ Y).sites s.live q) s.live q)))::s.loc,tk:=Jq ((Bm τ Y).sites s.live q)++s.tk} .any):=by
 obtain⟨c0,g0⟩:=c.home k ((Bm τ Y).sites s.live q);have p0:=BI.home Γ k ((Bm τ Y).sites s.live q);obtain⟨b,τ0,off,h1,h2,hpv⟩:=Gr (hr.BN p0);obtain⟨b2,cells,E,e1,e2,e3,e4,e5,e6,e7,e8⟩:=c0.own h1 yr;rw[h1]at e1;cases e1;obtain⟨g1,g2,_⟩:=e6.at_ h2 hne e7;have hcl:(chunk cells.toList 0 x.ty.size).length=x.ty.size:=Dt _ _ _ (by simpa using e5);rw[hcl]at g2;have hy':=ZT (τ:=τ) hy;obtain⟨q1,q2⟩:=(Bd hYp).1 hy';have hlen:=q1.length hYp;rw[hY]at hlen;have q3:=(q1.Dd (hm:=none) (p':=q)).Bh c k ((Bm τ Y).sites s.live q);obtain⟨r1,r2,r3⟩:=AA.setAt (q:=q) (p:=[]) (y:=(Bm τ Y).Bh ((Bm τ Y).sites s.live q) s.live q) e6 e7 hd (by rw[V.Ri,hY];exact h2) hne q3 (by rw[V.wR];exact hYp);have zi:=z30 (w:=w) (T:=T) (τ:=τ) (v:=a.eval y) (off:=off) hP ht.symm hk e4 (by omega) hlen (q1.one hYp);have hlc:off+(a.eval y).cells.toList.length<=cells.toList.length:=by rw[hlen];simp;omega
 have hs2:(BP cells.toList off (a.eval y).cells.toList).toArray.size=cells.size:=by simp only[iv,IP hlc];simp
 have c':=c0.write (x':=x.setAt q ((Bm τ Y).Bh ((Bm τ Y).sites s.live q) s.live q)) (yt:=(BP cells.toList off (a.eval y).cells.toList).toArray) (w':=w.setRow b (BP cells.toList off (a.eval y).cells.toList).toArray) yr h1
  (setRow_heap w b cells _ E (0,0) e4) (fun b' hb'=>setRow_other w b b' _ hb') rfl (by rw[r2,hs2];exact e5)
  (by rw[r2,mj,q13 _ _ (by rw[hlen];exact g2) (by simpa using e5)];exact r1) r2 r3 (V.XA q x _ (c0.Ay h1 yr) (V.dG _ _ _ _ hok)) (fun arr T fr h=>by rw[e4]at h;cases h;exact hs2)
 refine Au.skip (w':=w.setRow b (BP cells.toList off (a.eval y).cells.toList).toArray) ?_ ⟨_,g0,p0,c',by simp[AG]⟩;unfold execOp;simp[ho,Instr.storeAt,hpv,jv,zi]
def V.LM:V->Bool
 | .ts _ _ _=>false|_=>true
mutual
def AA.TF {Γ Γ':G} (hp:BI Γ Γ') {k} {q:List Nat} (hk:∀b p sz,Γ.κ b=some (.home k p,sz)->p≠q->Γ'.κ b=Γ.κ b/\Γ'.H b=Γ.H b):
  ∀(x:V) {p:List Nat} {vs:List Value},(∀r,p++r=q->(x.at r).LM=true)->AA Γ (some k) p x vs->AA Γ' (some k) p x vs
 | .ts eb e cs,p,_,hn,h=>by
  simp only[AA]at h ⊢;obtain⟨a,n,cap,k',h0,h1,h2,h3⟩:=h;cases h0;refine⟨a,n,cap,k,rfl,h1,h2.mono hp.H,?_⟩;have hpq:p≠q:=by intro e;have:=hn [] (by simpa using e);simp[V.at,V.LM]at this
  rcases h3 with h3|⟨b,l,sz,a1,a2,a3,a4,a5⟩;{exact .inl h3};{obtain⟨e1,e2⟩:=hk b p sz a4 (fun e=>hpq (by injection e));exact .inr ⟨b,l,sz,a1,by rw[e2,a2],a3,by rw[e1,a4],a5⟩}
 | .agg τ xs,p,vs,hn,h=>by simp only[AA]at h ⊢;refine⟨h.1,h.2.1,h.2.2.1,h.2.2.2.1,Aa.TF hp hk xs (fun i r hr=>?_) h.2.2.2.2⟩;have:=hn (i::r) (by simpa using hr);simp only[V.at,xw]at this;simpa using this
 | .d _ _,_,_,_,h=>by simp only[AA]at h ⊢;exact h.mono hp.H
 | .sl eb e cs t,_,_,_,h=>by simp only[AA]at h ⊢;obtain⟨a,n,cap,h1,h2,h3⟩:=h;exact⟨a,n,cap,h1,h2.mono hp.H,h3.BN hp⟩
 | .emp _ _,_,_,_,h=>by simpa only[AA]using h
 | .ym,_,_,_,h=>by simpa only[AA]using h
 | .ptr k q τ,_,_,_,h=>by simp only[AA]at h ⊢;obtain⟨b,τ0,o,h1,h2⟩:=h;exact⟨b,τ0,o,hp.ι _ _ h1,h2⟩
 | .yn τ c,_,_,_,h=>by simp only[AA]at h ⊢;obtain⟨b,off,l,h1,h2,h3,h4⟩:=h;obtain⟨l',a1,a2,a3⟩:=aO hp.H h2 h3 h4;exact⟨b,off,l',h1,a1,a2,a3⟩
 | .sr _ _ _ _ _ _ _,_,_,_,h=>by simp only[AA]at h ⊢;rcases h with h|⟨b,τ0,o,m,cap,h1,h2,h3,h4,h5,h6,h7,h8,h9⟩;{exact .inl h};exact .inr ⟨b,τ0,o,m,cap,hp.ι _ _ h1,h2,h3,h4,h5,h6,h7,h8,fun e=>(h9 e).imp id fun⟨sz,a1,a2⟩=>⟨sz,hp.σ _ _ a1,a2⟩⟩
 | .mp _,_,_,_,h=>by simp only[AA]at h ⊢;obtain⟨b,h1,h2⟩:=h;exact⟨b,hp.ι _ _ h1,h2⟩
 | .fn f yp,_,_,_,h=>by simp only[AA]at h ⊢;obtain⟨cv,h1,h2⟩:=h;exact⟨cv,h1,BF.BN hp yp h2⟩
 | .tup _,_,_,_,h=>by simp only[AA]at h
 | .top _,_,_,_,h=>by simpa only[AA]using h
 | .any,_,_,_,_=>by simp only[AA]
def Aa.TF {Γ Γ':G} (hp:BI Γ Γ') {k} {q:List Nat} (hk:∀b p sz,Γ.κ b=some (.home k p,sz)->p≠q->Γ'.κ b=Γ.κ b/\Γ'.H b=Γ.H b):
  ∀(xs:List V) {p:List Nat} {i:Nat} {τ:Ty} {vs:List Value},(∀j r,p++[i+j]++r=q->((xs.getD j .any).at r).LM=true)->Aa Γ (some k) p i τ xs vs->Aa Γ' (some k) p i τ xs vs
 | [],_,_,_,_,_,_=>by simp only[Aa]
 |x::xs,p,i,τ,vs,hn,h=>by simp only[Aa]at h ⊢;obtain⟨⟨o,f,h1,h2,h3,h4⟩,h5⟩:=h;refine⟨⟨o,f,h1,h2,h3,AA.TF hp hk x (fun r hr=>?_) h4⟩,Aa.TF hp hk xs (fun j r hr=>?_) h5⟩;{have:=hn 0 r (by simpa using hr);simpa using this};{have:=hn (j+1) r (by rw[show i+(j+1)=i+1+j by omega];exact hr);simpa using this}
end
def V.pV:∀(q:List Nat) (x:V) {τ:Ty} {c:C},(∃eb e cs,x.at q= .ts eb e cs)->(x.setAt q (.d τ c)).at q= .d τ c
 | [],_,_,_,_=>rfl|i::q,x,τ,c,hx=>by
  obtain⟨eb,e,cs,hx⟩:=hx;simp only[V.at]at hx;have ih:=V.pV q (x.get i) (τ:=τ) (c:=c) ⟨eb,e,cs,hx⟩;cases x <;> (try (simp only[xw,V.Qc]at hx;cases hx;done))
  case d τ' c'=>
   exfalso;have:∀(q:List Nat) (τ:Ty) (c:C),∃τ' c',(V.d τ c).at q= .d τ' c':=by
    intro q
    induction q with
    |nil=>intro τ c;exact⟨τ,c,rfl⟩|cons j q ih=>intro τ c;simp only[V.at,xw];exact ih _ _
   obtain⟨_,_,h⟩:=this q (τ'.get i) (c'.get i);simp only[xw]at hx;rw[h]at hx;cases hx
  case agg τ' vs=>
   have hlt:i<vs.length:=by rcases kh i vs.length with h|h;{exact h};{simp[xw,bj,gb h,V.Qc]at hx}
   simp only[V.setAt,V.set,V.at];have:(V.agg τ' (vs.set i ((V.agg τ' vs).get i |>.setAt q (.d τ c)))).get i=((V.agg τ' vs).get i).setAt q (.d τ c):=by simp[xw,bj,hlt]
   rw[this];exact ih
def AQ.take (c:AQ Γ w s) {k} {q:List Nat} {x:V} {eb:Nat} {e cs} {t b:Nat} {τ0:Ty} {o0:Nat} (ho:s.obj k=some (.box x)) (hx:x.at q= .ts eb e cs) (hd:x.ty.Cl=true) (ht:s.known t=false)
  (hι:Γ.ι k=some (b,τ0)) (hw:τ0.walk q=some (o0,.slice eb e)) {a:Option Addr} {n cap:Nat} (z5Y:w.cell? ⟨b,o0,none⟩=some (.slice a n cap)):
  ∃Γ',GLe Γ Γ'/\BI Γ Γ'/\AQ Γ' w {s with loc:=(k,.box (x.setAt q (.d (.slice eb e) (.slice cs))))::s.loc,tk:=(t,some cs.length)::s.tk}/\AG Γ' (.sl eb e cs t) (.slice a n cap):=by
 obtain⟨b2,cells,E,e1,e2,e3,e4,e5,e6,e7,e8⟩:=c.own hι ho;rw[hι]at e1;cases e1;obtain⟨g1,g2,g3⟩:=e6.at_ hw (by rw[hx];simp) e7;have hcl:(chunk cells.toList 0 x.ty.size).length=x.ty.size:=Dt _ _ _ (by simpa using e5);rw[hcl]at g2;simp only[iy]at g2 g3;have hch:chunk (chunk cells.toList 0 x.ty.size) o0 1=chunk cells.toList o0 1:=by rw[EG _ _ _ _ _ (by omega),cm]
 have hce:chunk cells.toList o0 1=[.slice a n cap]:=by
  apply fk;intro j;rw[Df];by_cases hj:j<1
  ·have:j=0:=by omega
   subst this;simp[nt,e4]at z5Y;simpa using z5Y
  ·simp[hj]
 rw[hch,hce,hx]at g3;simp only[AA]at g3;obtain⟨a',n',z6g,k',hk',hv,hrc,z6U⟩:=g3;simp at hk' hv;subst hk';obtain⟨rfl,rfl,rfl⟩:=hv;have z7K:BP (chunk cells.toList 0 x.ty.size) o0 [.slice a n cap]=chunk cells.toList 0 x.ty.size:=by
  apply fk;intro j;rw[Fx (by simp;omega)];split
  ·rename_i hj;simp at hj;have:j=o0:=by omega
   subst this;have h0:(chunk (chunk cells.toList 0 x.ty.size) j 1)[0]? =some (.slice a n cap):=by rw[hch,hce];rfl
   rw[Df]at h0;simp at h0 ⊢;exact h0.symm
  ·rfl
 have hw':x.ty.walk q=some (o0,(V.d (.slice eb e) (.slice cs)).ty):=hw;obtain⟨r1,r2,r3⟩:=AA.setAt (p:=[]) (ws:=[.slice a n cap]) (y:=.d (.slice eb e) (.slice cs)) e6 e7 hd hw' (by rw[hx];simp) (by simpa only[AA]using hrc) rfl;rw[z7K]at r1;have hns:(x.setAt q (.d (.slice eb e) (.slice cs))).Ay=true:=V.XA q x _ e8 rfl
 -- the object as it is then, first under the old ghost
 have c1:AQ Γ w {s with loc:=(k,.box (x.setAt q (.d (.slice eb e) (.slice cs))))::s.loc}:=
  c.write ho hι e4 (fun _ _=>rfl) rfl (by rw[r2];exact e5) (by rw[r2];exact r1) r2 r3 hns (fun arr T fr h=>by rw[e4]at h;cases h;rfl)
 obtain⟨_,n1,z75,f1,_,f2,f3,f4,f5,f6⟩:=Iv hrc;simp at f1;obtain⟨rfl,rfl,rfl⟩:=f1;simp only[ao]at f2;rcases z6U with z6U|⟨b1,l,sz,rfl,h1,h2,h3,h4⟩;{obtain⟨c2,p2,g2'⟩:=c1.DI (t:=t) (x:=none) (L:=cs.length) ht (fun _ _ _ h=>by cases h);refine⟨_,g2',p2,c2,(Bi rfl rfl).2 ⟨?_,rfl⟩⟩;simp only[AA];exact⟨a,n,cap,rfl,hrc,none,cs.length,Ce _ _ _,bx _,fun _=>z6U⟩}
 ·have hτ:Γ.τ t=none:=c.q3e ht;obtain⟨z1,z2,arr,T,z3,z4,_⟩:=c.hκ b1 _ _ h3
  have hp:BI Γ {Γ with τ:=BV Γ.τ t (some (b1,l.length,sz),cs.length),κ:=BV Γ.κ b1 (.tok t,sz)}:=
   ⟨gq _,fun _ _ h=>h,fun u y M h=>by
    have:u≠t:=by intro e;subst e;rw[hτ]at h;cases h
    exact⟨y,M,(Ei _ _ this).trans h,bx _,fun _=>rfl⟩,fun _ _ h=>h⟩
  have hne:∀b' o',Γ.κ b'=some o'->b'≠b1->BV Γ.κ b1 (.tok t,sz) b'=some o':=fun b' o' h hb=>(Ei _ _ hb).trans h;refine⟨{Γ with τ:=BV Γ.τ t (some (b1,l.length,sz),cs.length),κ:=BV Γ.κ b1 (.tok t,sz)},⟨gq _,rfl,fun _ _=>rfl,fun _ _ h=>h,rfl,rfl,fun _ _ h=>h,fun _ h=>h⟩,hp,?_,(Bi rfl rfl).2 ⟨?_,rfl⟩⟩
  ·refine c1.change hp rfl rfl rfl rfl c.hH (fun _ _=>rfl) (fun b' o' sz' h=>?_) (fun j o' h=>?_) (fun _ h _=>h) c1.dom c.hσ c1.inj (fun u M h=>?_) (fun u h=>?_) (bx _)
   ·by_cases e:b'=b1
    ·subst e;have h':sz=sz':=by have:=h;simp[BV]at this;exact this.2
     subst h';exact⟨z1,z2,arr,T,z3,z4,by have:=h;simp[BV]at this;rw[<-this];trivial⟩
    ·exact c.hκ b' o' sz' ((Ei _ _ e).symm.trans h)
   ·have h':S.obj {s with loc:=(k,.box (x.setAt q (.d (.slice eb e) (.slice cs))))::s.loc} j=some o':=h;by_cases hj:k=j
    ·subst hj;rw[CX,if_pos rfl]at h';cases h';refine .inr ⟨b,cells,E,by rw[r2];exact hι,e2,e3,e4,by rw[r2];exact e5,?_,r3,hns⟩;rw[r2];refine AA.TF (q:=q) hp (fun b' p sz' hb hpq=>?_) _ (fun r hr=>?_) r1
     ·have:b'≠b1:=by intro e;subst e;rw[h3]at hb;simp at hb;exact hpq hb.1.symm
      exact⟨(hne b' _ hb this).trans hb.symm,rfl⟩
     ·rw[fx]at hr;subst hr;have:(x.setAt r (.d (.slice eb e) (.slice cs))).at r= .d (.slice eb e) (.slice cs):=V.pV r x ⟨_,_,_,hx⟩;rw[this];rfl
    ·refine .inl ⟨h',fun hd=>⟨fun b' p sz' hb=>?_,fun b' τ hb=>?_⟩⟩
     ·have:b'≠b1:=by intro e;subst e;rw[h3]at hb;simp at hb;exact hj hb.1.1
      exact⟨(hne b' _ hb this).trans hb.symm,rfl⟩
     ·obtain⟨a1,_⟩:=c1.Eb hb h' hd;exact⟨rfl,a1⟩
   ·have h9:(if t=u then some cs.length else s.live u)=some M:=(Mb {s with loc:=(k,.box (x.setAt q (.d (.slice eb e) (.slice cs))))::s.loc} t u (some cs.length)).symm.trans h;clear h;split at h9;{rename_i e;subst e;cases h9;refine⟨_,Ce _ _ _,fun b' pos sz' e=>?_⟩;cases e;exact⟨⟨l,h1,rfl⟩,Ce _ _ _⟩};{rename_i e;have e':u≠t:=fun h'=>e h'.symm;obtain⟨y,a1,a2⟩:=c.tok u M h9;refine⟨y,(Ei _ _ e').trans a1,fun b' pos sz' hy=>?_⟩;obtain⟨a3,a4⟩:=a2 b' pos sz' hy;exact⟨a3,hne b' _ a4 (fun e=>by subst e;rw[h3]at a4;cases a4)⟩}
   ·refine(MZ {s with loc:=(k,.box (x.setAt q (.d (.slice eb e) (.slice cs))))::s.loc} t u (some cs.length)).trans ?_;by_cases e:t=u;{simp[e]};{have e':u≠t:=fun h'=>e h'.symm;simp only[e,decide_false,jr];refine c.zc u ?_;simpa[BV,e']using h}
  ·simp only[AA];exact⟨_,n,cap,rfl,hrc,_,_,Ce _ _ _,bx _,fun _=>⟨rfl,h2,h4⟩⟩
end
end
end Go.E
