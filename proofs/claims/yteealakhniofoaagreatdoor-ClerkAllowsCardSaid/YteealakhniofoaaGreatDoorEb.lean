/-
 A framework for runs of Go code over abstract data: what it needs, and that it is sound, part 2.
 Conditions: none.
-/
import Derived.Test.YteealakhniofoaaGreatDoorEa
import Derived.Deep.AppendSrc
import Derived.Deep.Upon
import Derived.Great.FillDense
import Derived.Great.BuildSlice
set_option linter.all false
set_option maxRecDepth 100000
set_option maxHeartbeats 4000000
open Array renaming eq_empty_of_size_eq_zero->gr,getElem?_eq_getElem->dw,getElem?_modify->uc,length_toList->ic,map->vv,range->ia,size_append->vh,toList_map->nr,toList_setIfInBounds->lj
open Bool renaming and_eq_true->bg,false_or->jz
open Go.Builtin renaming append_->nv,firstCells->fx,zeroCells->fm
open Go.E.C renaming elems->ax
open Go.E.Hp renaming le_refl->gy
open Go.E.Ty renaming child->jq,isAgg->ja,size->gu,walk->vt
open Go.Instr renaming alloc->xr,buildSlice->vn,fill->qh,loadAt->lq,makeSlice->rq,sureAddr->na
open Go.IntWalk renaming i64_in->ik
open Go.Program renaming built->wc,bytesOf->qs,cellsOf->iv
open Go.Result renaming andThen_ok->cu
open Go.Sem renaming run_bind->cz,run_pure->ej
open Go.Src renaming ofNil->uz,ofSlice->qd
open Go.Tables renaming info?->uo
open Go.Value renaming cells->ek
open Go.World renaming cell?->mu,frozen?->xi,setCell->xj
open List renaming all_eq_true->dv,append_assoc->gd,append_nil->tv,drop_append->qu,drop_eq_nil_of_le->jy,drop_zero->jf,eq_nil_of_length_eq_zero->fl,ext_getElem?->fb,flatMap_cons->kg,getElem?_append_left->ft,getElem?_append_right->gh,getElem?_cons_succ->fu,getElem?_drop->iz,getElem?_eq_getElem->bo,getElem?_eq_none->gb,getElem?_eq_some_iff->cd,getElem?_map->db,getElem?_range->ig,getElem?_replicate->nt,getElem?_set->fy,getElem?_take->fh,length->au,length_append->br,length_cons->cg,length_take->jh,mapM_cons->uk,map_cons->dt,mem_iff_getElem?->og,mem_of_getElem?->fa,nil_append->jr,range->gf,replicate->bp,size_toArray->iq,take_append_of_le_length->qy,take_zero->xb
open Nat renaming add_mul->da,eq_zero_or_pos->oy,le_mul_of_pos_right->uf,le_refl->bx,le_trans->kh,lt_irrefl->qi,lt_or_ge->lg,mul_le_mul_right->cf,mul_ne_zero->xd,pos_of_ne_zero->vp,zero_add->bf,zero_le->dr,zero_mul->gq
open Option.some renaming injEq->ee
open Prod.mk renaming injEq->fw
namespace Go.E
open Go
section
mutual
def Ty.q5m:Ty->Bool
 | .slice _ _=>false| .struct _ _ fs=>Ty.bK fs| .opq _=>false|_=>true
def Ty.bK:List Ty->Bool
 | []=>true|f::fs=>f.q5m&&Ty.bK fs
end
mutual
def AI:Ty->C
 | .int _=>.int 0| .bool=>.bool false| .str=>.str []| .slice _ _=>.slice []| .arr n e=>.agg (bp n (AI e))| .struct _ _ fs=>.agg (Qc fs)|_=>.nil
def Qc:List Ty->List C
 | []=>[]|f::fs=>AI f::Qc fs
end
mutual
def BI:Ty->V
 | .slice eb e=>.emp eb e| .struct sz os fs=>if Ty.bK fs then .d (.struct sz os fs) (.agg (Qc fs))else .agg (.struct sz os fs) (Ko fs)|τ=>.d τ (AI τ)
def Ko:List Ty->List V
 | []=>[]|f::fs=>BI f::Ko fs
end
def Ns:Ty->Value->Bool
 | .int k,.int k' n=>k==k'&&n==0| .bool,.bool b=> !b| .str,.string s=>s.data.toList.isEmpty| .slice _ _,.slice a n c=>a.isNone&&n==0&&c==0| .ptr,.pointer a=>a.isNone| .map,.map r=>r.isNone| .func,.nilFunc=>true| .iface,.nilIface=>true|_,_=>false
mutual
def Eh:Ty->List Value->Bool
 | .arr n e,vs=>vs.length==n*e.size&&vs.all (·.oneCell')&&(gf n).all fun i=>Eh e (chunk vs (i*e.size) e.size)| .struct sz os fs,vs=>vs.length==sz&&vs.all (·.oneCell')&&JL fs os vs|τ,vs=>match vs with| [v]=>Ns τ v|_=>false
def JL:List Ty->List Nat->List Value->Bool
 | [],_,_=>true|f::fs,o::os,vs=>decide (o+f.size<=vs.length)&&Eh f (chunk vs o f.size)&&JL fs os vs|_::_,[],_=>false
end
def Cb (P:Program) (T:TypeId):Bool:=
 match(P.info? T).bind (·.zero)with
 |some z=>Eh (ty P T) z.cells.toList&&Bi z==(ty P T).isAgg&&Eh (tyF P 11 T) z.cells.toList|none=>false
theorem pQ (k:IntKind):k.min<=0/\0<=k.max:=by cases k <;> decide
theorem z0y {H:Hp} {τ:Ty} {v:Value} (h:Ns τ v=true):AU H τ [v] (AI τ):=by
 unfold Ns at h;split at h <;> simp at h <;> simp only[AU,AI];{obtain⟨rfl,rfl⟩:=h;exact⟨0,rfl,rfl,(pQ _).1,(pQ _).2⟩};{subst h;exact⟨false,rfl,rfl⟩}
 ·rename_i s;refine⟨[],rfl,?_,by simp⟩;have:s=⟨#[]⟩:=by apply ByteArray.ext;simpa using h
  rw[this]
 ·obtain⟨⟨h1,rfl⟩,rfl⟩:=h;exact⟨_,0,0,[],rfl,rfl,rfl,bx _,by decide,by simp,.inl rfl⟩
 ·subst h;simp
 ·subst h;simp
 ·simp
 ·simp
mutual
theorem HZ {H:Hp}:∀{τ:Ty} {vs:List Value},Eh τ vs=true->AU H τ vs (AI τ)
 | .arr n e,vs,h=>by simp only[Eh,bg,beq_iff_eq,dv,List.mem_range]at h;simp only[AU,AI];refine⟨_,rfl,by simp,h.1.1,h.1.2,fun i c hi=>?_⟩;simp only[nt]at hi;split at hi;{cases hi;exact HZ (h.2 i ‹_›)};{cases hi}
 | .struct sz os fs,vs,h=>by simp only[Eh,bg,beq_iff_eq,dv]at h;simp only[AU,AI];exact⟨_,rfl,h.1.1,h.1.2,v9 h.2⟩
 | .int _,[v],h| .bool,[v],h| .str,[v],h| .slice _ _,[v],h| .ptr,[v],h| .map,[v],h| .func,[v],h| .iface,[v],h=>by simp only[Eh]at h;exact z0y h
 | .opq _,[v],h=>by simp[Eh,Ns]at h
 | .int _,[],h| .bool,[],h| .str,[],h| .slice _ _,[],h| .ptr,[],h| .map,[],h| .func,[],h| .iface,[],h| .opq _,[],h=>by simp[Eh]at h
 | .int _,_::_::_,h| .bool,_::_::_,h| .str,_::_::_,h| .slice _ _,_::_::_,h| .ptr,_::_::_,h| .map,_::_::_,h| .func,_::_::_,h| .iface,_::_::_,h| .opq _,_::_::_,h=>by simp[Eh]at h
theorem v9 {H:Hp}:∀{fs:List Ty} {os:List Nat} {vs:List Value},JL fs os vs=true->CN H fs os vs (Qc fs)
 | [],_,_,_=>by simp[CN,Qc]
 |f::fs,o::os,vs,h=>by simp only[JL,bg,decide_eq_true_eq]at h;simp only[CN,Qc];exact⟨_,_,rfl,h.1.1,HZ h.1.2,v9 h.2⟩
 |_::_,[],_,h=>by simp[JL]at h
end
theorem Nu:∀(τ:Ty),(BI τ).ty=τ
 | .struct sz os fs=>by simp only[BI];split <;> simp[V.ty]
 | .slice _ _=>by simp[BI,V.ty]
 | .int _| .bool| .str| .ptr| .map| .func| .iface| .opq _| .arr _ _=>by simp[BI,V.ty]
theorem u1:∀(fs:List Ty),(Ko fs).length=fs.length
 | []=>rfl|f::fs=>by simp[Ko,u1 fs]
theorem v8:∀{fs:List Ty} {os:List Nat} {vs:List Value} {i:Nat} {f:Ty},JL fs os vs=true->fs[i]? =some f->∃o,os[i]? =some o/\o+f.size<=vs.length/\Eh f (chunk vs o f.size)=true
 | [],_,_,_,_,_,h=>by simp at h
 |f::fs,o::os,vs,0,g,h,hg=>by simp only[JL,bg,decide_eq_true_eq]at h;simp at hg;subst hg;exact⟨o,rfl,h.1.1,h.1.2⟩
 |f::fs,o::os,vs,i+1,g,h,hg=>by simp only[JL,bg,decide_eq_true_eq]at h;obtain⟨o',a,b,c⟩:=v8 h.2 (show fs[i]? =some g by simpa using hg);exact⟨o',by simpa using a,b,c⟩
 |_::_,[],_,_,_,h,_=>by simp[JL]at h
theorem XY (τ:Ty):(BI τ).plain=true:=by cases τ <;> simp only[BI] <;> (try split) <;> rfl
mutual
theorem u0:∀(τ:Ty),(BI τ).BW=true
 | .struct sz os fs=>by simp only[BI];split <;> simp[V.BW,u2 fs]
 | .slice _ _=>by simp[BI,V.BW]
 | .int _| .bool| .str| .ptr| .map| .func| .iface| .opq _| .arr _ _=>by simp[BI,V.BW]
theorem u2:∀(fs:List Ty),V.DB (Ko fs)=true
 | []=>rfl|f::fs=>by simp[Ko,V.DB,u0 f,u2 fs]
end
section
variable {Γ:G} {hm:Option Key}
mutual
theorem XZ:∀(τ:Ty) {p:List Nat} {vs:List Value},Eh τ vs=true->AA Γ hm p (BI τ) vs
 | .struct sz os fs,p,vs,h=>by simp only[BI];split;{simp only[AA];exact HZ (τ:=.struct sz os fs) h};{simp only[Eh,bg,beq_iff_eq,dv]at h;simp only[AA];exact⟨h.1.1,h.1.2,by simp[Ty.kids,u1],rfl,u3 fs sz os fs 0 (fun i f hf=>by simpa using hf) h.2⟩}
 | .slice eb e,p,vs,h=>by
  match vs,h with
  | [v],h=>
   simp only[Eh]at h;cases v <;> simp[Ns]at h;obtain⟨⟨rfl,rfl⟩,rfl⟩:=h;simp only[BI,AA];exact⟨none,rfl⟩
  | [],h=>simp[Eh]at h|_::_::_,h=>simp[Eh]at h
 | .int k,p,vs,h=>by simp only[BI,AA];exact HZ h
 | .bool,p,vs,h=>by simp only[BI,AA];exact HZ h
 | .str,p,vs,h=>by simp only[BI,AA];exact HZ h
 | .ptr,p,vs,h=>by simp only[BI,AA];exact HZ h
 | .map,p,vs,h=>by simp only[BI,AA];exact HZ h
 | .func,p,vs,h=>by simp only[BI,AA];exact HZ h
 | .iface,p,vs,h=>by simp only[BI,AA];exact HZ h
 | .opq s,p,vs,h=>by simp only[BI,AA];exact HZ h
 | .arr n e,p,vs,h=>by simp only[BI,AA];exact HZ h
theorem u3:∀(gs:List Ty) (sz:Nat) (os:List Nat) (fs:List Ty) (i:Nat) {p:List Nat} {vs:List Value},(∀(j:Nat) (f:Ty),gs[j]? =some f->fs[i+j]? =some f)->JL fs os vs=true->
  Ag Γ hm p i (.struct sz os fs) (Ko gs) vs
 | [],_,_,_,_,_,_,_,_=>by simp[Ko,Ag]
 |f::gs,sz,os,fs,i,p,vs,hg,h=>by have hf:=hg 0 f rfl;obtain⟨o,a,b,c⟩:=v8 h hf;simp only[Ko,Ag,Nu];refine⟨⟨o,f,by simp[jq,show os[i]? =some o by simpa using a,show fs[i]? =some f by simpa using hf],rfl,b,XZ f c⟩,u3 gs sz os fs (i+1) (fun j g hj=>?_) h⟩;rw[show i+1+j=i+(j+1) by omega];exact hg (j+1) g (by simpa using hj)
end
end
theorem xZ {P:Program} {T:TypeId} (h:Cb P T=true):∃z,(∀w,(zeroValue T).run P w= .ok z w)/\Eh (ty P T) z.cells.toList=true/\Bi z=(ty P T).isAgg:=by
 unfold Cb at h;cases hi:P.info? T with
 |none=>simp[hi]at h|some i=>
  cases hz:i.zero with
  |none=>simp[hi,hz]at h|some z=>
   simp[hi,hz]at h;exact⟨z,fun w=>by simp[zeroValue,typeInfo,hi,hz],h.1.1,h.1.2⟩
mutual
def view:V->V
 | .ts eb e cs=>.d (.slice eb e) (.slice cs)| .agg τ vs=>.agg τ (views vs)|x=>x
def views:List V->List V
 | []=>[]|x::xs=>view x::views xs
end
theorem ao:∀xs:List V,(views xs).length=xs.length
 | []=>rfl|x::xs=>by simp[views,ao xs]
theorem al (x:V):(view x).ty=x.ty:=by cases x <;> simp[view,V.ty]
theorem z0m (x:V):(view x).plain=x.plain:=by cases x <;> simp[view,V.plain]
section
variable {Γ:G} {hm:Option Key}
mutual
theorem ak:∀(x:V) {p p':List Nat} {vs:List Value},AA Γ hm p x vs->AA Γ none p' (view x) vs
 | .ts eb e cs,_,_,_,h=>by simp only[AA,view]at h ⊢;obtain⟨a,n,cap,k,_,rfl,h2,_⟩:=h;exact h2
 | .agg τ xs,_,_,_,h=>by simp only[AA,view]at h ⊢;exact⟨h.1,h.2.1,by rw[ao];exact h.2.2.1,h.2.2.2.1,z5 xs h.2.2.2.2⟩
 | .d _ _,_,_,_,h| .sl _ _ _ _,_,_,_,h| .emp _ _,_,_,_,h| .ye,_,_,_,h| .ptr _ _ _,_,_,_,h| .yf _ _,_,_,_,h| .sr _ _ _ _ _ _ _,_,_,_,h| .mp _,_,_,_,h| .fn _ _,_,_,_,h| .top _,_,_,_,h=>by simpa only[AA,view]using h
 | .any,_,_,_,h=>by simp only[AA,view]
 | .tup _,_,_,_,h=>by simp only[AA]at h
theorem z5:∀(xs:List V) {p p':List Nat} {i:Nat} {τ:Ty} {vs:List Value},Ag Γ hm p i τ xs vs->Ag Γ none p' i τ (views xs) vs
 | [],_,_,_,_,_,_=>by simp only[views,Ag]
 |x::xs,_,_,_,_,_,h=>by simp only[Ag,views,al]at h ⊢;obtain⟨⟨o,f,h1,h2,h3,h4⟩,h5⟩:=h;exact⟨⟨o,f,h1,h2,h3,ak x h4⟩,z5 xs h5⟩
end
end
mutual
def Cl:V->Option C
 | .d _ c=>some c| .emp _ _=>some (.slice [])| .sl _ _ cs _=>some (.slice cs)| .ts _ _ cs=>some (.slice cs)| .agg _ vs=>(Eo vs).map .agg|_=>none
def Eo:List V->Option (List C)
 | []=>some []|x::xs=>match Cl x,Eo xs with|some c,some cs=>some (c::cs)|_,_=>none
end
theorem YI:∀{xs:List V} {cs:List C},Eo xs=some cs->cs.length=xs.length/\∀(i:Nat) (x:V) (c:C),xs[i]? =some x->cs[i]? =some c->Cl x=some c
 | [],cs,h=>by simp[Eo]at h;subst h;simp
 |x::xs,cs,h=>by
  simp only[Eo]at h;cases h1:Cl x with
  |none=>simp[h1]at h|some c=>
   cases h2:Eo xs with
   |none=>simp[h1,h2]at h|some cs'=>
    simp[h1,h2]at h;subst h;obtain⟨a,b⟩:=YI h2;refine⟨by simp[a],fun i y d hy hd=>?_⟩;cases i with
    |zero=>simp at hy hd;subst hy;subst hd;exact h1|succ i=>exact b i y d (by simpa using hy) (by simpa using hd)
section
variable {Γ:G} {hm:Option Key}
mutual
theorem LC:∀(x:V) {p:List Nat} {vs:List Value} {c:C},AA Γ hm p x vs->Cl x=some c->AU Γ.H x.ty vs c
 | .d τ c,_,_,_,h,hc=>by simp[Cl]at hc;subst hc;simpa only[AA,V.ty]using h
 | .emp eb e,_,_,_,h,hc=>by simp[Cl]at hc;subst hc;simp only[AA]at h;obtain⟨a,rfl⟩:=h;exact Eg rfl (bx _) (dr _) (by rw[gq];exact dr _) (.inl rfl)
 | .sl eb e cs t,_,_,_,h,hc=>by simp[Cl]at hc;subst hc;simp only[AA]at h;obtain⟨a,n,cap,rfl,h2,_⟩:=h;exact h2
 | .ts eb e cs,_,_,_,h,hc=>by simp[Cl]at hc;subst hc;simp only[AA]at h;obtain⟨a,n,cap,k,_,rfl,h2,_⟩:=h;exact h2
 | .agg τ xs,_,vs,_,h,hc=>by
  simp only[Cl]at hc;cases h1:Eo xs with
  |none=>simp[h1]at hc|some cs=>
   simp[h1]at hc;subst hc;simp only[AA]at h;obtain⟨a1,a2,a3,a4,a5⟩:=h;obtain⟨b1,b2⟩:=YI h1;have kid:=kB xs a5 h1;simp only[V.ty];cases τ <;> simp[ja]at a4
   case arr n e=>
    simp only[AU];refine⟨cs,rfl,by rw[b1,a3];rfl,by simpa[gu]using a1,a2,fun i c hi=>?_⟩;obtain⟨o,f,k1,_,k3⟩:=kid i c hi;simp only[bf,jq]at k1;split at k1;{simp at k1;obtain⟨rfl,rfl⟩:=k1;exact k3};{cases k1}
   case struct sz os fs=>
    simp only[AU];refine⟨cs,rfl,by simpa[gu]using a1,a2,CN.Lk (by rw[b1,a3];rfl) fun i f c hf hi=>?_⟩;obtain⟨o,f',k1,k2,k3⟩:=kid i c hi;simp only[bf,jq]at k1;cases ho:os[i]? with
    |none=>simp[ho]at k1|some o'=>simp[ho,hf]at k1;obtain⟨rfl,rfl⟩:=k1;exact⟨o',rfl,k2,k3⟩
 | .ye,_,_,_,_,hc| .ptr _ _ _,_,_,_,_,hc| .yf _ _,_,_,_,_,hc| .sr _ _ _ _ _ _ _,_,_,_,_,hc| .mp _,_,_,_,_,hc| .fn _ _,_,_,_,_,hc| .top _,_,_,_,_,hc| .any,_,_,_,_,hc| .tup _,_,_,_,_,hc=>by simp[Cl]at hc
theorem kB:∀(xs:List V) {p:List Nat} {i0:Nat} {τ:Ty} {vs:List Value} {cs:List C},Ag Γ hm p i0 τ xs vs->Eo xs=some cs->
  ∀(i:Nat) (c:C),cs[i]? =some c->∃o f,τ.child (i0+i)=some (o,f)/\o+f.size<=vs.length/\AU Γ.H f (chunk vs o f.size) c
 | [],_,_,_,_,_,_,h,i,c,hc=>by simp[Eo]at h;subst h;simp at hc
 |x::xs,_,i0,τ,vs,cs,h,hcs,i,c,hc=>by
  simp only[Ag]at h;simp only[Eo]at hcs;cases h1:Cl x with
  |none=>simp[h1]at hcs|some d=>
   cases h2:Eo xs with
   |none=>simp[h1,h2]at hcs|some ds=>
    simp[h1,h2]at hcs;subst hcs;cases i with
    |zero=>
     simp at hc;subst hc;obtain⟨⟨o,f,k1,k2,k3,k4⟩,_⟩:=h;have:=LC x k4 h1;rw[k2]at this;exact⟨o,f,k1,k3,this⟩
    |succ i=>
     have:=kB xs h.2 h2 i c (by simpa using hc);rw[show i0+(i+1)=i0+1+i by omega];exact this
end
end
end
section
theorem EP (vs:List Value) (o n i:Nat):(chunk vs o n)[i]? =if i<n then vs[o+i]? else none:=by simp[chunk,fh,iz]
def Bx (vs:List Value) (o:Nat) (ws:List Value):List Value:=vs.take o++ws++vs.drop (o+ws.length)
theorem Ia {vs ws:List Value} {o:Nat} (h:o+ws.length<=vs.length):(Bx vs o ws).length=vs.length:=by simp[Bx];omega
theorem Gi {vs ws:List Value} {o:Nat} (h:o+ws.length<=vs.length) (i:Nat):
  (Bx vs o ws)[i]? =if o<=i/\i<o+ws.length then ws[i-o]? else vs[i]?:=by
 unfold Bx;by_cases h1:i<o;{rw[if_neg (by omega),gd,ft (by simp;omega),fh,if_pos h1]};{by_cases h2:i<o+ws.length;{rw[if_pos (by omega),gd,gh (by simp;omega),ft (by simp;omega)];simp only[jh];congr 1;omega};{rw[if_neg (by omega),gh (by simp;omega),iz];simp only[br,jh];congr 1;omega}}
theorem YC {vs ws:List Value} {o n:Nat} (h:o+ws.length<=vs.length) (hn:ws.length=n):chunk (Bx vs o ws) o n=ws:=by apply fb;intro i;rw[EP,Gi h];split;{rw[if_pos (by omega)];congr 1;omega};{rw[gb (by omega)]}
theorem Qo {vs ws:List Value} {o o' n:Nat} (h:o+ws.length<=vs.length) (hd:o'+n<=o\/o+ws.length<=o'):chunk (Bx vs o ws) o' n=chunk vs o' n:=by apply fb;intro i;rw[EP,EP,Gi h];split;{rw[if_neg (by omega)]};{rfl}
theorem W1 {vs ws:List Value} {o o1 n1 o2:Nat} (h:o1+n1<=vs.length) (hw:o2+ws.length<=n1) (ho:o=o1+o2):chunk (Bx vs o ws) o1 n1=Bx (chunk vs o1 n1) o2 ws:=by subst ho;apply fb;intro i;have hl:(chunk vs o1 n1).length=n1:=Ek _ _ _ h;rw[EP,Gi (by omega),Gi (by omega),EP];by_cases hi:i<n1;{rw[if_pos hi,if_pos hi];by_cases h2:o2<=i/\i<o2+ws.length;{rw[if_pos (by omega),if_pos h2];congr 1;omega};{rw[if_neg (by omega),if_neg h2]}};{rw[if_neg hi,if_neg hi,if_neg (by omega)]}
theorem Dx.Bx {vs ws:List Value} {o:Nat} (h1:Dx vs) (h2:Dx ws):Dx (Bx vs o ws):=by intro v hv;simp only[Go.E.Bx,List.mem_append]at hv;rcases hv with(hv|hv)|hv;{exact h1 v (List.mem_of_mem_take hv)};{exact h2 v hv};{exact h1 v (List.mem_of_mem_drop hv)}
def RJ (o n:Nat):List Nat->List Ty->Bool
 |o'::os,f::fs=>decide (o'+f.size<=o\/o+n<=o')&&RJ o n os fs|_,_=>true
def Oe:List Nat->List Ty->Bool
 |o::os,f::fs=>RJ o f.size os fs&&Oe os fs|_,_=>true
mutual
def Ty.CP:Ty->Bool
 | .struct _ os fs=>Oe os fs&&Ty.RK fs| .arr _ e=>e.CP|_=>true
def Ty.RK:List Ty->Bool
 | []=>true|f::fs=>f.CP&&Ty.RK fs
end
theorem lC:∀{os:List Nat} {fs:List Ty} {o n j o':Nat} {f:Ty},RJ o n os fs=true->os[j]? =some o'->fs[j]? =some f->o'+f.size<=o\/o+n<=o'
 | [],_,_,_,_,_,_,_,h,_=>by simp at h
 |_::_,[],_,_,_,_,_,_,_,h=>by simp at h
 |o1::os,f1::fs,o,n,0,o',f,h,h1,h2=>by simp only[RJ,bg,decide_eq_true_eq]at h;simp at h1 h2;subst h1;subst h2;exact h.1
 |o1::os,f1::fs,o,n,j+1,o',f,h,h1,h2=>by simp only[RJ,bg]at h;exact lC h.2 (show os[j]? =some o' by simpa using h1) (show fs[j]? =some f by simpa using h2)
theorem Ya:∀{os:List Nat} {fs:List Ty} {i j o o':Nat} {f f':Ty},Oe os fs=true->i<j->os[i]? =some o->fs[i]? =some f->os[j]? =some o'->fs[j]? =some f'->o'+f'.size<=o\/o+f.size<=o'
 | [],_,_,_,_,_,_,_,_,_,h,_,_,_=>by simp at h
 |_::_,[],_,_,_,_,_,_,_,_,_,h,_,_=>by simp at h
 |o1::os,f1::fs,0,j+1,o,o',f,f',h,_,h1,h2,h3,h4=>by simp only[Oe,bg]at h;simp at h1 h2;subst h1;subst h2;exact lC h.1 (show os[j]? =some o' by simpa using h3) (show fs[j]? =some f' by simpa using h4)
 |o1::os,f1::fs,i+1,j+1,o,o',f,f',h,hij,h1,h2,h3,h4=>by simp only[Oe,bg]at h;exact Ya h.2 (show i<j by omega) (show os[i]? =some o by simpa using h1) (show fs[i]? =some f by simpa using h2) (show os[j]? =some o' by simpa using h3) (show fs[j]? =some f' by simpa using h4)
 |_::_,_::_,_,0,_,_,_,_,_,hij,_,_,_,_=>by omega
theorem lD {os:List Nat} {fs:List Ty} {i j o o':Nat} {f f':Ty} (h:Oe os fs=true) (hij:i≠j) (h1:os[i]? =some o) (h2:fs[i]? =some f) (h3:os[j]? =some o') (h4:fs[j]? =some f'):
  o'+f'.size<=o\/o+f.size<=o':=by
 rcases lg i j with h5|h5;{exact Ya h h5 h1 h2 h3 h4};{have:=Ya h (show j<i by omega) h3 h4 h1 h2;omega}
theorem lE:∀{fs:List Ty} {i:Nat} {f:Ty},Ty.RK fs=true->fs[i]? =some f->f.CP=true
 | [],_,_,_,h=>by simp at h
 |f1::fs,0,f,h,h1=>by simp only[Ty.RK,bg]at h;simp at h1;subst h1;exact h.1
 |f1::fs,i+1,f,h,h1=>by simp only[Ty.RK,bg]at h;exact lE h.2 (show fs[i]? =some f by simpa using h1)
def Ty.DI:Ty->List Ty
 | .struct _ _ fs=>fs| .arr n e=>bp n e|_=>[]
def C.set:C->Nat->C->C
 | .agg cs,i,c=>.agg (cs.set i c)|c,_,_=>c
def Hg (c:C):Nat->List Ty->List V
 |_,[]=>[]|j,f::fs=>.d f (c.get j)::Hg c (j+1) fs
def V.set:V->Nat->V->V
 | .d τ c,i,.d _ c'=>.d τ (c.set i c')| .d τ c,i,y=>.agg τ ((Hg c 0 τ.DI).set i y)| .agg τ vs,i,y=>.agg τ (vs.set i y)|_,_,_=>.any
def V.setAt:V->List Nat->V->V
 |_,[],y=>y|x,i::q,y=>x.set i ((x.get i).setAt q y)
theorem Ty.q20 (τ:Ty):τ.DI.length=τ.kids:=by cases τ <;> simp[Ty.DI,Ty.kids]
theorem AU.child {H:Hp} {τ f:Ty} {vs:List Value} {c:C} {i:Nat} (h:AU H τ vs c) (hf:τ.DI[i]? =some f):∃o,τ.child i=some (o,f):=by
 cases τ <;> simp only[Ty.DI,List.getElem?_nil,reduceCtorEq]at hf
 case arr n e=>
  rw[nt]at hf;split at hf;{cases hf;rename_i hi;exact⟨_,by simp only[jq];rw[if_pos hi]⟩};{cases hf}
 case struct sz os fs=>
  simp only[AU]at h;obtain⟨cs,rfl,_,_,h3⟩:=h;obtain⟨o,c,a,_⟩:=h3.get hf;exact⟨o,by simp[jq,a,hf]⟩
theorem W0 {τ f f':Ty} {i j o o':Nat} (hd:τ.CP=true) (h1:τ.child i=some (o,f)) (h2:τ.child j=some (o',f')) (hij:i≠j):o'+f'.size<=o\/o+f.size<=o':=by
 cases τ <;> simp only[jq,reduceCtorEq]at h1 h2
 case arr n e=>
  split at h1 <;> simp at h1;split at h2 <;> simp at h2;obtain⟨rfl,rfl⟩:=h1;obtain⟨rfl,rfl⟩:=h2;rcases lg j i with hlt|hge;{left;have:(j+1)*e.size<=i*e.size:=cf _ (by omega);rw[da]at this;omega};{right;have:(i+1)*e.size<=j*e.size:=cf _ (by omega);rw[da]at this;omega}
 case struct sz os fs=>
  simp only[Ty.CP,bg]at hd;cases ho:os[i]? with
  |none=>simp[ho]at h1|some a=>
   cases hf:fs[i]? with
   |none=>simp[ho,hf]at h1|some g=>
    cases ho':os[j]? with
    |none=>simp[ho']at h2|some a'=>
     cases hf':fs[j]? with
     |none=>simp[ho',hf']at h2|some g'=>
      simp[ho,hf]at h1;simp[ho',hf']at h2;obtain⟨rfl,rfl⟩:=h1;obtain⟨rfl,rfl⟩:=h2;exact lD hd.1 hij ho hf ho' hf'
section
variable {Γ:G} {hm:Option Key}
theorem AU.set {H:Hp} {τ f:Ty} {vs ws:List Value} {c c':C} {i o:Nat} (h:AU H τ vs c) (hd:τ.CP=true) (hc:τ.child i=some (o,f)) (hr:AU H f ws c'):
  AU H τ (Bx vs o ws) (c.set i c'):=by
 have hwl:=hr.length;have hb:=(h.get hc).2.1;cases τ <;> simp only[jq,reduceCtorEq]at hc
 case arr n e=>
  split at hc <;> simp at hc;rename_i hi;obtain⟨rfl,rfl⟩:=hc;simp only[AU]at h ⊢;obtain⟨cs,rfl,h1,h2,h3,h4⟩:=h;refine⟨cs.set i c',rfl,by simpa using h1,by rw[Ia (by omega)];exact h2,h3.Bx hr.one,fun j cc hj=>?_⟩;rw[fy]at hj;split at hj;{rename_i hij;subst hij;split at hj;{cases hj;rw[YC (by omega) hwl];exact hr};{cases hj}}
  ·rename_i hij;have hjl:j<n:=by rw[<-h1];exact(cd.1 hj).1
   rw[Qo (by omega)];{exact h4 j cc hj};{rcases lg j i with hlt|hge;{left;have:(j+1)*e.size<=i*e.size:=cf _ (by omega);rw[da]at this;omega};{right;have:(i+1)*e.size<=j*e.size:=cf _ (by omega);rw[da]at this;omega}}
 case struct sz os fs=>
  simp only[AU]at h ⊢;simp only[Ty.CP,bg]at hd;obtain⟨cs,rfl,h1,h2,h3⟩:=h;cases ho:os[i]? with
  |none=>simp[ho]at hc|some o'=>
   cases hf:fs[i]? with
   |none=>simp[ho,hf]at hc|some f'=>
    simp[ho,hf]at hc;obtain⟨rfl,rfl⟩:=hc;have hl:=h3.rA;refine⟨cs.set i c',rfl,by rw[Ia (by omega)];exact h1,h2.Bx hr.one,CN.Lk (by simpa using hl) fun j g cc hg hcc=>?_⟩;rw[fy]at hcc;obtain⟨oj,cj,a,b,d,r⟩:=h3.get hg;refine⟨oj,a,by rw[Ia (by omega)];exact d,?_⟩;split at hcc;{rename_i hij;subst hij;rw[hf]at hg;cases hg;rw[ho]at a;cases a;split at hcc;{cases hcc;rw[YC (by omega) hwl];exact hr};{cases hcc}};{rename_i hij;rw[b]at hcc;cases hcc;rw[Qo (by omega)];{exact r};{have:=lD hd.1 (fun e=>hij e) ho hf a hg;omega}}
theorem Ag.Lk {p:List Nat} {τ:Ty}:∀{xs:List V} {i0:Nat} {vs:List Value},
  (∀(i:Nat) (x:V),xs[i]? =some x->∃o f,τ.child (i0+i)=some (o,f)/\x.ty=f/\o+f.size<=vs.length/\AA Γ hm (p++[i0+i]) x (chunk vs o f.size))->Ag Γ hm p i0 τ xs vs
 | [],_,_,_=>by simp[Ag]
 |x::xs,i0,vs,h=>by simp only[Ag];refine⟨h 0 x rfl,Ag.Lk fun i y hy=>?_⟩;have:=h (i+1) y (by simpa using hy);rw[show i0+1+i=i0+(i+1) by omega];exact this
theorem mW (c:C):∀(fs:List Ty) (j i:Nat),(Hg c j fs)[i]? =(fs[i]?).map fun f=>.d f (c.get (j+i))
 | [],_,_=>by simp[Hg]
 |f::fs,j,0=>by simp[Hg]
 |f::fs,j,i+1=>by simp only[Hg,fu];rw[mW c fs (j+1) i,show j+(i+1)=j+1+i by omega]
theorem mX (c:C):∀(fs:List Ty) (j:Nat),(Hg c j fs).length=fs.length
 | [],_=>rfl|f::fs,j=>by simp[Hg,mX c fs]
theorem q1U {τ:Ty} {c:C} {p:List Nat} {vs:List Value} (h:AU Γ.H τ vs c) (ha:τ.isAgg=true):AA Γ hm p (.agg τ (Hg c 0 τ.DI)) vs:=by
 simp only[AA];refine⟨h.length,h.one,by rw[mX,Ty.q20],ha,Ag.Lk fun i x hx=>?_⟩;rw[mW]at hx;cases hf:τ.DI[i]? with
 |none=>simp[hf]at hx|some f=>
  simp[hf]at hx;subst hx;obtain⟨o,ho⟩:=h.child hf;obtain⟨_,h2,h3⟩:=h.get ho;refine⟨o,f,by simpa using ho,rfl,h2,?_⟩;simpa only[AA]using h3
theorem X7 {τ f:Ty} {i o:Nat} (h:τ.child i=some (o,f)):τ.isAgg=true:=by cases τ <;> simp[jq]at h <;> rfl
theorem iB {p:List Nat} {τ:Ty} {xs:List V} {y:V} {vs ws:List Value} {i o:Nat} (h:AA Γ hm p (.agg τ xs) vs) (hd:τ.CP=true) (hc:τ.child i=some (o,y.ty))
  (hr:AA Γ hm (p++[i]) y ws) (hy:y.plain=true) (hb:o+y.ty.size<=vs.length):AA Γ hm p (.agg τ (xs.set i y)) (Bx vs o ws):=by
 simp only[AA]at h ⊢;obtain⟨h1,h2,h3,h4,h5⟩:=h;have hwl:=hr.length hy;refine⟨by rw[Ia (by omega)];exact h1,h2.Bx (hr.one hy),by simpa using h3,h4,Ag.Lk fun j x hx=>?_⟩;rw[fy]at hx;split at hx;{rename_i hij;subst hij;split at hx;{cases hx;refine⟨o,_,by simpa using hc,rfl,by rw[Ia (by omega)];exact hb,?_⟩;rw[YC (by omega) hwl];simpa using hr};{cases hx}};{rename_i hij;obtain⟨o',f',a,b,d,r⟩:=h5.get hx;refine⟨o',f',a,b,by rw[Ia (by omega)];exact d,?_⟩;rw[Qo (by omega)];{exact r};{rw[bf]at a;have:=W0 hd hc a hij;omega}}
theorem AA.set {p:List Nat} {x y:V} {vs ws:List Value} {i o:Nat} (h:AA Γ hm p x vs) (hd:x.ty.CP=true) (hc:x.ty.child i=some (o,y.ty)) (hg:x.get i≠.any)
  (hr:AA Γ hm (p++[i]) y ws) (hy:y.plain=true):AA Γ hm p (x.set i y) (Bx vs o ws)/\(x.set i y).ty=x.ty/\(x.set i y).plain=true:=by
 have hb:=(h.get hc hg).2.1;have gen:∀{τ:Ty} {c:C},x= .d τ c->AA Γ hm p (.agg τ ((Hg c 0 τ.DI).set i y)) (Bx vs o ws):=by intro τ c e;subst e;simp only[AA]at h;simp only[V.ty]at hc hd;exact iB (q1U h (X7 hc)) hd hc hr hy hb
 cases x <;> (try (simp only[V.get,ne_eq,not_true_eq_false]at hg;done))
 case d τ c=>
  have:=gen rfl;cases y
  case d τ' c'=>
   simp only[V.set];refine⟨?_,rfl,rfl⟩;simp only[AA]at h hr ⊢;simp only[V.ty]at hc hd;exact h.set hd hc hr
  all_goals (simp only[V.set];exact⟨this,rfl,rfl⟩)
 case agg τ xs=>
  simp only[V.set];exact⟨iB h hd hc hr hy hb,rfl,rfl⟩
theorem X9 {τ f:Ty} {i o:Nat} (h:τ.CP=true) (hc:τ.child i=some (o,f)):f.CP=true:=by
 cases τ <;> simp only[jq,reduceCtorEq]at hc
 case arr n e=>split at hc <;> simp at hc;rw[<-hc.2];simpa[Ty.CP]using h
 case struct sz os fs=>
  simp only[Ty.CP,bg]at h;cases ho:os[i]? with
  |none=>simp[ho]at hc|some o'=>
   cases hf:fs[i]? with
   |none=>simp[ho,hf]at hc|some f'=>simp[ho,hf]at hc;rw[<-hc.2];exact lE h.2 hf
theorem AA.setAt:∀{q:List Nat} {p:List Nat} {x y:V} {vs ws:List Value} {o:Nat},AA Γ hm p x vs->x.plain=true->x.ty.CP=true->x.ty.walk q=some (o,y.ty)->x.at q≠.any->
  AA Γ hm (p++q) y ws->y.plain=true->
  AA Γ hm p (x.setAt q y) (Bx vs o ws)/\(x.setAt q y).ty=x.ty/\(x.setAt q y).plain=true
 | [],p,x,y,vs,ws,o,h,hp,hd,hw,hx,hr,hy=>by
  simp[vt]at hw;obtain⟨rfl,ht⟩:=hw;have h1:=h.length hp;have h2:=hr.length hy;have:Bx vs 0 ws=ws:=by simp only[Bx,xb,jr,bf];rw[jy (by rw[h1,h2,ht];exact bx _)];simp
  simp only[V.setAt,this];exact⟨by simpa using hr,ht.symm,hy⟩
 |i::q,p,x,y,vs,ws,o,h,hp,hd,hw,hx,hr,hy=>by
  simp only[vt]at hw;cases hc:x.ty.child i with
  |none=>simp[hc]at hw|some of=>
   obtain⟨o1,f⟩:=of;simp only[hc]at hw;cases hw2:f.walk q with
   |none=>simp[hw2]at hw|some ot=>
    obtain⟨o2,t⟩:=ot;simp only[hw2,ee,fw]at hw;obtain⟨rfl,rfl⟩:=hw;have hne:x.get i≠.any:=by intro e;apply hx;simp only[V.at,e];exact V.Ql q
    obtain⟨h1,h2,h3⟩:=h.get hc hne;have hpl:(x.get i).plain=true:=V.Sa h3 hne;have _hget:=Qn hc;have ih:=AA.setAt (q:=q) h3 hpl (by rw[h1];exact X9 hd hc) (by rw[h1];exact hw2) (by simpa[V.at]using hx) (by simpa using hr) hy;obtain⟨i1,i2,i3⟩:=ih;have hwl:=hr.length hy;have hb2:o2+y.ty.size<=f.size:=by
     obtain⟨_,hb,_⟩:=h3.at_ (by rw[h1];exact hw2) (by simpa[V.at]using hx) hpl
     rwa [Ek _ _ _ h2]at hb
    have zi:=AA.set (i:=i) (o:=o1) (y:=(x.get i).setAt q y) h hd (by rw[i2,h1];exact hc) hne i1 i3;have e1:Bx vs o1 (Bx (chunk vs o1 f.size) o2 ws)=Bx vs (o1+o2) ws:=by
     have hl1:(chunk vs o1 f.size).length=f.size:=Ek _ _ _ h2;have hl2:(Bx (chunk vs o1 f.size) o2 ws).length=f.size:=by rw[Ia (by omega)];exact hl1
     apply fb;intro j;rw[Gi (vs:=vs) (o:=o1) (by omega),Gi (vs:=vs) (o:=o1+o2) (ws:=ws) (by omega),hl2];by_cases hj:o1<=j/\j<o1+f.size;{rw[if_pos hj,Gi (by omega),EP];by_cases hk:o1+o2<=j/\j<o1+o2+ws.length;{rw[if_pos (by omega),if_pos hk];congr 1;omega};{rw[if_neg (by omega),if_neg hk,if_pos (by omega)];congr 1;omega}};{rw[if_neg hj,if_neg (by omega)]}
    rw[e1]at zi;simp only[V.setAt];exact zi
end
end
section
def BU (P:Program) (o:Oper) (a:Act) (w:World) (BX:Value->World->Prop):Prop:=
 ∀(next:Act->World->Prop) (Q:Exit->Act->World->Prop),(∀v w',BX v w'->next (a.put o.dst v) w')->o.wp P a w next Q
section
variable {P:Program} {o:Oper} {a:Act} {w w':World} {BX:Value->World->Prop}
theorem BU.val {v:Value} (h:(execOp a.eval o).run P w= .ok (.value v) w') (hp:BX v w'):BU P o a w BX:=by
 intro next Q hn
 unfold Oper.wp;rw[h];exact hn v w' hp
theorem BU.skip (h:(execOp a.eval o).run P w= .ok .skip w') (hp:BX undef w'):BU P o a w BX:=by
 intro next Q hn
 unfold Oper.wp;rw[h];exact hn _ w' hp
theorem BU.enter {f:FuncId} {args:Array Value} (h:(execOp a.eval o).run P w= .ok (.enter f args) w')
  (hc:Calls P f args w' fun e w''=>∃v,e= .returned v/\BX v w''):BU P o a w BX:=by
 intro next Q hn
 unfold Oper.wp;rw[h];refine Calls.mono hc ?_;rintro e w'' ⟨v,rfl,hp⟩;exact hn v w'' hp
theorem BU.mono {z9x:Value->World->Prop} (h:BU P o a w BX) (hp:∀v w',BX v w'->z9x v w'):BU P o a w z9x:=
 fun next Q hn=>h next Q fun v w' hv=>hn v w' (hp v w' hv)
end
structure Ext (w w':World):Prop where
 size:w.heap.size<=w'.heap.size
 old:∀b,b<w.heap.size->w'.heap[b]? =w.heap[b]?
 oo:oof w'=oof w
theorem Ext.refl (w:World):Ext w w:=⟨bx _,fun _ _=>rfl,rfl⟩
theorem Ext.trans {a b c:World} (h:Ext a b) (h':Ext b c):Ext a c:=
 ⟨kh h.size h'.size,fun x hx=>(h'.old x (Nat.lt_of_lt_of_le hx h.size)).trans (h.old x hx),h'.oo.trans h.oo⟩
theorem Ext.alloc (w:World) (o:Obj):Ext w (w.alloc o):=⟨by simp,fun _ hb=>heap_alloc_old w o hb,rfl⟩
theorem Ext.drew (w:World):Ext w w.drew:=⟨bx _,fun _ _=>rfl,rfl⟩
def EW {α:Type} (f:Key->Option α) (k:Key) (x:α):Key->Option α:=fun j=>if j=k then some x else f j
def CT {α:Type} (f:Nat->Option α) (k:Nat) (x:α):Nat->Option α:=fun j=>if j=k then some x else f j
theorem Dc {α:Type} (f:Nat->Option α) (k:Nat) (x:α):CT f k x k=some x:=by simp[CT]
theorem Fj {α:Type} (f:Nat->Option α) {k j:Nat} (x:α) (h:j≠k):CT f k x j=f j:=by simp[CT,h]
def BX (Γ:G) (w:World) (s':S) (x:V) (v:Value) (w':World):Prop:=
 ∃Γ',GLe Γ Γ'/\Bg Γ Γ'/\AY Γ' w' s'/\AK Γ' x v
section
variable {Γ:G} {w w':World} {s:S}
theorem AY.Zlt (c:AY Γ w s) {b:Nat} (h:Γ.Z b≠none):b<w.heap.size:=by
 cases hk:Γ.Z b with
 |none=>exact absurd hk h|some o=>exact IK (c.hZ b o hk)
theorem AY.congr (c:AY Γ w s) {s':S} (h1:∀k,s'.obj k=s.obj k) (h2:∀t,s'.live t=s.live t) (h3:∀t,s.known t=true->s'.known t=true):AY Γ w s':=
 ⟨c.hH,c.hZ,c.hκ,fun k o h=>c.obj k o (by rw[<-h1];exact h),fun k h=>by rw[h1];exact c.dom k h,c.KI (fun k h=>by unfold S.CY at h ⊢;rw[h1];exact h),fun t L h=>c.tok t L (by rw[<-h2];exact h),fun t h=>h3 t (c.yu t h),c.hgl,c.hoo,c.hσ⟩
theorem AY.σlt (c:AY Γ w s) {b:Nat} {sz:Nat} (h:Γ.σ b=some sz):b<w.heap.size:=by obtain⟨arr,T,fr,h1,_⟩:=c.hσ b sz h;exact IK h1
theorem AY.gT (c:AY Γ w s) (he:Ext w w'):∀b sz,Γ.σ b=some sz->∃arr T fr,w'.heap[b]? =some (.cells arr T fr)/\arr.size=sz:=fun b sz h=>by rw[he.old b (c.σlt h)];exact c.hσ b sz h
theorem AY.env (c:AY Γ w s) (e:List (Nat × V)):AY Γ w {s with env:=e}:=c.congr (fun _=>rfl) (fun _=>rfl) (fun _ h=>h)
theorem AY.ext (c:AY Γ w s) (he:Ext w w'):AY Γ w' s:=by refine c.change (Bg.refl Γ) rfl rfl rfl he.oo (fun b l h=>?_) (fun b h=>he.old b (c.Zlt h)) (fun b o sz h=>?_) (fun k o h=>?_) (fun _ h _=>h) c.dom (c.gT he) c.inj c.tok c.yu he.size;{rw[he.old b (c.Hlt (by rw[h];simp))];exact c.hH b l h};{rw[he.old b (c.κlt (by rw[h];simp))];exact c.hκ b o sz h};{refine .inl ⟨h,fun hd=>⟨fun b p sz _=>⟨rfl,rfl⟩,fun b τ hb=>?_⟩⟩;obtain⟨a1,a2,a3,_⟩:=c.FR hb h hd;exact⟨he.old b a3,a1⟩}
theorem BX.same (c:AY Γ w s) {x:V} {v:Value} (h:AK Γ x v):BX Γ w s x v w:=⟨Γ,.refl Γ,.refl Γ,c,h⟩
theorem BX.ext (c:AY Γ w s) (he:Ext w w') {x:V} {v:Value} (h:AK Γ x v):BX Γ w s x v w':=⟨Γ,.refl Γ,.refl Γ,c.ext he,h⟩
theorem NF {α:Type} (n:Key) (x:α) (l:List (Key × α)):AZ ((n,x)::l) n=some x:=by simp[AZ]
theorem VX {α:Type} (n:Nat) (x:α) (l:List (Nat × α)):look ((n,x)::l) n=some x:=by simp[look]
theorem DZ (s:S) (k j:Key) (o:O):S.obj {s with loc:=(k,o)::s.loc} j=if k=j then some o else s.obj j:=by unfold S.obj Cs;by_cases h:k=j;{subst h;simp[AZ]};{simp[AZ,h]}
theorem YX {s:S} {k:Key} {o:O} (h:s.CY k=true->o.FL=true) (j:Key) (hj:s.CY j=true):S.CY {s with loc:=(k,o)::s.loc} j=true:=by unfold S.CY;rw[DZ];split;{rename_i e;subst e;exact h hj};{exact hj}
theorem ND (s:S) (t u:Nat) (L:Option Nat):S.live {s with tk:=(t,L)::s.tk} u=if t=u then L else s.live u:=by unfold S.live Ed;by_cases h:t=u;{subst h;simp only[VX,if_true];cases L <;> rfl};{simp[look,h]}
theorem Mw (s:S) (t u:Nat) (L:Option Nat):S.known {s with tk:=(t,L)::s.tk} u=(decide (t=u)||s.known u):=by unfold S.known;by_cases h:t=u;{subst h;simp[look]};{simp[look,h]}
theorem AY.Qd (c:AY Γ w s) {k:Key} (h:s.obj k=none):Γ.ι k=none:=by
 cases hk:Γ.ι k with
 |none=>rfl|some x=>exact absurd h (c.dom k (by rw[hk];simp))
theorem AY.u5 (c:AY Γ w s) {t:Nat} (h:s.known t=false):Γ.τ t=none:=by
 cases hk:Γ.τ t with
 |none=>rfl|some x=>have:=c.yu t (by rw[hk];simp);rw[h]at this;cases this
def G.addKey (Γ:G) (k:Key) (b:Nat) (τ:Ty):G:={Γ with ι:=EW Γ.ι k (b,τ)}
theorem AY.addKey (c:AY Γ w s) {k:Key} (hn:s.obj k=none) (he:Ext w w') {τ:Ty} {o:O} (ho:∀Γ':G,Bg Γ Γ'->OB Γ Γ' (some k)->Γ'.ι k=some (w.heap.size,τ)->Γ'.H w.heap.size=none->Γ'.Z w.heap.size=none->Own Γ' w' k o) (hkl:∀i,k≠.g i:=by intro i h;cases h):
  AY (Γ.addKey k w.heap.size τ) w' {s with loc:=(k,o)::s.loc}/\Bg Γ (Γ.addKey k w.heap.size τ)/\GLe Γ (Γ.addKey k w.heap.size τ):=by
 have hk:=c.Qd hn;have hι:∀j x,Γ.ι j=some x->(Γ.addKey k w.heap.size τ).ι j=some x:=by
  intro j x hj;have:j≠k:=by intro e;subst e;rw[hk]at hj;cases hj
  simp[G.addKey,EW,this,hj]
 have hp:Bg Γ (Γ.addKey k w.heap.size τ):=⟨gy _,hι,fun t x L h=>⟨x,L,h,bx _,fun _=>rfl⟩,fun _ _ h=>h⟩
 refine⟨?_,hp,⟨gy _,rfl,fun _ _=>rfl,fun j x h=>hι _ _ h,rfl,rfl,fun _ _ h=>h,fun i h=>by
  have:Key.g i≠k:=fun e=>hkl i e.symm;simpa[G.addKey,EW,this]using h⟩⟩
 refine c.change hp rfl rfl rfl he.oo (fun b l h=>?_) (fun b h=>he.old b (c.Zlt h)) (fun b o sz h=>?_) (fun j o' h=>?_) (fun j h h'=>by
  have:j≠k:=fun e=>by subst e;exact h' hn
  simpa[G.addKey,EW,this]using h) (fun j h=>?_) (c.gT he) (fun j j' b τ1 τ2 h1 h2=>?_) c.tok c.yu he.size
 ·have h':Γ.H b=some l:=h;rw[he.old b (c.Hlt (by rw[h'];simp))];exact c.hH b l h
 ·have h':Γ.κ b=some (o,sz):=h;rw[he.old b (c.κlt (by rw[h'];simp))];exact c.hκ b o sz h
 ·rw[DZ]at h;split at h;{rename_i e;cases h;subst e;refine .inr (ho _ hp (fun _ _ _ _=>⟨rfl,rfl⟩) (by simp[G.addKey,EW]) ?_ ?_);{cases hh:Γ.H w.heap.size with|none=>exact hh|some l=>exact absurd (c.Hlt (by rw[hh];simp)) (qi _)};{cases hh:Γ.Z w.heap.size with|none=>exact hh|some l=>exact absurd (c.Zlt (by rw[hh];simp)) (qi _)}};{refine .inl ⟨h,fun hd=>⟨fun b p sz _=>⟨rfl,rfl⟩,fun b τ hb=>?_⟩⟩;obtain⟨a1,a2,a3,_⟩:=c.FR hb h hd;exact⟨he.old b a3,a1⟩}
 ·rw[DZ];split;{simp};{rename_i e;refine c.dom j ?_;have:j≠k:=fun h=>e h.symm;simpa[G.addKey,EW,this]using h}
 ·have key:∀j b τ',(Γ.addKey k w.heap.size τ).ι j=some (b,τ')->(j=k/\b=w.heap.size)\/(j≠k/\Γ.ι j=some (b,τ')/\b<w.heap.size):=by
   intro j b τ' h;by_cases hjk:j=k;{left;simp[G.addKey,EW,hjk]at h;exact⟨hjk,h.1.symm⟩}
   ·right;have h':Γ.ι j=some (b,τ'):=by simpa[G.addKey,EW,hjk]using h
    obtain⟨_,_,_,hlt,_⟩:=c.u4 h';exact⟨hjk,h',hlt⟩
  rcases key j b τ1 h1 with⟨e1,e2⟩|⟨e1,e2,e3⟩ <;> rcases key j' b τ2 h2 with⟨f1,f2⟩|⟨f1,f2,f3⟩;{exact .inl (by rw[e1,f1])};{omega};{omega};{refine(c.inj _ _ _ _ _ e2 f2).imp id (And.imp (Or.imp (fun h=>?_) (fun h=>?_)) id);{unfold S.CY at h ⊢;rw[DZ,if_neg (fun e=>e1 e.symm)];exact h};{unfold S.CY at h ⊢;rw[DZ,if_neg (fun e=>f1 e.symm)];exact h}}
theorem SI (c:AY Γ w s) {n:Nat} (hn:s.obj (.l n)=none) {x:V} {cells:Array Value} {T:TypeId} {fz:Nat × Nat} (he:Ext w w') (hw:w'.heap[w.heap.size]? =some (.cells cells T fz)) (hsz:x.ty.size<=cells.size)
  (hx:AA Γ none [] x (chunk cells.toList 0 x.ty.size)) (hp:x.plain=true) (hns:x.BW=true) (hfz:fz.2<=fz.1\/cells.size<=fz.1:=by exact .inl (bx _)):
  BX Γ w {s with loc:=(.l n,.box x)::s.loc} (.ptr (.l n) [] x.ty) (.pointer (some ⟨w.heap.size,0,none⟩)) w':=by
 obtain⟨h1,h2,h3⟩:=c.addKey hn he (τ:=x.ty) (o:=.box x) fun Γ' hpr _ hι hH hZ=>⟨_,cells,T,hι,hH,hZ,⟨fz,hw,hfz⟩,hsz,(hx.Bn hpr (by trivial)).EZ,hp,hns⟩;exact⟨_,h3,h2,h1,QK (τ0:=x.ty) (by simp[G.addKey,EW]) rfl⟩
def G.Ej (Γ:G) (b:Nat) (l:List Value):G:={Γ with H:=CT Γ.H b l}
theorem AY.Ej (c:AY Γ w s) (he:Ext w w') {arr:Array Value} {T:TypeId} {fr:Nat × Nat} {l r:List Value} (hw:w'.heap[w.heap.size]? =some (.cells arr T fr)) (hl:arr.toList=l++r):
  AY (Γ.Ej w.heap.size l) w' s/\Bg Γ (Γ.Ej w.heap.size l)/\GLe Γ (Γ.Ej w.heap.size l):=by
 have oH:∀b,b<w.heap.size->(Γ.Ej w.heap.size l).H b=Γ.H b:=fun b hb=>Fj _ _ (by omega);have hle:Γ.H.le (Γ.Ej w.heap.size l).H:=fun b l' h=>⟨[],by rw[oH b (c.Hlt (by rw[h];simp)),h];simp⟩;have hp:Bg Γ (Γ.Ej w.heap.size l):=⟨hle,fun _ _ h=>h,fun t x L h=>⟨x,L,h,bx _,fun _=>rfl⟩,fun _ _ h=>h⟩;refine⟨?_,hp,⟨hle,rfl,fun b h=>oH b (c.Zlt h),fun _ _ h=>h,rfl,rfl,fun _ _ h=>h,fun _ h=>h⟩⟩;refine c.change hp rfl rfl rfl he.oo (fun b l' h=>?_) (fun b h=>he.old b (c.Zlt h)) (fun b o sz h=>?_) (fun k o h=>?_) (fun _ h _=>h) c.dom (c.gT he) c.inj (fun t L h=>?_) c.yu he.size
 ·by_cases hb:b=w.heap.size;{subst hb;simp[G.Ej,CT]at h;subst h;exact⟨arr,T,fr,r,hw,hl⟩}
  ·have h':Γ.H b=some l':=by simpa[G.Ej,CT,hb]using h
   rw[he.old b (c.Hlt (by rw[h'];simp))];exact c.hH b l' h'
 ·have h':Γ.κ b=some (o,sz):=h;have hlt:=c.κlt (by rw[h'];simp);rw[he.old b hlt,oH b hlt];exact c.hκ b o sz h
 ·refine .inl ⟨h,fun hd=>⟨fun b p sz hb=>⟨rfl,oH b (c.κlt (by rw[hb];simp))⟩,fun b τ hb=>?_⟩⟩;obtain⟨a1,a2,a3,_⟩:=c.FR hb h hd;exact⟨he.old b a3,by rw[oH b a3];exact a1⟩
 ·obtain⟨x,h1,h2⟩:=c.tok t L h;refine⟨x,h1,fun b pos sz hx=>?_⟩;obtain⟨a1,a2⟩:=h2 b pos sz hx;rw[oH b (c.κlt (by rw[a2];simp))];exact⟨a1,a2⟩
def G.HK (Γ:G) (b sz:Nat):G:={Γ with σ:=CT Γ.σ b sz}
theorem AY.HK (c:AY Γ w s) {b:Nat} {arr:Array Value} {T:TypeId} {fr:Nat × Nat} (hw:w.heap[b]? =some (.cells arr T fr)):
  AY (Γ.HK b arr.size) w s/\Bg Γ (Γ.HK b arr.size)/\GLe Γ (Γ.HK b arr.size):=by
 have hσ:∀b' sz,Γ.σ b'=some sz->(Γ.HK b arr.size).σ b'=some sz:=by intro b' sz h;by_cases e:b'=b;{subst e;obtain⟨ze,T',fr',a1,a2⟩:=c.hσ b' sz h;rw[hw]at a1;cases a1;rw[<-a2];exact Dc _ _ _};{exact(Fj _ _ e).trans h}
 have hp:Bg Γ (Γ.HK b arr.size):=⟨gy _,fun _ _ h=>h,fun t x L h=>⟨x,L,h,bx _,fun _=>rfl⟩,hσ⟩;refine⟨?_,hp,⟨gy _,rfl,fun _ _=>rfl,fun _ _ h=>h,rfl,rfl,hσ,fun _ h=>h⟩⟩;refine c.change hp rfl rfl rfl rfl c.hH (fun _ _=>rfl) c.hκ (fun k o h=>?_) (fun _ h _=>h) c.dom (fun b' sz h=>?_) c.inj c.tok c.yu (bx _);{refine .inl ⟨h,fun hd=>⟨fun b p sz _=>⟨rfl,rfl⟩,fun b τ hb=>?_⟩⟩;obtain⟨a1,a2,a3,_⟩:=c.FR hb h hd;exact⟨rfl,a1⟩}
 ·by_cases e:b'=b
  ·subst e;have:arr.size=sz:=by have h':CT Γ.σ b' arr.size b'=some sz:=h;rw[Dc]at h';exact Option.some.inj h'
   exact⟨arr,T,fr,hw,this⟩
  ·exact c.hσ b' sz ((Fj _ _ e).symm.trans h)
def G.EE (Γ:G) (t:Nat) (x:Option (Nat × Nat × Nat)) (L:Nat):G:=
 {Γ with τ:=CT Γ.τ t (x,L),κ:=match x with|none=>Γ.κ|some (b,_,sz)=>CT Γ.κ b (.tok t,sz)}
theorem AY.EE (c:AY Γ w s) {t:Nat} (ht:s.known t=false) {x:Option (Nat × Nat × Nat)} {L:Nat}
  (hx:∀b pos sz,x=some (b,pos,sz)->Γ.κ b=none/\Γ.Z b=none/\(∃l,Γ.H b=some l/\l.length=pos)/\∃arr T,w.heap[b]? =some (.cells arr T (0,0))/\arr.size=sz):
  AY (Γ.EE t x L) w {s with tk:=(t,some L)::s.tk}/\Bg Γ (Γ.EE t x L)/\GLe Γ (Γ.EE t x L):=by
 have hτ:=c.u5 ht;have oκ:∀b o,Γ.κ b=some o->(Γ.EE t x L).κ b=some o:=by
  intro b o h;cases x with
  |none=>exact h|some y=>
   obtain⟨b',pos,sz⟩:=y;have:b≠b':=by intro e;subst e;rw[(hx b pos sz rfl).1]at h;cases h
   simp[G.EE,CT,this,h]
 have hp:Bg Γ (Γ.EE t x L):=⟨gy _,fun _ _ h=>h,fun u y M h=>by
  have:u≠t:=by intro e;subst e;rw[hτ]at h;cases h
  exact⟨y,M,by simp[G.EE,CT,this,h],bx _,fun _=>rfl⟩,fun _ _ h=>h⟩
 refine⟨?_,hp,⟨gy _,rfl,fun _ _=>rfl,fun _ _ h=>h,rfl,rfl,fun _ _ h=>h,fun _ h=>h⟩⟩;refine c.change hp rfl rfl rfl rfl c.hH (fun b _=>rfl) (fun b o sz h=>?_) (fun k o h=>?_) (fun _ h _=>h) c.dom c.hσ c.inj (fun u M h=>?_) (fun u h=>?_) (bx _)
 ·cases hk:Γ.κ b with
  |some o'=>rw[oκ b o' hk]at h;cases h;exact c.hκ b o sz hk
  |none=>
   cases x with
   |none=>have h':Γ.κ b=some (o,sz):=h;rw[hk]at h';cases h'
   |some y=>
    obtain⟨b',pos,sz'⟩:=y;by_cases e:b=b';{subst e;simp[G.EE,CT]at h;obtain⟨_,a2,⟨l,a3,_⟩,a4⟩:=hx b pos sz' rfl;rw[<-h.2];obtain⟨arr,T,q1,q2⟩:=a4;exact⟨a2,by show Γ.H b≠none;rw[a3];simp,arr,T,q1,q2,by rw[<-h.1];trivial⟩};{simp[G.EE,CT,e,hk]at h}
 ·refine .inl ⟨h,fun hd=>⟨fun b p sz hb=>⟨by rw[oκ b _ hb,hb],rfl⟩,fun b τ hb=>?_⟩⟩;obtain⟨a1,a2,a3,_⟩:=c.FR hb h hd;exact⟨rfl,a1⟩
 ·rw[ND]at h;split at h;{rename_i e;subst e;cases h;refine⟨x,by simp[G.EE,CT],fun b pos sz e=>?_⟩;obtain⟨a1,a2,a3,a4⟩:=hx b pos sz e;subst e;exact⟨a3,by simp[G.EE,CT]⟩};{rename_i e;obtain⟨y,h1,h2⟩:=c.tok u M h;have e':u≠t:=fun h'=>e h'.symm;refine⟨y,by simp[G.EE,CT,e',h1],fun b pos sz hy=>?_⟩;obtain⟨a1,a2⟩:=h2 b pos sz hy;exact⟨a1,oκ b _ a2⟩}
 ·rw[Mw];by_cases e:t=u;{simp[e]};{simp only[e,decide_false,jz];have e':u≠t:=fun h'=>e h'.symm;refine c.yu u ?_;simpa[G.EE,CT,e']using h}
end
end
section
def FC (s:S):V->Option (Nat × Ty × List C)
 | .sr k q lo n _ eb e=>match s.obj k with
  |some (.box x)=>match x.at q with| .d _ c=>some (eb,e,(c.elems.drop lo).take n)|_=>none
  |_=>none
 |x=>x.Fk
theorem Ph {H:Hp} {e:Ty} {ys:List C} {m:Nat} {news:List Value} (h1:ys.length=m) (hl:news.length=m*e.size) (hr:∀i c',ys[i]? =some c'->AU H e (chunk news (i*e.size) e.size) c'):Dx news:=by
 intro v hv;obtain⟨j,hj⟩:=List.getElem?_of_mem hv;have hjl:j<m*e.size:=by rw[<-hl];exact(cd.1 hj).1
 have hs:0<e.size:=by rcases oy e.size with h|h;· rw[h,Nat.mul_zero]at hjl;omega
                      ·exact h
 have hi:j / e.size<ys.length:=by rw[h1];exact(Nat.div_lt_iff_lt_mul hs).2 hjl
 have hdm:=Nat.div_add_mod j e.size;have z8f:=Nat.mod_lt j hs;refine(hr _ _ (bo hi)).one v (fa (i:=j%e.size) ?_);rw[EP,if_pos z8f,Nat.mul_comm,hdm];exact hj
section
variable {P:Program} {Γ:G} {w:World} {s:S}
theorem jS {b off k:Nat} {arr:Array Value} {T:TypeId} {fr:Nat × Nat} {l r:List Value} (hb:w.heap[b]? =some (.cells arr T fr)) (hl:arr.toList=l++r) {j:Nat} {u:Value} (h:(chunk l off k)[j]? =some u):
  w.cell? ⟨b,off+j,none⟩=some u:=by
 rw[EP]at h;split at h
 ·have hlt:=(cd.1 h).1;have:arr[off+j]? =some u:=by rw[<-Array.getElem?_toList,hl,ft hlt];exact h
  simp[mu,hb,this]
 ·cases h
theorem XB (c:AY Γ w s) {Y:V} {v:Value} {eb:Nat} {e:Ty} {ys:List C} (hr:AK Γ Y v) (he:FC s Y=some (eb,e,ys)) {tx E':TypeId} (hu:P.underlying tx=some (.slice E')):
  ∃n news,Src P e.size tx v n news w/\ys.length=n/\n<=maxLen/\n*eb<=140737488355328/\∀i c',ys[i]? =some c'->AU Γ.H e (chunk news (i*e.size) e.size) c':=by
 -- a slice that is known as data
 have frozen:∀{eb:Nat} {e:Ty} {ys:List C},Y.Fk=some (eb,e,ys)->∃n news,Src P e.size tx v n news w/\ys.length=n/\n<=maxLen/\n*eb<=140737488355328/\∀i c',ys[i]? =some c'->AU Γ.H e (chunk news (i*e.size) e.size) c':=by
  intro eb e ys he;obtain⟨a,n,cap,rfl,h1,h2,h3,h4,h5⟩:=Kb hr he;obtain⟨a',n',z8r,e1,_,e2,e3,e4,e5,e6⟩:=JC h5;simp at e1;obtain⟨rfl,rfl,rfl⟩:=e1;simp only[ax]at e6;have hz:∀{ad:Addr},n=0->Src P e.size tx (.slice (some ad) n cap) n [] w:=by intro ad h0;subst h0;exact qd w hu _ 0 cap [] (by simp) (by simp) (by simp)
  by_cases h0:n=0;{refine⟨n,[],?_,h1,by omega,h4,fun i c' hi=>?_⟩;{cases a with|none=>subst h0;exact uz w hu cap|some ad=>exact hz h0};{have:=(cd.1 hi).1;omega}}
  ·rcases e6 with e6|⟨b,off,l,rfl,hb,hs,hc⟩;{exact absurd e6 h0}
   ·obtain⟨arr,T,fr,r,hw,hl⟩:=c.hH b l hb;have hnl:(chunk l off (n*e.size)).length=n*e.size:=Ek _ _ _ hs;have yr:∀i c',ys[i]? =some c'->AU Γ.H e (chunk (chunk l off (n*e.size)) (i*e.size) e.size) c':=by
     intro i c' hi;have hil:i<n:=by rw[<-h1];exact(cd.1 hi).1
     have hle:(i+1)*e.size<=n*e.size:=cf _ hil;rw[da]at hle;rw[FB _ _ _ _ _ (by omega)];exact hc i c' hi
    exact⟨n,chunk l off (n*e.size),qd w hu _ n cap _ hnl (fun j u hj=>by rw[Ii];exact jS hw hl hj) (Ph h1 hnl yr),h1,by omega,h4,yr⟩
 cases Y <;> (try exact frozen he)
 case sr k q lo n cp eb' e'=>
  simp only[FC]at he;cases ho:s.obj k with
  |none=>simp[ho]at he|some o=>
   cases o with
   |map=>simp[ho]at he|it=>simp[ho]at he|dead=>simp[ho]at he|box x=>
    simp only[ho]at he;cases hx:x.at q with
    |d τ cc=>
     simp only[hx,ee,fw]at he;obtain⟨rfl,rfl,rfl⟩:=he;rcases Hx hr with⟨_,rfl,a,rfl⟩|⟨b,τ0,o0,m,cap,a,a1,a2,a3,rfl,a4,a5,a6,a7,_⟩;{refine⟨0,[],?_,by simp,by unfold maxLen;omega,by rw[gq];exact dr _,fun i c' hi=>by simp at hi⟩;cases a with|none=>exact uz w hu 0|some ad=>exact qd w hu _ 0 0 [] (by simp) (by simp) (by simp)};obtain⟨b',cells,T,g1,g2,g3,g4,g5,g6,g7,_⟩:=c.own a1 ho;obtain⟨fr0,g4,zb⟩:=g4;rw[a1]at g1;cases g1;obtain⟨q1,q2,q3⟩:=g6.at_ a2 (by rw[hx];simp) g7;rw[hx]at q1 q3;simp only[V.ty]at q1;subst q1;simp only[AA,AU]at q3;obtain⟨cs,rfl,r1,r2,r3,r4⟩:=q3;simp only[ax];rw[Ek _ _ _ (by simpa using g5)]at q2;have hlen:((cs.drop lo).take n).length=n:=by simp;omega
     have hmul:(lo+n)*e'.size<=m*e'.size:=cf _ a3;rw[da]at hmul;simp only[gu]at q2 r2 r4;have yq:o0+lo*e'.size+n*e'.size<=cells.toList.length:=by simp;omega
     have hnl:(chunk cells.toList (o0+lo*e'.size) (n*e'.size)).length=n*e'.size:=Ek _ _ _ yq;have yr:∀i c',((cs.drop lo).take n)[i]? =some c'->AU Γ.H e' (chunk (chunk cells.toList (o0+lo*e'.size) (n*e'.size)) (i*e'.size) e'.size) c':=by intro i c' hi;rw[fh]at hi;split at hi;{rename_i hin;rw[iz]at hi;have:=r4 _ _ hi;have hle:(i+1)*e'.size<=n*e'.size:=cf _ hin;have z9e:(lo+i+1)*e'.size<=m*e'.size:=cf _ (by omega);rw[da,da]at z9e;rw[da]at hle this;rw[FB _ _ _ _ _ (by omega),FB _ _ _ _ _ (by omega)]at this;rw[FB _ _ _ _ _ (by omega)];rw[show 0+(o0+(lo*e'.size+i*e'.size))=o0+lo*e'.size+i*e'.size by omega]at this;exact this};{cases hi}
     rcases oy n with h0|h0;{subst h0;refine⟨0,[],?_,hlen,by omega,by rw[gq];exact dr _,fun i c' hi=>by simp at hi⟩;cases a with|none=>exact uz w hu cap|some ad=>exact qd w hu _ 0 cap [] (by simp) (by simp) (by simp)}
     ·have ha:a=some ⟨b,o0+lo*e'.size,none⟩:=by rcases a4 with h|h;· omega
                                                ·exact h
      subst ha;exact⟨n,_,qd w hu _ n cap _ hnl (fun j u hj=>by rw[Ii];exact jS (r:=[]) g4 (by simp) hj) (Ph hlen hnl yr),hlen,by omega,a7,yr⟩
    |_=>simp[hx]at he
theorem q9b {Y:V} {v:Value} (hr:AK Γ Y v) (hY:Y.isStr) {tx:TypeId} (hu:P.underlying tx=some .string):
  ∃n news,Src P 1 tx v n news w/\(Y.toStr.map fun b=>C.int b.toNat).length=n/\n<=maxLen/\n*1<=140737488355328/\
   ∀i c',(Y.toStr.map fun b=>C.int b.toNat)[i]? =some c'->AU Γ.H (.int .u8) (chunk news (i*1) 1) c':=by
 obtain⟨cc,rfl⟩:=V.Mv hY;obtain⟨rfl,_,hl⟩:=IQ hr;have hsz:(⟨cc.toStr.toArray⟩:ByteArray).size=cc.toStr.length:=by simp[ByteArray.size]
 refine⟨cc.toStr.length,byteCells ⟨cc.toStr.toArray⟩,?_,by simp[V.toStr],by unfold maxLen;omega,by omega,fun i c' hi=>?_⟩
 ·have:=Src.ofString w hu (⟨cc.toStr.toArray⟩:ByteArray)
  rwa [hsz]at this
 ·simp only[V.toStr,db]at hi;cases hc:cc.toStr[i]? with
  |none=>simp[hc]at hi|some b=>
   simp[hc]at hi;subst hi;have:chunk (byteCells ⟨cc.toStr.toArray⟩) (i*1) 1=[.int .u8 b.toNat]:=by
    apply fb;intro j;rw[EP];by_cases hj:j<1
    ·have:j=0:=by omega
     subst this;simp[byteCells,hc]
    ·simp[hj]
   rw[this];simp only[AU];refine⟨_,rfl,rfl,?_,?_⟩
   ·have:IntKind.u8.min=0:=by decide
    omega
   ·have:IntKind.u8.max=255:=by decide
    have:=b.toNat_lt;omega
end
theorem ZQ {H:Hp} {e:Ty} {n m:Nat} {xs ys:List C} {olds news rest:List Value} (h1:xs.length=n) (h2:ys.length=m) (h3:olds.length=n*e.size) (h4:news.length=m*e.size)
  (hx:∀i c',xs[i]? =some c'->AU H e (chunk olds (i*e.size) e.size) c') (hy:∀i c',ys[i]? =some c'->AU H e (chunk news (i*e.size) e.size) c'):
  ∀i c',(xs++ys)[i]? =some c'->AU H e (chunk (olds++news++rest) (i*e.size) e.size) c':=by
 intro i c' hi;by_cases hlt:i<n;{rw[ft (by omega)]at hi;have:=hx i c' hi;have hb:(i+1)*e.size<=n*e.size:=cf _ (by omega);rw[da]at hb;rw[gd,OU _ _ _ _ (by omega)];exact this}
 ·rw[gh (by omega),h1]at hi;have hil:i-n<m:=by rw[<-h2];exact(cd.1 hi).1
  have:=hy _ c' hi;have hb:(i-n+1)*e.size<=m*e.size:=cf _ (by omega);rw[da]at hb;have hmul:i*e.size=n*e.size+(i-n)*e.size:=by rw[<-da];congr 1;omega
  have e1:chunk (olds++news++rest) (i*e.size) e.size=chunk news ((i-n)*e.size) e.size:=by simp only[chunk,gd];rw[hmul,<-h3,qu,jy (by omega),jr,Nat.add_sub_cancel_left,List.drop_append_of_le_length (by omega),qy (by simp;omega)]
  rw[e1];exact this
end
section
def BK (P:Program) (T:TypeId):TypeId:=match P.underlying T with|some (.slice e)=>e|_=>0
section
variable {P:Program} {Γ:G} {w w':World} {s:S}
theorem MD (hP:BS P=true) {T:TypeId} {eb:Nat} {e:Ty} (h:ty P T= .slice eb e):
  P.underlying T=some (.slice (BK P T))/\e=tyF P 11 (BK P T)/\eb=P.bytesOf (BK P T)/\BK P T<P.types.size:=by
 obtain⟨E,h1,h2,h3,h4⟩:=Ie hP h;have:BK P T=E:=by simp[BK,h1]
 rw[this];exact⟨h1,h2,h3,h4⟩
theorem MJ {T:TypeId} (h:Cb P T=true):∃i z,P.info? T=some i/\i.zero=some z/\Eh (ty P T) z.cells.toList=true/\Eh (tyF P 11 T) z.cells.toList=true:=by
 unfold Cb at h;cases hi:P.info? T with
 |none=>simp[hi]at h|some i=>
  cases hz:i.zero with
  |none=>simp[hi,hz]at h|some z=>simp[hi,hz]at h;exact⟨i,z,rfl,hz,h.1.1,h.2⟩
theorem Nt {τ:Ty} {vs:List Value} (h:Eh τ vs=true):vs.length=τ.size:=(HZ (H:=fun _=>none) h).length
theorem eV {w w':World} {b:Nat} {o:Obj} (hw:w'.heap[b]? =some o) (oth:∀b',b'≠b->w'.heap[b']? =w.heap[b']?):w.heap.size<=w'.heap.size:=by
 cases lg w'.heap.size w.heap.size with
 |inr h=>exact h|inl hlt=>
  have h1:=IK hw;have h3:=oth w'.heap.size (by omega);rw[Array.getElem?_eq_none (bx _),dw hlt]at h3;cases h3
theorem AY.q2u (c:AY Γ w s) {t L L' b pos sz:Nat} {l ws r:List Value} {ze:Array Value} {T:TypeId} (hl:s.live t=some L) (hτ:Γ.τ t=some (some (b,pos,sz),L)) (hw:w'.heap[b]? =some (.cells ze T (0,0)))
  (hH:Γ.H b=some l) (hκ:Γ.κ b=some (.tok t,sz)) (y0n:ze.toList=l++ws++r) (hsz:ze.size=sz) (oth:∀b',b'≠b->w'.heap[b']? =w.heap[b']?) (hLL:L<L') (hoo:oof w'=oof w):
  ∃Γ',Γ'.H b=some (l++ws)/\Γ'.τ t=some (some (b,(l++ws).length,sz),L')/\AY Γ' w' {s with tk:=(t,some L')::s.tk}/\Bg Γ Γ'/\GLe Γ Γ':=by
 have hz:Γ.Z b=none:=(c.hκ b _ _ hκ).1;refine⟨{Γ with H:=CT Γ.H b (l++ws),τ:=CT Γ.τ t (some (b,(l++ws).length,sz),L')},Dc _ _ _,Dc _ _ _,?_⟩;have hle:Γ.H.le (CT Γ.H b (l++ws)):=by intro b' l' h;by_cases e:b'=b;{subst e;rw[hH]at h;cases h;exact⟨ws,Dc _ _ _⟩};{exact⟨[],by rw[Fj _ _ e,h];simp⟩}
 have hp:Bg Γ {Γ with H:=CT Γ.H b (l++ws),τ:=CT Γ.τ t (some (b,(l++ws).length,sz),L')}:=by refine⟨hle,fun _ _ h=>h,fun u y M h=>?_,fun _ _ h=>h⟩;by_cases e:u=t;{subst e;rw[hτ]at h;cases h;exact⟨_,L',Dc _ _ _,by omega,fun e=>by omega⟩};{exact⟨y,M,(Fj _ _ e).trans h,bx _,fun _=>rfl⟩}
 refine⟨?_,hp,⟨hle,rfl,fun b' h=>Fj _ _ (fun e=>by subst e;exact h hz),fun _ _ h=>h,rfl,rfl,fun _ _ h=>h,fun _ h=>h⟩⟩;refine c.change hp rfl rfl rfl hoo (fun b' l' h=>?_) (fun b' h=>oth b' (fun e=>by subst e;exact h hz)) (fun b' o sz' h=>?_) (fun k o h=>?_) (fun _ h _=>h) c.dom (fun b' sz' h=>?_) c.inj (fun u M h=>?_) (fun u h=>?_) (eV hw oth)
 ·by_cases e:b'=b
  ·subst e;have h':l++ws=l':=by simpa[CT]using h
   subst h';exact⟨ze,T,(0,0),r,hw,y0n⟩
  ·have h':Γ.H b'=some l':=by simpa[CT,e]using h
   rw[oth b' e];exact c.hH b' l' h'
 ·have h':Γ.κ b'=some (o,sz'):=h;by_cases e:b'=b;{subst e;rw[hκ]at h';cases h';exact⟨hz,by simp[CT],ze,T,hw,hsz,trivial⟩};{obtain⟨a1,a2,a3⟩:=c.hκ b' o sz' h';exact⟨a1,by simpa[CT,e]using a2,by rw[oth b' e];exact a3⟩}
 ·refine .inl ⟨h,fun hd=>⟨fun b' p sz' hb=>?_,fun b' τ hb=>?_⟩⟩
  ·have hb':Γ.κ b'=some (.home k p,sz'):=hb;have e:b'≠b:=by intro e;subst e;rw[hκ]at hb';cases hb'
   exact⟨rfl,Fj _ _ e⟩
  ·obtain⟨a1,a2,a3,_⟩:=c.FR hb h hd;have e:b'≠b:=by intro e;subst e;rw[hH]at a1;cases a1
   exact⟨oth b' e,by simpa[CT,e]using a1⟩
 ·obtain⟨arr,T1,fr,a1,a2⟩:=c.hσ b' sz' h;by_cases e:b'=b;{subst e;obtain⟨_,_,arr2,T2,a3,a4,_⟩:=c.hκ b' _ _ hκ;rw[a1]at a3;cases a3;exact⟨ze,T,(0,0),hw,by omega⟩};{exact⟨arr,T1,fr,by rw[oth b' e];exact a1,a2⟩}
 ·rw[ND]at h;split at h;{rename_i e;subst e;cases h;refine⟨_,Dc _ _ _,fun b' pos' sz' e=>?_⟩;cases e;exact⟨⟨_,Dc _ _ _,rfl⟩,hκ⟩}
  ·rename_i e;have e':u≠t:=fun h'=>e h'.symm;obtain⟨y,h1,h2⟩:=c.tok u M h;refine⟨y,(Fj _ _ e').trans h1,fun b' pos' sz' hy=>?_⟩;obtain⟨a1,a2⟩:=h2 b' pos' sz' hy;have e2:b'≠b:=by intro e2;subst e2;rw[hκ]at a2;simp at a2;exact e a2.1
   exact⟨by simpa[CT,e2]using a1,a2⟩
 ·rw[Mw];by_cases e:t=u;{simp[e]};{have e':u≠t:=fun h'=>e h'.symm;simp only[e,decide_false,jz];refine c.yu u ?_;simpa[CT,e']using h}
theorem AY.q47 (c:AY Γ w s) {t L L' b sz:Nat} {x:Option (Nat × Nat × Nat)} {l:List Value} {arr:Array Value} {T:TypeId} (hτ:Γ.τ t=some (x,L)) (hw:w.heap[b]? =some (.cells arr T (0,0)))
  (hH:Γ.H b=some l) (hκ:Γ.κ b=none) (hz:Γ.Z b=none) (hsz:arr.size=sz) (hLL:L<L'):
  ∃Γ',Γ'.H=Γ.H/\Γ'.τ t=some (some (b,l.length,sz),L')/\AY Γ' w {s with tk:=(t,some L')::s.tk}/\Bg Γ Γ'/\GLe Γ Γ':=by
 refine⟨{Γ with τ:=CT Γ.τ t (some (b,l.length,sz),L'),κ:=CT Γ.κ b (.tok t,sz)},rfl,Dc _ _ _,?_⟩;have oκ:∀b' o,Γ.κ b'=some o->CT Γ.κ b (.tok t,sz) b'=some o:=by
  intro b' o h;have:b'≠b:=by intro e;subst e;rw[hκ]at h;cases h
  rw[Fj _ _ this,h]
 have hp:Bg Γ {Γ with τ:=CT Γ.τ t (some (b,l.length,sz),L'),κ:=CT Γ.κ b (.tok t,sz)}:=by refine⟨gy _,fun _ _ h=>h,fun u y M h=>?_,fun _ _ h=>h⟩;by_cases e:u=t;{subst e;rw[hτ]at h;cases h;exact⟨_,L',Dc _ _ _,by omega,fun e=>by omega⟩};{exact⟨y,M,(Fj _ _ e).trans h,bx _,fun _=>rfl⟩}
 refine⟨?_,hp,⟨gy _,rfl,fun _ _=>rfl,fun _ _ h=>h,rfl,rfl,fun _ _ h=>h,fun _ h=>h⟩⟩;refine c.change hp rfl rfl rfl rfl c.hH (fun b' _=>rfl) (fun b' o sz' h=>?_) (fun k o h=>?_) (fun _ h _=>h) c.dom c.hσ c.inj (fun u M h=>?_) (fun u h=>?_) (bx _)
 ·by_cases e:b'=b
  ·subst e;have h':sz=sz':=by have:=h;simp[CT]at this;exact this.2
   subst h';exact⟨hz,by rw[hH];simp,arr,T,hw,hsz,by have:=h;simp[CT]at this;rw[<-this];trivial⟩
  ·exact c.hκ b' o sz' ((Fj _ _ e).symm.trans h)
 ·refine .inl ⟨h,fun hd=>⟨fun b' p sz' hb=>⟨(oκ b' _ hb).trans hb.symm,rfl⟩,fun b' τ hb=>?_⟩⟩;obtain⟨a1,_⟩:=c.FR hb h hd;exact⟨rfl,a1⟩
 ·rw[ND]at h;split at h;{rename_i e;subst e;cases h;refine⟨_,Dc _ _ _,fun b' pos' sz' e=>?_⟩;cases e;exact⟨⟨l,hH,rfl⟩,Dc _ _ _⟩};{rename_i e;have e':u≠t:=fun h'=>e h'.symm;obtain⟨y,h1,h2⟩:=c.tok u M h;refine⟨y,(Fj _ _ e').trans h1,fun b' pos' sz' hy=>?_⟩;obtain⟨a1,a2⟩:=h2 b' pos' sz' hy;exact⟨a1,oκ b' _ a2⟩}
 ·rw[Mw];by_cases e:t=u;{simp[e]};{have e':u≠t:=fun h'=>e h'.symm;simp only[e,decide_false,jz];refine c.yu u ?_;simpa[CT,e']using h}
theorem AY.q8E (c:AY Γ w s) {t L:Nat} (hl:s.live t=some L):AY Γ w {s with tk:=(t,some L)::s.tk}:=by refine c.congr (fun _=>rfl) (fun u=>?_) (fun u h=>?_);{rw[ND];split;{rename_i e;rw[<-e,hl]};{rfl}};{rw[Mw,h];simp}
theorem eO (b:Nat):∀(vs:List Value) (o:Nat) (w:World) (arr:Array Value) (T:TypeId) (fr:Nat × Nat),w.heap[b]? =some (.cells arr T fr)->o+vs.length<=arr.size->
  ∃ze,(w.setCells b o vs).heap[b]? =some (.cells ze T fr)/\ze.toList=Bx arr.toList o vs
 | [],o,w,arr,T,fr,h,_=>⟨arr,h,by simp[Bx]⟩|v::vs,o,w,arr,T,fr,h,hl=>by
  have h1:(w.setCell ⟨b,o,none⟩ v).heap[b]? =some (.cells (arr.setIfInBounds o v) T fr):=by simp[xj,uc,h]
  obtain⟨ze,h2,h3⟩:=eO b vs (o+1) _ _ T fr h1 (by simp at hl ⊢;omega);refine⟨ze,h2,?_⟩;rw[h3];apply fb;intro j;simp only[cg]at hl;rw[Gi (by simp;omega),Gi (by simp;omega)];simp only[cg,lj,fy,ic];by_cases h4:o+1<=j/\j<o+1+vs.length;{rw[if_pos h4,if_pos (by omega),show j-o=(j-(o+1))+1 by omega,fu]};{rw[if_neg h4];by_cases h5:o=j;{subst h5;rw[if_pos rfl,if_pos (by omega),if_pos (by omega)];simp};{rw[if_neg h5,if_neg (by omega)]}}
theorem eP (b:Nat):∀(vs:List Value) (o:Nat) (w:World) (b':Nat),b'≠b->(w.setCells b o vs).heap[b']? =w.heap[b']?
 | [],_,_,_,_=>rfl|v::vs,o,w,b',h=>by rw[World.setCells,eP b vs _ _ b' h];have hb:b≠b':=fun e=>h e.symm;simp[xj,uc,hb]
def OI (o:Oper) (x y:Operand) (t t':TypeId):Prop:=o.op= .call {callee:=.builtin .append,args:=#[x,y],argTypes:=#[t,t']}
theorem Kd {o:Oper} {x y:Operand} {t t':TypeId} (ho:OI o x y t t') {ρ:Operand->Value} {w w':World} {v:Value}
  (h:(nv #[t,t'] o.type #[ρ x,ρ y]).run P w= .ok v w'):(execOp ρ o).run P w= .ok (.value v) w':=by
 unfold OI at ho;unfold execOp;simp[ho,resolve,invoke,builtin,h]
theorem xO {t tx T:TypeId} {E:TypeId} {i:TypeInfo} (ht:P.underlying t=some (.slice E)) (hi:P.info? E=some i) {a:Option Addr} {n cap:Nat} {x:Value} {news:List Value} (hs:Src P i.size tx x 0 news w) (h:n<=cap):
  (nv #[t,tx] T #[.slice a n cap,x]).run P w= .ok (.slice a n cap) w:=by
 have hn:news=[]:=fl (by rw[hs.newsLen];simp);subst hn;rcases hs.kind with⟨e',hk⟩|hk <;> cases a <;> simp[nv,run_underlying ht,run_underlying hk,sizeOf,typeInfo,hi,hs.len,h,hs.cells,storeCells]
def Ki (P:Program) (s:S) (t':TypeId) (eb:Nat) (e:Ty) (Y:V) (ys:List C):Prop:=
 ((∃E',P.underlying t'=some (.slice E'))/\(FC s Y=some (eb,e,ys)\/(Y= .ye/\ys=[])))\/
 (P.underlying t'=some .string/\Y.isStr/\e= .int .u8/\eb=1/\ys=Y.toStr.map fun b=>C.int b.toNat)
theorem TS (c:AY Γ w s) {t':TypeId} {Y:V} {v:Value} {eb:Nat} {e:Ty} {ys:List C} (hr:AK Γ Y v) (h:Ki P s t' eb e Y ys):
  ∃n news,Src P e.size t' v n news w/\ys.length=n/\n<=maxLen/\n*eb<=140737488355328/\∀i c',ys[i]? =some c'->AU Γ.H e (chunk news (i*e.size) e.size) c':=by
 rcases h with⟨⟨E',hu⟩,h|⟨rfl,rfl⟩⟩|⟨hu,h1,rfl,rfl,rfl⟩;{exact XB c hr h hu};{rw[GM hr];exact⟨0,[],uz w hu 0,rfl,dr _,by rw[gq];exact dr _,fun i c' hi=>by simp at hi⟩};{exact q9b hr h1 hu}
theorem pJ (c:AY Γ w s):Γ.κ w.heap.size=none/\Γ.Z w.heap.size=none:=by refine⟨?_,?_⟩;{cases hh:Γ.κ w.heap.size with|none=>rfl|some x=>exact absurd (c.κlt (by rw[hh];simp)) (qi _)};{cases hh:Γ.Z w.heap.size with|none=>rfl|some x=>exact absurd (c.Zlt (by rw[hh];simp)) (qi _)}
theorem lH (hP:BS P=true) (c:AY Γ w s) {o:Oper} {a:Act} {x y:Operand} {t t':TypeId} {n:Nat} {X Y:V} {ys:List C} {eb:Nat} {e:Ty} (ho:OI o x y t t')
  (ht:ty P t= .slice eb e) (hz:Cb P (BK P t)=true) (hn:s.known n=false)
  (hx:AK Γ X (a.eval x)) (hX:X= .ye\/∃eb' e',X= .emp eb' e') (hy:AK Γ Y (a.eval y)) (hel:Ki P s t' eb e Y ys):
  BU P o a w (BX Γ w {s with tk:=(n,some ys.length)::s.tk} (.sl eb e ys n)):=by
 obtain⟨hu,he,heb,hE⟩:=MD hP ht;obtain⟨a0,hx0⟩:∃a0,a.eval x= .slice a0 0 0:=by rcases hX with rfl|⟨eb',e',rfl⟩;{exact⟨none,GM hx⟩};{obtain⟨h1,_⟩:=(Ch rfl rfl).1 hx;simp only[AA]at h1;obtain⟨a0,h1⟩:=h1;exact⟨a0,by simpa using h1⟩}
 obtain⟨m,news,hs,r1,r2,r3,r4⟩:=TS c hy hel;obtain⟨i,z,hi,hzz,hzo,z8s⟩:=MJ hz;have hcz:=Nt hzo;have hsz:i.size=e.size:=by have:=Dq hP 11 (BK P t);rw[he,this];simp[iv,hi]
 have hby:i.bytes=eb:=by rw[heb];simp[qs,hi]
 rw[<-hsz]at hs;by_cases hm:m=0;{subst hm;have hys:ys=[]:=fl r1;subst hys;obtain⟨c1,p1,g1⟩:=c.EE hn (x:=none) (L:=0) (fun _ _ _ h=>by cases h);refine BU.val (v:=.slice a0 0 0) (w':=w) (Kd ho ?_) ⟨_,g1,p1,c1,(Ch rfl rfl).2 ⟨?_,rfl⟩⟩;{rw[hx0];exact xO hu hi hs (bx _)};{simp only[AA];exact⟨a0,0,0,rfl,Eg rfl (bx _) (dr _) (by rw[gq];exact dr _) (.inl rfl),none,0,by simp[G.EE,CT],bx _,fun _=>rfl⟩}}
 ·have zg:((0+m:Nat):Int)<=9223372036854775807:=by unfold maxLen at r2;omega
  have hge:=grownCap_ge w (0+m) 0 (BK P t);have hcm:=grownCap_le_maxLen w (0+m) 0 (BK P t) (by omega);have hold:(fx i.size 0 (.slice a0 0 0)).run P w.drew= .ok ([]:List Value).toArray w.drew:=by
   cases a0 with
   |none=>exact run_firstCells_none w.drew i.size 0 0 0|some ad=>exact run_firstCells_some w.drew i.size 0 ad 0 0 [] (by simp) (by simp)
  have run:=run_append_grow_src (P:=P) w t t' o.type _ i z hu hi hzz a0 0 0 [] hold (a.eval y) m news hs (by omega) zg (by
   rw[hby];exact growslice_fits (by omega) (by rw[bf];exact r3))
  rw[<-hx0]at run;have he:Ext w (w.drew.alloc (.cells ((([]:List Value)++news).toArray++fm z.cells (grownCap w (0+m) 0 (BK P t)-(0+m))) (BK P t))):=(Ext.drew w).trans (Ext.alloc _ _);have yo:=heap_alloc_new w.drew (.cells ((([]:List Value)++news).toArray++fm z.cells (grownCap w (0+m) 0 (BK P t)-(0+m))) (BK P t));obtain⟨c1,p1,g1⟩:=c.Ej he (l:=news) (r:=(fm z.cells (grownCap w (0+m) 0 (BK P t)-(0+m))).toList) yo (by simp);obtain⟨k1,k2⟩:=pJ c;have hzc:z.cells.size=e.size:=by have h1:=Dq hP 11 (BK P t);have h2:=Nn hP (BK P t);rw[‹e=_›,h1,<-h2,<-hcz];simp
  have hnl:news.length=m*e.size:=by rw[hs.newsLen,hsz]
  have zo:((([]:List Value)++news).toArray++fm z.cells (grownCap w (0+m) 0 (BK P t)-(0+m))).size=grownCap w (0+m) 0 (BK P t)*e.size:=by simp only[jr,vh,iq,size_zeroCells,hzc,hnl,<-da];congr 1;omega
  obtain⟨c2,p2,g2⟩:=c1.EE (t:=n) hn (x:=some (w.heap.size,news.length,grownCap w (0+m) 0 (BK P t)*e.size)) (L:=ys.length) (fun b pos sz h=>by
   cases h;exact⟨k1,k2,⟨news,Dc _ _ _,rfl⟩,_,_,yo,zo⟩)
  refine BU.val (Kd ho run) ⟨_,g1.trans g2,p1.trans p2,c2,(Ch rfl rfl).2 ⟨?_,rfl⟩⟩;simp only[AA];rw[show 0+m=m by omega]at hge hcm ⊢;refine⟨_,m,_,rfl,Eg r1 hge hcm r3 (.inr ⟨w.heap.size,0,news,rfl,Dc _ _ _,by omega,fun i c' hi=>?_⟩),_,_,Dc _ _ _,bx _,fun _=>⟨rfl,hnl.symm,bx _⟩⟩;rw[bf];exact(r4 i c' hi).mono p1.H
theorem q0J (hP:BS P=true) (c:AY Γ w s) {o:Oper} {a:Act} {x y:Operand} {t t':TypeId} {tk:Nat} {Y:V} {cs ys:List C} {eb:Nat} {e:Ty} (ho:OI o x y t t')
  (ht:ty P t= .slice eb e) (hz:Cb P (BK P t)=true) (hl:s.live tk=some cs.length)
  (hx:AK Γ (.sl eb e cs tk) (a.eval x)) (hy:AK Γ Y (a.eval y)) (hel:Ki P s t' eb e Y ys) (hlen:(cs.length+ys.length)*eb<=140737488355328) (z8V:cs.length+ys.length<=maxLen):
  BU P o a w (BX Γ w {s with tk:=(tk,some (cs.length+ys.length))::s.tk} (.sl eb e (cs++ys) tk)):=by
 obtain⟨hu,he,heb,hE⟩:=MD hP ht;obtain⟨m,news,hs,r1,r2,r3,r4⟩:=TS c hy hel;obtain⟨n,olds,hso,o1,o2,o3,o4⟩:=XB (P:=P) (tx:=t) c hx (show FC s (.sl eb e cs tk)=some (eb,e,cs) from rfl) hu;obtain⟨h1,_⟩:=(Ch rfl rfl).1 hx;simp only[AA]at h1;obtain⟨aa,n',cap,hv,hrc,x0,L0,hτ,hL1,hL2⟩:=h1;simp at hv;obtain⟨x1,hτ1,y0o⟩:=c.tok tk _ hl;rw[hτ]at hτ1;cases hτ1;have hL2:=hL2 rfl;obtain⟨_,n1,y0p,e1,_,e2,hle,z8W,hnb,hm⟩:=JC hrc;simp at e1;obtain⟨rfl,rfl,rfl⟩:=e1;simp only[ax]at e2 hm;have hnn:n=n':=by omega
 subst hnn;obtain⟨i,z,hi,hzz,hzo,z8s⟩:=MJ hz;have hcz:=Nt hzo;have hsz:i.size=e.size:=by have:=Dq hP 11 (BK P t);rw[he,this];simp[iv,hi]
 have hby:i.bytes=eb:=by rw[heb];simp[qs,hi]
 have hzc:z.cells.size=e.size:=by have h1:=Dq hP 11 (BK P t);have h2:=Nn hP (BK P t);rw[‹e=_›,h1,<-h2,<-hcz];simp
 rw[<-hsz]at hs hso;have hnl:news.length=m*e.size:=by rw[hs.newsLen,hsz]
 have hol:olds.length=n*e.size:=by rw[hso.newsLen,hsz]
 by_cases hm0:m=0;{subst hm0;have hys:ys=[]:=fl r1;subst hys;refine BU.val (v:=.slice aa n cap) (w':=w) (Kd ho ?_) ⟨Γ,.refl Γ,.refl Γ,?_,?_⟩;{rw[hv];exact xO hu hi hs hle};{exact c.q8E (by simpa using hl)};{rw[tv,<-hv];exact hx}}
 ·have hys:0<ys.length:=by omega
  have z9y:(cs++ys).length=n+m:=by rw[br,o1,r1]
  have hmx:n+m<=maxLen:=by omega
  have zg:((n+m:Nat):Int)<=9223372036854775807:=by unfold maxLen at hmx;omega
  have hbb:(n+m)*eb<=140737488355328:=by rw[<-o1,<-r1];exact hlen
  by_cases zu:n+m<=cap
  · -- in the room behind
   cases x0 with
   |none=>simp only at hL2;omega|some y0=>
    obtain⟨b,pos,sz⟩:=y0;simp only at hL2;obtain⟨rfl,z9f,hcs⟩:=hL2;obtain⟨⟨l,hH,hlp⟩,hκ⟩:=y0o b pos sz rfl;obtain⟨hZ,_,arr,T,hw,has,_⟩:=c.hκ b _ _ hκ;have z8m:n*e.size+m*e.size<=arr.size:=by rw[has,<-da];exact kh (cf _ zu) hcs
    have run:=run_append_room_src (P:=P) w t t' o.type _ i hu hi b 0 n cap (a.eval y) m news hs zu
     (fun j hj=>by
      rw[hnl]at hj;simp[mu,hw];rw[hsz];omega)
     (fun j hj=>by simp[xi,hw])
    rw[<-hv]at run;rw[bf,hsz]at run;obtain⟨ze,hw',z8y⟩:=eO b news (n*e.size) w arr T (0,0) hw (by rw[hnl];exact z8m);obtain⟨arr0,T0,fr0,r0,hw0,hl0⟩:=c.hH b l hH;rw[hw]at hw0;cases hw0;have z9J:ze.toList=l++news++r0.drop news.length:=by rw[z8y,hl0];unfold Bx;rw[z9f,<-hlp,List.take_left',qu,jy (by omega)];{simp};{rfl}
    obtain⟨Γ',q1,q2,q3,q4,q5⟩:=c.q2u (w':=w.setCells b (n*e.size) news) hl hτ hw' hH hκ z9J (by rw[<-has,<-ic,<-ic,z8y,Ia (by rw[hnl];simpa using z8m)])
     (fun b' hb'=>eP b news _ w b' hb') (show cs.length<cs.length+ys.length by omega) (by unfold oof;rw[World.os_setCells,World.output_setCells])
    refine BU.val (Kd ho run) ⟨Γ',q5,q4,q3,(Ch rfl rfl).2 ⟨?_,rfl⟩⟩;simp only[AA];refine⟨_,n+m,cap,rfl,Eg z9y zu z8W hbb (.inr ⟨b,0,l++news,rfl,q1,?_,fun j c' hj=>?_⟩),_,_,q2,by rw[br];exact bx _,fun _=>⟨rfl,?_,hcs⟩⟩;{simp only[br,hnl,hlp];rw[da];omega}
    ·rw[bf];have hold:∀i c',cs[i]? =some c'->AU Γ'.H e (chunk l (i*e.size) e.size) c':=by intro i' c'' hi';rcases hm with hm|⟨b1,off,l1,e1,hb1,hs1,hc1⟩;{have:=(cd.1 hi').1;omega};{simp at e1;obtain⟨rfl,rfl⟩:=e1;rw[hH]at hb1;cases hb1;have:=hc1 i' c'' hi';rw[bf]at this;exact this.mono q4.H}
     have yo:∀i c',ys[i]? =some c'->AU Γ'.H e (chunk news (i*e.size) e.size) c':=fun i c' hi=>(r4 i c' hi).mono q4.H;have:=ZQ (rest:=[]) e2 r1 (by rw[hlp];exact z9f.symm) hnl hold yo j c' hj;simpa using this
    ·simp only[br,hnl,hlp,da,z9f]
  · -- a new block
   have hge:=grownCap_ge w (n+m) cap (BK P t);have hcm:=grownCap_le_maxLen w (n+m) cap (BK P t) hmx;have z8X:(fx i.size n (.slice aa n cap)).run P w.drew= .ok olds.toArray w.drew:=by rw[<-hv];exact hso.cellsD
   have run:=run_append_grow_src (P:=P) w t t' o.type _ i z hu hi hzz aa n cap olds z8X (a.eval y) m news hs (by omega) zg (by
    rw[hby];exact growslice_fits (by omega) hbb)
   rw[<-hv]at run;have z8h:Ext w (w.drew.alloc (.cells ((olds++news).toArray++fm z.cells (grownCap w (n+m) cap (BK P t)-(n+m))) (BK P t))):=(Ext.drew w).trans (Ext.alloc _ _);have yo:=heap_alloc_new w.drew (.cells ((olds++news).toArray++fm z.cells (grownCap w (n+m) cap (BK P t)-(n+m))) (BK P t));obtain⟨c1,p1,g1⟩:=c.Ej z8h (l:=olds++news) (r:=(fm z.cells (grownCap w (n+m) cap (BK P t)-(n+m))).toList) yo (by simp);obtain⟨k1,k2⟩:=pJ c;have zo:((olds++news).toArray++fm z.cells (grownCap w (n+m) cap (BK P t)-(n+m))).size=grownCap w (n+m) cap (BK P t)*e.size:=by simp only[vh,iq,br,size_zeroCells,hzc,hnl,hol,<-da];congr 1;omega
   obtain⟨Γ',q1,q2,q3,q4,q5⟩:=c1.q47 (t:=tk) (L':=cs.length+ys.length) (show(Γ.Ej w.heap.size (olds++news)).τ tk=some (x0,cs.length) from hτ) yo (Dc _ _ _) k1 k2 zo (by omega);refine BU.val (Kd ho run) ⟨Γ',g1.trans q5,p1.trans q4,q3,(Ch rfl rfl).2 ⟨?_,rfl⟩⟩;simp only[AA];have hll:(olds++news).length=(n+m)*e.size:=by rw[br,hol,hnl,da]
   refine⟨_,n+m,_,rfl,Eg z9y hge hcm hbb (.inr ⟨w.heap.size,0,olds++news,rfl,by rw[q1];exact Dc _ _ _,by omega,fun j c' hj=>?_⟩),_,_,q2,by rw[br];exact bx _,fun _=>⟨rfl,hll.symm,bx _⟩⟩;rw[bf];have z92:∀i c',cs[i]? =some c'->AU Γ'.H e (chunk olds (i*e.size) e.size) c':=fun i c' hi=>(o4 i c' hi).mono (p1.trans q4).H;have z93:∀i c',ys[i]? =some c'->AU Γ'.H e (chunk news (i*e.size) e.size) c':=fun i c' hi=>(r4 i c' hi).mono (p1.trans q4).H;have:=ZQ (rest:=[]) e2 r1 hol hnl z92 z93 j c' hj;simpa using this
end
end
section
theorem ZA {sz:Nat}:∀(vs:List Value) (i:Nat) (v:Value),(∀v∈vs,v.cells.size=sz)->vs[i]? =some v->chunk (vs.flatMap fun v=>v.cells.toList) (i*sz) sz=v.cells.toList
 | [],_,_,_,h=>by simp at h
 |u::vs,0,v,hs,h=>by simp at h;subst h;have:=hs u (by simp);simp only[chunk,gq,jf,kg];rw[qy (by simp[this]),List.take_of_length_le (by simp[this])]
 |u::vs,i+1,v,hs,h=>by have hu:=hs u (by simp);have ih:=ZA vs i v (fun v hv=>hs v (by simp[hv])) (by simpa using h);simp only[chunk,kg]at ih ⊢;rw[qu,jy (by simp[hu,da]),jr];rw[show(i+1)*sz-u.cells.toList.length=i*sz by simp[hu,da]];exact ih
theorem nQ (off:Nat):∀(l:List Value) (k:Nat) (cells:Array Value),off+k+l.length<=cells.size->
  ((l.zipIdx k).foldl (fun cs (p:Value × Nat)=>cs.setIfInBounds (off+p.2) p.1) cells).toList=cells.toList.take (off+k)++l++cells.toList.drop (off+k+l.length)
 | [],k,cells,_=>by simp
 |v::l,k,cells,h=>by
  simp only[cg]at h;simp only[List.zipIdx_cons,List.foldl_cons];rw[nQ off l (k+1) _ (by simp;omega)];have hlt:off+k<cells.toList.length:=by simp;omega
  simp only[lj,cg];rw[show off+(k+1)=off+k+1 by omega,List.take_add_one];simp only[fy,if_true,hlt];rw[List.take_set_of_le (bx _),List.drop_set_of_lt (by omega)];rw[show off+k+1+l.length=off+k+(l.length+1) by omega];simp
theorem q11 {place:Nat->Option (Nat × Nat)} {cells:Array Value} {i off size:Nat} {v:Value} {rest:List (Nat × Value)} (hp:place i=some (off,size)) (hv:v.cells.size=size) (hl:off+size<=cells.size):
  ∃ym,ym.toList=Bx cells.toList off v.cells.toList/\qh place cells ((i,v)::rest)=qh place ym rest:=by
 refine⟨v.cells.zipIdx.foldl (fun cs (c,j)=>cs.setIfInBounds (off+j) c) cells,?_,?_⟩;{rw[<-Array.foldl_toList,Array.toList_zipIdx];have:=nQ off v.cells.toList 0 cells (by simp;omega);simpa[Bx]using this};{simp only[qh,hp];rw[if_neg];simp[hv];omega}
def Cj (τ:Ty) (y:V):V:=
 match y,τ with
 | .ye,.slice eb e=>.emp eb e|y,_=>y
def Js (τ:Ty):V->List (Nat × V)->V
 |x,[]=>x|x,(i,v)::rest=>Js τ (x.setAt [i] (Cj (τ.get i) v)) rest
def MV (τ:Ty):V->List (Nat × V)->Prop
 |_,[]=>True|x,(i,v)::rest=>(τ.child i).isSome=true/\(Cj (τ.get i) v).ty=τ.get i/\(Cj (τ.get i) v).plain=true/\x.at [i]≠.any/\MV τ (x.setAt [i] (Cj (τ.get i) v)) rest
section
variable {P:Program} {Γ:G} {w w':World} {s:S}
theorem Xq {τ:Ty} {y:V} {v:Value} (h:AK Γ y v):AK Γ (Cj τ y) v:=by unfold Cj;split;{rw[GM h];exact QJ};{exact h}
theorem Wo {T:TypeId} {τ:Ty} (hP:BS P=true) (ht:ty P T=τ) (hk:τ.known=true) {b off:Nat} {arr:Array Value} {E:TypeId} {fr:Nat × Nat} {w:World}
  (hb:w.heap[b]? =some (.cells arr E fr)) (hl:off+τ.size<=arr.size) (h1:Dx (chunk arr.toList off τ.size)):
  ∃v,(loadVar T ⟨b,off,none⟩).run P w= .ok v w/\v.cells.toList=chunk arr.toList off τ.size/\Bi v=τ.isAgg:=by
 have hno:∀s,τ≠.opq s:=by intro s e;subst e;simp[Ty.known]at hk
 have z8I:=q8y (w:=w) ht hno;have hsz:=run_sizeOf (w:=w) hP (T:=T) (by intro s e;exact hno s (ht ▸ e));rw[ht]at hsz;unfold loadVar;cases ha:τ.isAgg with
 |true=>
  have hlen:(chunk arr.toList off τ.size).length=τ.size:=Ek _ _ _ (by simpa using hl)
  have:=run_loadCells_list (P:=P) w ⟨b,off,none⟩ (chunk arr.toList off τ.size) (fun j v hv=>by
   rw[Ii];rw[EP]at hv;split at hv;{simp[mu,hb];simpa using hv}
   ·cases hv)
  rw[hlen]at this;refine⟨.agg (chunk arr.toList off τ.size).toArray,?_,by simp[ek],rfl⟩;simp[z8I,ha,hsz,this]
 |false=>
  have h0:τ.size=1:=Ty.size_leaf hk ha;have hlt:off<arr.size:=by omega
  have hc:chunk arr.toList off τ.size=[arr[off]]:=by rw[h0];simp[chunk,List.drop_eq_getElem_cons (l:=arr.toList) (i:=off) (by simpa using hlt)]
  have z8e:arr[off].oneCell'=true:=h1 _ (by rw[hc];simp);have hna:Bi arr[off]=false:=by cases hv:arr[off] <;> simp_all[Value.oneCell',Bi]
  refine⟨arr[off],?_,by rw[DX hna,hc],hna⟩;have zj:w.cell? ⟨b,off,none⟩=some arr[off]:=by simp[mu,hb,dw hlt]
  simp[z8I,ha,zj]
theorem aA (hP:BS P=true) (c:AY Γ w s) {T:TypeId} {k:Key} {q:List Nat} {τ:Ty} {x:V} {v:Value}
  (hr:AK Γ (.ptr k q τ) v) (ho:s.obj k=some (.box x)) (hne:x.at q≠.any) (ht:τ=ty P T) (hk:τ.known=true):
  ∃u,(lq T v).run P w= .ok u w/\AK Γ (view (x.at q)) u:=by
 obtain⟨b,τ0,o,h1,h2,rfl⟩:=HF hr;obtain⟨b',cells,E,e1,_,_,hb,hsz,yr,hxp,_⟩:=c.own (by assumption) ho;obtain⟨fr0,hb,zb⟩:=hb;rw[h1]at e1;cases e1;obtain⟨g1,g2,g3⟩:=yr.at_ h2 hne hxp;have hcl:(chunk cells.toList 0 x.ty.size).length=x.ty.size:=Ek _ _ _ (by simpa using hsz);rw[hcl]at g2;have hch:chunk (chunk cells.toList 0 x.ty.size) o τ.size=chunk cells.toList o τ.size:=by rw[FB _ _ _ _ _ g2,bf]
 rw[hch]at g3;have hpl:=V.Sa g3 hne;obtain⟨u,r1,r2,r3⟩:=Wo (T:=T) (E:=E) (fr:=fr0) hP ht.symm hk hb (by omega) (g3.one hpl);refine⟨u,?_,(Ca (by rw[z0m];exact hpl)).2 ⟨?_,by rw[al,g1,r3]⟩⟩;{simp[lq,na,r1]};{rw[r2];exact ak _ g3}
theorem y4:∀{q:List Nat} {τ0 f:Ty} {o:Nat} {i:Nat},τ0.walk (q++[i])=some (o,f)->∃o1 τ o2,τ0.walk q=some (o1,τ)/\τ.child i=some (o2,f)/\o=o1+o2
 | [],τ0,f,o,i,h=>by
  simp only[jr,vt]at h;cases hc:τ0.child i with
  |none=>rw[hc]at h;cases h
  |some x=>
   obtain⟨o2,f2⟩:=x;rw[hc]at h;simp only[ee,fw]at h;obtain⟨rfl,rfl⟩:=h;exact⟨0,τ0,o2,rfl,hc,by omega⟩
 |j::q,τ0,f,o,i,h=>by
  simp only[List.cons_append,vt]at h ⊢;cases hc:τ0.child j with
  |none=>rw[hc]at h;cases h
  |some x=>
   obtain⟨o3,f3⟩:=x;rw[hc]at h;simp only at h ⊢;cases hw:f3.walk (q++[i])with
   |none=>rw[hw]at h;cases h
   |some y=>
    obtain⟨o4,f4⟩:=y;rw[hw]at h;simp only[ee,fw]at h;obtain⟨rfl,rfl⟩:=h;obtain⟨o1,τ,o2,h1,h2,rfl⟩:=y4 hw;exact⟨o3+o1,τ,o2,by rw[h1],h2,by omega⟩
theorem q35 (hP:BS P=true) (c:AY Γ w s) {T:TypeId} {k:Key} {q:List Nat} {lo m M:Nat} {e:Ty} {x:V} {cc:C} {v:Value}
  (hr:AK Γ (.ptr k (q++[lo]) e) v) (ho:s.obj k=some (.box x)) (hat:x.at q= .d (.arr M e) cc) (ht:ty P T= .arr m e) (hk:(Ty.arr m e).known=true) (hlo:lo+m<=M):
  ∃u,(lq T v).run P w= .ok u w/\AK Γ (.d (.arr m e) (.agg ((cc.elems.drop lo).take m))) u:=by
 obtain⟨b,τ0,o,h1,h2,rfl⟩:=HF hr;obtain⟨b',cells,E,e1,_,_,hb,hsz,yr,hxp,_⟩:=c.own (by assumption) ho;obtain⟨fr0,hb,zb⟩:=hb;rw[h1]at e1;cases e1;obtain⟨o1,τ,o2,w1,w2,rfl⟩:=y4 h2;obtain⟨g1,g2,g3⟩:=yr.at_ w1 (by rw[hat];simp) hxp;have hcl:(chunk cells.toList 0 x.ty.size).length=x.ty.size:=Ek _ _ _ (by simpa using hsz);rw[hcl]at g2;have hch:chunk (chunk cells.toList 0 x.ty.size) o1 τ.size=chunk cells.toList o1 τ.size:=by rw[FB _ _ _ _ _ g2,bf]
 rw[hch,hat]at g3;rw[hat]at g1;simp only[V.ty]at g1;subst g1;simp only[AA,AU,gu]at g3;obtain⟨cs,rfl,r1,r2,r3,r4⟩:=g3;simp only[ax];simp only[jq]at w2;split at w2
 ·rename_i hlM;simp only[ee,fw,and_true]at w2;subst w2;simp only[gu]at g2;have hlen:((cs.drop lo).take m).length=m:=by simp;omega
  have hms:(lo+m)*e.size<=M*e.size:=cf _ hlo;rw[da]at hms;have z9K:(chunk cells.toList (o1+lo*e.size) (m*e.size)).length=m*e.size:=Ek _ _ _ (by simp;omega);have hel:∀i c,((cs.drop lo).take m)[i]? =some c->AU Γ.H e (chunk (chunk cells.toList (o1+lo*e.size) (m*e.size)) (i*e.size) e.size) c:=by intro i c hi;rw[fh]at hi;split at hi;{rename_i hin;rw[iz]at hi;have h9:=r4 _ _ hi;have hle:(i+1)*e.size<=m*e.size:=cf _ hin;rw[da]at hle;rw[da]at h9;rw[FB _ _ _ _ _ (by omega)]at h9 ⊢;rw[show o1+lo*e.size+i*e.size=o1+(lo*e.size+i*e.size) by omega];exact h9};{cases hi}
  have h4:AU Γ.H (.arr m e) (chunk cells.toList (o1+lo*e.size) (Ty.arr m e).size) (.agg ((cs.drop lo).take m)):=by simp only[AU,gu];exact⟨_,rfl,hlen,z9K,tQ hlen z9K hel,hel⟩
  obtain⟨u,q1,q2,q3⟩:=Wo (T:=T) (E:=E) (fr:=fr0) (off:=o1+lo*e.size) hP ht hk hb (by simp only[gu];omega) h4.one;refine⟨u,?_,EA.2 ⟨by rw[q2];exact h4,q3⟩⟩;simp[lq,na,q1]
 ·cases w2
theorem q34 (hP:BS P=true) (c:AY Γ w s) {T:TypeId} {τ:Ty} {cc:C} {v:Value}
  (hr:AK Γ (.yf τ cc) v) (ht:τ=ty P T) (hk:τ.known=true):
  ∃u,(lq T v).run P w= .ok u w/\AK Γ (.d τ cc) u:=by
 obtain⟨b,off,l,rfl,h2,h3,h4⟩:=TC hr;obtain⟨arr,E,fr,r,hb,hl⟩:=c.hH b l h2;have hch:chunk arr.toList off τ.size=chunk l off τ.size:=by rw[hl,OU _ _ _ _ h3]
 have hsz:off+τ.size<=arr.size:=by rw[<-ic,hl,br];omega
 obtain⟨u,r1,r2,r3⟩:=Wo (T:=T) hP ht.symm hk hb hsz (by rw[hch];exact h4.one);exact⟨u,by simp[lq,na,r1],EA.2 ⟨by rw[r2,hch];exact h4,r3⟩⟩
theorem z0z {cells:Array Value} (h:Eh MC cells.toList=true):cells=#[.pointer none,.slice none 0 0]:=by
 apply Array.ext';generalize cells.toList=l at h;simp only[MC,Eh,JL,bg,beq_iff_eq,decide_eq_true_eq,gu,chunk]at h;obtain⟨⟨h1,_⟩,⟨_,h2⟩,⟨_,h3⟩,_⟩:=h
 match l,h1 with
 | [a,b],_=>
  simp only[jf,List.take_succ_cons,xb,List.drop_succ_cons]at h2 h3;cases a <;> simp[Ns]at h2;cases b <;> simp[Ns]at h3;obtain⟨⟨rfl,rfl⟩,rfl⟩:=h3;subst h2;rfl
def SS (τ:Ty) (T:TypeId):O:=bif Ty.beq τ MC then .it [] T else .box (BI τ)
theorem q0I (c:AY Γ w s) {o:Oper} {a:Act} {T:TypeId} {n:Nat} (ho:o.op= .alloc T) (hn:s.obj (.l n)=none) (hz:Cb P T=true):
  BU P o a w (BX Γ w {s with loc:=(.l n,SS (ty P T) T)::s.loc} (.ptr (.l n) [] (ty P T))):=by
 obtain⟨z,zc,hzo,hag⟩:=xZ hz;have hlen:=Nt hzo;cases hB:Ty.beq (ty P T) MC with
 |true=>
  have e:=(Ty.beq_iff _ _).1 hB;rw[e]at hzo;have hz2:z.cells=#[.pointer none,.slice none 0 0]:=z0z hzo;obtain⟨h1,h2,h3⟩:=c.addKey hn (Ext.alloc w (.cells z.cells T)) (τ:=MC) (o:=.it [] T) fun Γ' hpr _ hι hH hZ=>⟨w.heap.size,.pointer none,.slice none 0 0,hι,hH,hZ,by rw[heap_alloc_new,hz2],.inl rfl,by simp,.inl ⟨rfl,rfl⟩⟩;simp only[SS,hB,cond_true];rw[e];refine BU.val (v:=.pointer (some ⟨w.heap.size,0,none⟩)) (w':=w.alloc (.cells z.cells T)) ?_ ⟨_,h3,h2,h1,(Ca rfl).2 ⟨?_,by simp[V.ty,ja,Bi]⟩⟩;{unfold execOp;simp only[ho,xr,cz,zc,cu];simp[newVar,newRow]};{simp only[AA];exact⟨w.heap.size,MC,0,by simp[G.addKey,EW],rfl,by simp[ek]⟩}
 |false=>
 simp only[SS,hB,cond_false];have hX:AA Γ none [] (BI (ty P T)) z.cells.toList:=XZ (ty P T) hzo;have hb:=SI c hn (T:=T) (x:=BI (ty P T)) (cells:=z.cells) (Ext.alloc w _) (heap_alloc_new w (.cells z.cells T)) (by rw[Nu,<-hlen];simp) (by rw[Nu,<-hlen,MW];exact hX) (XY _) (u0 _);rw[Nu]at hb;refine BU.val (v:=.pointer (some ⟨w.heap.size,0,none⟩)) (w':=w.alloc (.cells z.cells T)) ?_ hb;unfold execOp;simp only[ho,xr,cz,zc,cu];simp[newVar,newRow]
theorem q0L (c:AY Γ w s) {o:Oper} {a:Act} {T:TypeId} {x:Operand} {n:Nat} {y:V} (ho:o.op= .box T x) (hn:s.obj (.l n)=none) (hr:AK Γ y (a.eval x)) (hpl:y.plain=true) (hns:y.BW=true):
  BU P o a w (BX Γ w {s with loc:=(.l n,.box y)::s.loc} (.ptr (.l n) [] y.ty)):=by
 obtain⟨h1,_⟩:=(Ca hpl).1 hr;have hlen:=h1.length hpl;have hb:=SI c hn (T:=T) (x:=y) (cells:=(a.eval x).cells) (Ext.alloc w _) (heap_alloc_new w (.cells (a.eval x).cells T)) (by rw[<-hlen];simp) (by rw[<-hlen,MW];exact h1) hpl hns;refine BU.val (v:=.pointer (some ⟨w.heap.size,0,none⟩)) (w':=w.alloc (.cells (a.eval x).cells T)) ?_ hb;unfold execOp;simp only[ho,Instr.box];simp[newVar,newRow]
theorem q0M (c:AY Γ w s) {o:Oper} {a:Act} {T:TypeId} {x:Operand} {y:V} {cc:C} (ho:o.op= .box T x) (hr:AK Γ y (a.eval x)) (hpl:y.plain=true) (hc:Cl y=some cc):
  BU P o a w (BX Γ w s (.yf y.ty cc)):=by
 obtain⟨h1,_⟩:=(Ca hpl).1 hr;have hlen:=h1.length hpl;obtain⟨c1,p1,g1⟩:=c.Ej (l:=(a.eval x).cells.toList) (r:=[]) (Ext.alloc w _) (heap_alloc_new w (.cells (a.eval x).cells T)) (by simp);refine BU.val (v:=.pointer (some ⟨w.heap.size,0,none⟩)) (w':=w.alloc (.cells (a.eval x).cells T)) ?_ ⟨_,g1,p1,c1,Nc (l:=(a.eval x).cells.toList) (Dc _ _ _) (by rw[hlen];omega) ?_⟩;{unfold execOp;simp only[ho,Instr.box];simp[newVar,newRow]};{have:=(LC _ h1 hc).mono p1.H;rw[<-hlen,MW];exact this}
theorem AY.write (c:AY Γ w s) {k:Key} {x x':V} {b:Nat} {τ:Ty} {ym:Array Value} {T:TypeId} {fz:Nat × Nat}
  (ho:s.obj k=some (.box x)) (hι:Γ.ι k=some (b,τ)) (yo:w'.heap[b]? =some (.cells ym T fz)) (hfz:fz.2<=fz.1\/ym.size<=fz.1) (yx:∀b',b'≠b->w'.heap[b']? =w.heap[b']?) (hoo:oof w'=oof w)
  (hsz:x'.ty.size<=ym.size) (hx:AA Γ (some k) [] x' (chunk ym.toList 0 x'.ty.size)) (ht:x'.ty=x.ty) (hp:x'.plain=true) (hns:x'.BW=true)
  (hcs:∀arr T fr,w.heap[b]? =some (.cells arr T fr)->ym.size=arr.size):
  AY Γ w' {s with loc:=(k,.box x')::s.loc}:=by
 obtain⟨hH,hZ,hlt,e2⟩:=c.FR hι ho rfl;simp only[O.ty]at e2;refine c.change (.refl Γ) rfl rfl rfl hoo (fun b' l h=>?_) (fun b' h=>yx b' (fun e=>by subst e;exact h hZ)) (fun b' o sz h=>?_) (fun j o h=>?_) (fun _ h _=>h) (fun j h=>?_) (fun b' sz h=>?_) (c.KI (YX fun h=>by rw[FV ho]at h;cases h)) c.tok c.yu (eV yo yx);{rw[yx b' (fun e=>by subst e;rw[hH]at h;cases h)];exact c.hH b' l h};{obtain⟨a1,a2,a3⟩:=c.hκ b' o sz h;rw[yx b' (fun e=>by subst e;exact a2 hH)];exact⟨a1,a2,a3⟩};{rw[DZ]at h;split at h;{rename_i e;subst e;cases h;exact .inr ⟨b,ym,T,by rw[hι,e2,ht],hH,hZ,⟨fz,yo,hfz⟩,hsz,hx,hp,hns⟩};{rename_i e;refine .inl ⟨h,fun hd=>⟨fun _ _ _ _=>⟨rfl,rfl⟩,fun b' τ' hb=>?_⟩⟩;obtain⟨a1,a2,a3,_⟩:=c.FR hb h hd;refine⟨yx b' (fun e'=>?_),a1⟩;subst e';exact e (c.ZX hι hb (by rw[FV ho];rfl) (by rw[FV h];exact hd))}};{rw[DZ];split;{simp};{exact c.dom j h}};{obtain⟨arr,T1,fr,a1,a2⟩:=c.hσ b' sz h;by_cases e:b'=b;{subst e;exact⟨ym,T,fz,yo,by rw[hcs _ _ _ a1];exact a2⟩};{exact⟨arr,T1,fr,by rw[yx b' e];exact a1,a2⟩}}
theorem eI (P:Program) (g o:Nat) (t:TypeId) (fz:Nat × Nat):∀(vs:List Value) (i:Nat) (cur:Array Value) (w:World),w.heap[g]? =some (.cells cur t fz)->(fz.2<=fz.1\/cur.size<=fz.1)->o+i+vs.length<=cur.size->(∀v∈vs,v.oneCell'=true)->
  (storeCells ⟨g,o,none⟩ vs i).run P w= .ok () (w.setRow g (cur.toList.take (o+i)++vs++cur.toList.drop (o+i+vs.length)).toArray)
 | [],i,cur,w,hg,_,_,_=>by simp only[storeCells,tv,List.length_nil,Nat.add_zero,List.take_append_drop,Array.toArray_toList];rw[setRow_self w g cur t fz hg];rfl
 |v::rest,i,cur,w,hg,hfz,hl,h1=>by
  have hi:o+i<cur.size:=by simp at hl;omega
  have y0q:(⟨g,o,none⟩:Addr).add i=⟨g,o+i,none⟩:=by unfold Addr.add;split <;> simp_all
  have zj:w.cell? ⟨g,o+i,none⟩=some cur[o+i]:=by simp[mu,hg,hi]
  have y0r:w.frozen? ⟨g,o+i,none⟩=false:=by obtain⟨lo,hi'⟩:=fz;simp only[xi,hg,Bool.and_eq_false_iff,decide_eq_false_iff_not];simp only at hfz;omega
  have hst:(store ((⟨g,o,none⟩:Addr).add i) v).run P w= .ok () (w.setRow g (cur.setIfInBounds (o+i) v)):=by rw[y0q,run_store P w _ v _ (h1 v (by simp)),zj];simp[y0r,setCell_eq_setRow w g (o+i) cur t fz v hg]
  have ih:=eI P g o t fz rest (i+1) (cur.setIfInBounds (o+i) v) (w.setRow g (cur.setIfInBounds (o+i) v)) (setRow_heap w g cur _ t _ hg) (by simpa using hfz) (by simp at hl ⊢;omega) (fun x hx=>h1 x (by simp[hx]));simp only[storeCells,cz,hst,cu,ih,setRow_setRow];congr 3;have e:=list_seg_step cur.toList (o+i) v rest (by simp at hl ⊢;omega);simpa[lj,Nat.add_assoc]using e
theorem q8B {T:TypeId} {τ:Ty} (hP:BS P=true) (ht:ty P T=τ) (hk:τ.known=true) {b off:Nat} {arr:Array Value} {E:TypeId} {fz:Nat × Nat} {v:Value}
  (hb:w.heap[b]? =some (.cells arr E fz)) (hfz:fz.2<=fz.1\/arr.size<=fz.1) (hl:off+τ.size<=arr.size) (hv:v.cells.toList.length=τ.size) (h1:Dx v.cells.toList):
  (storeVar T ⟨b,off,none⟩ v).run P w= .ok () (w.setRow b (Bx arr.toList off v.cells.toList).toArray):=by
 have hsz:=run_sizeOf (w:=w) hP (T:=T) (by intro s e;rw[ht]at e;subst e;simp[Ty.known]at hk);rw[ht]at hsz;have hv':v.cells.size=τ.size:=by simpa using hv
 have hst:=eI P b off E fz v.cells.toList 0 arr w hb hfz (by simp;omega) h1;simp only[Nat.add_zero]at hst;simp[storeVar,hsz,hv',hst,Bx]
theorem yR (vs ws:List Value) {o n:Nat} (h:o+ws.length<=n) (hn:n<=vs.length):chunk (Bx vs o ws) 0 n=Bx (chunk vs 0 n) o ws:=by apply fb;intro i;have hl:(chunk vs 0 n).length=n:=Ek _ _ _ (by omega);rw[EP,Gi (by omega),Gi (by omega),EP];simp only[bf];by_cases hi:i<n;{rw[if_pos hi,if_pos hi]};{rw[if_neg hi,if_neg (by omega),if_neg hi]}
theorem q0Z (hP:BS P=true) (c:AY Γ w s) {o:Oper} {a:Act} {t:TypeId} {l cp:Operand} {L Cp:V} {k1 k2:IntKind} {nl nc:Nat} {n:Nat} {eb:Nat} {e:Ty}
  (ho:o.op= .makeSlice t l cp) (ht:ty P t= .slice eb e) (hz:Cb P (BK P t)=true) (hn:s.obj (.l n)=none)
  (hl:a.eval l= .int k1 nl) (hc:a.eval cp= .int k2 nc) (h1:nl<=nc) (h2:nc<=maxLen) (hb:nc*eb<=140737488355328) (hes:e.size≠0) {cpv:Option Nat} (y0s:∀c,cpv=some c->nc=c):
  BU P o a w (BX Γ w {s with loc:=(.l n,.box (.d (.arr nl e) (.agg (bp nl (AI e)))))::s.loc} (.sr (.l n) [] 0 nl cpv eb e)):=by
 obtain⟨hu,he,heb,hE⟩:=MD hP ht;obtain⟨i,z,hi,hzz,hzo,z8s⟩:=MJ hz;have hcz:=Nt hzo;have hsz:i.size=e.size:=by have:=Dq hP 11 (BK P t);rw[he,this];simp[iv,hi]
 have hby:i.bytes=eb:=by rw[heb];simp[qs,hi]
 have hzc:z.cells.size=e.size:=by have h1:=Dq hP 11 (BK P t);have h2:=Nn hP (BK P t);rw[he,h1,<-h2,<-hcz];simp
 have w1:IntKind.i64.wrap (nl:Int)=nl:=ik _ (by unfold maxLen at h2;omega);have w2:IntKind.i64.wrap (nc:Int)=nc:=ik _ (by unfold maxLen at h2;omega);have hb':¬(281474976710656:Int)<(eb:Int)*(nc:Int):=by
  have:(eb:Int)*(nc:Int)=((nc*eb:Nat):Int):=by rw[Int.mul_comm];push_cast;rfl
  rw[this];omega
 have zc:(rq t (a.eval l) (a.eval cp)).run P w= .ok (.slice (some ⟨w.heap.size,0,none⟩) nl nc) (w.alloc (.cells ((ia (nc*e.size)).map (z.cells[· %z.cells.size]!)) (BK P t))):=by
  by_cases h0:nc=0
  ·subst h0;have:nl=0:=by omega
   subst this;have h00:(vv (fun _=>(default:Value)) (ia 0))=#[]:=by apply gr;simp
   have h01:(vv (fun x=>z.cells[x%z.cells.size]!) (ia 0))=#[]:=by apply gr;simp
   have w0:IntKind.i64.wrap 0=0:=by decide
   simp[rq,hl,hc,run_underlying hu,asInt,asIntOf,typeInfo,hi,w0,sizeOf,hsz,newRow,h00,h01]
  ·have h3:¬(nc*e.size=0):=xd h0 hes;have h4:¬((nc:Int)<(nl:Int)):=by omega
   have h5:¬((nc:Int)<0):=by omega
   have h6:¬((nl:Int)<0):=by omega
   simp[rq,hl,hc,run_underlying hu,asInt,asIntOf,typeInfo,hi,w1,w2,sizeOf,hsz,newRow,h3,hby,hb',h4,h5,h6,zeroValue,hzz]
 have zo:((ia (nc*e.size)).map (z.cells[· %z.cells.size]!)).size=nc*e.size:=by rw[Array.size_map,Array.size_range]
 have hnl:nl*e.size<=nc*e.size:=cf _ h1;have hX:∀j,j<nl->chunk ((ia (nc*e.size)).map (z.cells[· %z.cells.size]!)).toList (j*e.size) e.size=z.cells.toList:=by
  intro j hlt;apply fb;intro q;rw[EP];have hb2:(j+1)*e.size<=nc*e.size:=cf _ (by omega);rw[da]at hb2;split
  ·rename_i hq;have e1:(j*e.size+q)%z.cells.size=q:=by rw[hzc,Nat.add_comm,Nat.add_mul_mod_self_right,Nat.mod_eq_of_lt hq]
   rw[nr,db,Array.toList_range,ig (by omega)];simp only[Option.map_some,e1];have:q<z.cells.size:=by omega
   simp[getElem!_pos z.cells q this]
  ·rw[gb (by simp;omega)]
 have yr:AA Γ none [] (.d (.arr nl e) (.agg (bp nl (AI e)))) (chunk ((ia (nc*e.size)).map (z.cells[· %z.cells.size]!)).toList 0 (V.d (.arr nl e) (.agg (bp nl (AI e)))).ty.size):=by
  simp only[AA,V.ty,gu];have hlen:(chunk ((ia (nc*e.size)).map (z.cells[· %z.cells.size]!)).toList 0 (nl*e.size)).length=nl*e.size:=Ek _ _ _ (by simp only[ic,zo];omega);have hel:∀i c',(bp nl (AI e))[i]? =some c'->AU Γ.H e (chunk (chunk ((ia (nc*e.size)).map (z.cells[· %z.cells.size]!)).toList 0 (nl*e.size)) (i*e.size) e.size) c':=by intro i c' hi;rw[nt]at hi;split at hi;{rename_i hlt;cases hi;have hb2:(i+1)*e.size<=nl*e.size:=cf _ hlt;rw[da]at hb2;rw[FB _ _ _ _ _ (by omega),bf,hX i hlt,he];exact HZ z8s};{cases hi}
  simp only[AU];exact⟨_,rfl,by simp,hlen,Ph (by simp) hlen hel,hel⟩
 obtain⟨Γ',q1,q2,q3,q4⟩:=SI c hn (T:=BK P t) (Ext.alloc w _) (heap_alloc_new w (.cells ((ia (nc*e.size)).map (z.cells[· %z.cells.size]!)) (BK P t))) (by rw[zo];exact hnl) yr rfl rfl;obtain⟨y1,y2,y3⟩:=q3.HK (heap_alloc_new w (.cells ((ia (nc*e.size)).map (z.cells[· %z.cells.size]!)) (BK P t)));refine BU.val (v:=.slice (some ⟨w.heap.size,0,none⟩) nl nc) (w':=w.alloc (.cells ((ia (nc*e.size)).map (z.cells[· %z.cells.size]!)) (BK P t))) ?_ ⟨_,q1.trans y3,q2.trans y2,y1,?_⟩;{unfold execOp;simp only[ho,cz,zc,cu,ej]};{obtain⟨b,τ0,o',r1,r2,r3⟩:=HF q4;simp at r3;obtain⟨rfl,rfl⟩:=r3;exact TD (show(G.HK Γ' _ _).ι (.l n)=_ from r1) r2 (by omega) (.inr (by simp)) h1 h2 (kh (cf _ h1) hb) y0s (fun _=>.inr ⟨_,Dc _ _ _,by rw[zo,bf,bf];exact bx _⟩)}
theorem jJ (hP:BS P=true) (w:World) (a:Act) {t:TypeId} {len:Nat} {parts:Array (Nat × Operand)} {eb:Nat} {e:Ty}
  (ht:ty P t= .slice eb e) (hz:Cb P (BK P t)=true) (hlen:0<len) (hes:e.size≠0) (zq:len*e.size<=16777216)
  (zt:parts.toList.map (·.1)=gf len) (zr:∀v∈(parts.toList.map fun x=>a.eval x.2),v.cells.size=e.size):
  (vn t len (parts.map fun(i,x)=>(i,a.eval x))).run P w= .ok (.slice (some ⟨w.heap.size,0,none⟩) len len) (w.alloc (.cells ((parts.toList.map fun x=>a.eval x.2).flatMap fun v=>v.cells.toList).toArray (BK P t)))/\
  ((parts.toList.map fun x=>a.eval x.2).flatMap fun v=>v.cells.toList).length=len*e.size:=by
 obtain⟨hu,he,heb,hE⟩:=MD hP ht;obtain⟨i,z,hi,hzz,hzo,z8s⟩:=MJ hz;have hcz:=Nt hzo;have hsz:i.size=e.size:=by have:=Dq hP 11 (BK P t);rw[he,this];simp[iv,hi]
 have hzc:z.cells.size=e.size:=by have h1:=Dq hP 11 (BK P t);have h2:=Nn hP (BK P t);rw[he,h1,<-h2,<-hcz];simp
 have hpl:parts.toList.length=len:=by have:=congrArg au zt;simpa using this
 have hvs:(parts.map fun(i,x)=>(i,a.eval x)).toList=((parts.toList.map fun x=>a.eval x.2).zipIdx 0).map fun x=>(x.2,x.1):=by
  apply fb;intro j;simp only[nr,db,List.getElem?_zipIdx];cases hj:parts.toList[j]? with
  |none=>simp|some x=>
   have:(parts.toList.map (·.1))[j]? =some x.1:=by simp[hj]
   rw[zt]at this;have hlt:j<len:=by rw[<-hpl];exact(cd.1 hj).1
   simp[ig hlt]at this;simp[this]
 have hf:=Great.fill_whole (s:=e.size) (by omega) (parts.toList.map fun x=>a.eval x.2) ((ia (len*e.size)).map (z.cells[· %z.cells.size]!)) zr (by simp[hpl]);have run:=run_buildSlice (P:=P) w t (BK P t) len (parts.map fun(i,x)=>(i,a.eval x)) _ i z hu hi hzz (by rw[hsz];omega) (by rw[hsz];exact xd (by omega) hes) (by rw[hsz,hvs];exact hf);refine⟨run,?_⟩;simp only[List.length_flatMap];have:(List.map (fun v=>v.cells.toList.length) (parts.toList.map fun x=>a.eval x.2))=bp len e.size:=by apply List.eq_replicate_iff.2;refine⟨by simp[hpl],fun b hb=>?_⟩;obtain⟨v,hv,rfl⟩:=List.mem_map.1 hb;simpa using zr v hv
 rw[this];simp
theorem lI (hP:BS P=true) (c:AY Γ w s) {o:Oper} {a:Act} {t:TypeId} {len:Nat} {parts:Array (Nat × Operand)} {cs:List C} {eb:Nat} {e:Ty}
  (ho:o.op= .buildSlice t len parts) (ht:ty P t= .slice eb e) (hz:Cb P (BK P t)=true) (hlen:0<len) (hes:e.size≠0) (zq:len*e.size<=16777216) (hb:len*eb<=140737488355328)
  (zt:parts.toList.map (·.1)=gf len) (hcs:cs.length=len)
  (hx:∀(i:Nat) (x:Nat × Operand) (cc:C),parts.toList[i]? =some x->cs[i]? =some cc->AK Γ (.d e cc) (a.eval x.2)):
  BU P o a w (fun v w'=>(∃ad,v= .slice ad len len)/\BX Γ w s (.d (.slice eb e) (.slice cs)) v w'):=by
 have hpl:parts.toList.length=len:=by have:=congrArg au zt;simpa using this
 have yr:∀(j:Nat) (v:Value),(parts.toList.map fun x=>a.eval x.2)[j]? =some v->∃cc,cs[j]? =some cc/\AK Γ (.d e cc) v:=by
  intro j v hj;simp only[db]at hj;cases hx':parts.toList[j]? with
  |none=>simp[hx']at hj|some x=>
   simp[hx']at hj;have hlt:j<len:=by rw[<-hpl];exact(cd.1 hx').1
   have hcj:cs[j]? =some cs[j]:=bo (by omega);exact⟨_,hcj,hj ▸ hx j x _ hx' hcj⟩
 have zr:∀v∈(parts.toList.map fun x=>a.eval x.2),v.cells.size=e.size:=by intro v hv;obtain⟨j,hj⟩:=og.1 hv;obtain⟨cc,_,hr⟩:=yr j v hj;have:=(EA.1 hr).1.length;simpa using this
 obtain⟨run,z8q⟩:=jJ hP w a ht hz hlen hes zq zt zr;obtain⟨c1,p1,g1⟩:=c.Ej (Ext.alloc w _) (l:=(parts.toList.map fun x=>a.eval x.2).flatMap fun v=>v.cells.toList) (r:=[]) (heap_alloc_new w (.cells ((parts.toList.map fun x=>a.eval x.2).flatMap fun v=>v.cells.toList).toArray (BK P t))) (by simp);refine BU.val (v:=.slice (some ⟨w.heap.size,0,none⟩) len len) (w':=w.alloc (.cells ((parts.toList.map fun x=>a.eval x.2).flatMap fun v=>v.cells.toList).toArray (BK P t))) ?_ ⟨⟨_,rfl⟩,_,g1,p1,c1,QL (Eg hcs (bx _) (by have:=uf len (vp hes);unfold maxLen;omega) hb (.inr ⟨w.heap.size,0,_,rfl,Dc _ _ _,by rw[z8q];omega,fun j c' hj=>?_⟩))⟩;{unfold execOp;simp only[ho,cz,run,cu,ej]}
 ·have hlt:j<len:=by rw[<-hcs];exact(cd.1 hj).1
  have hv:(parts.toList.map fun x=>a.eval x.2)[j]? =some ((parts.toList.map fun x=>a.eval x.2)[j]'(by simp[hpl];omega)):=bo _;obtain⟨cc,hcc,hr⟩:=yr j _ hv;rw[hj]at hcc;cases hcc;have:=ZA _ j _ zr hv;rw[bf,this];exact(EA.1 hr).1.mono p1.H
theorem xB {Γ:G} {τ:Ty} {cells:List Value}:∀(xs:List V) (p:List Nat) (i:Nat),(∀(j:Nat) y,xs[j]? =some y->∃o f,τ.child (i+j)=some (o,f)/\y.ty=f/\o+f.size<=cells.length/\AA Γ none [] y (chunk cells o f.size))->Ag Γ none p i τ xs cells
 | [],_,_,_=>by simp only[Ag]
 |x::xs,p,i,h=>by simp only[Ag];obtain⟨o,f,h1,h2,h3,h4⟩:=h 0 x rfl;exact⟨⟨o,f,h1,h2,h3,h4.EZ⟩,xB xs p (i+1) fun j y hy=>by rw[show i+1+j=i+(j+1) by omega];exact h (j+1) y hy⟩
theorem q0R (hP:BS P=true) (c:AY Γ w s) {o:Oper} {a:Act} {t:TypeId} {len:Nat} {parts:Array (Nat × Operand)} {vs:List V} {eb:Nat} {e:Ty} {n:Nat} (hn:s.obj (.l n)=none)
  (ho:o.op= .buildSlice t len parts) (ht:ty P t= .slice eb e) (hz:Cb P (BK P t)=true) (hlen:0<len) (hes:e.size≠0) (zq:len*e.size<=16777216) (hb:len*eb<=140737488355328)
  (zt:parts.toList.map (·.1)=gf len) (hcs:vs.length=len)
  (hx:∀(i:Nat) (x:Nat × Operand) (y:V),parts.toList[i]? =some x->vs[i]? =some y->AK Γ y (a.eval x.2)) (hy:∀y∈vs,y.ty=e/\y.plain=true) (hns:V.DB vs=true):
  BU P o a w (BX Γ w {s with loc:=(.l n,.box (.agg (.arr len e) vs))::s.loc} (.sr (.l n) [] 0 len (some len) eb e)):=by
 have hpl:parts.toList.length=len:=by have:=congrArg au zt;simpa using this
 have yr:∀(j:Nat) (v:Value),(parts.toList.map fun x=>a.eval x.2)[j]? =some v->∃y,vs[j]? =some y/\y.ty=e/\y.plain=true/\AA Γ none [] y v.cells.toList:=by
  intro j v hj;simp only[db]at hj;cases hx':parts.toList[j]? with
  |none=>simp[hx']at hj|some x=>
   simp[hx']at hj;have hlt:j<len:=by rw[<-hpl];exact(cd.1 hx').1
   have hcj:vs[j]? =some vs[j]:=bo (by omega);obtain⟨h1,h2⟩:=hy _ (fa hcj);exact⟨_,hcj,h1,h2,hj ▸ ((Ca h2).1 (hx j x _ hx' hcj)).1⟩
 have zr:∀v∈(parts.toList.map fun x=>a.eval x.2),v.cells.size=e.size:=by intro v hv;obtain⟨j,hj⟩:=og.1 hv;obtain⟨y,_,h1,h2,hr⟩:=yr j v hj;have:=hr.length h2;rw[h1]at this;simpa using this
 obtain⟨run,z8q⟩:=jJ hP w a ht hz hlen hes zq zt zr;have z8e:Dx ((parts.toList.map fun x=>a.eval x.2).flatMap fun v=>v.cells.toList):=by intro u hu;obtain⟨v,hv,hu⟩:=List.mem_flatMap.1 hu;obtain⟨j,hj⟩:=og.1 hv;obtain⟨y,_,_,h2,hr⟩:=yr j v hj;exact hr.one h2 u hu
 have hX:AA Γ none [] (.agg (.arr len e) vs) ((parts.toList.map fun x=>a.eval x.2).flatMap fun v=>v.cells.toList):=by
  simp only[AA];refine⟨z8q,z8e,hcs,rfl,xB _ _ _ fun j y hj=>?_⟩;have hlt:j<len:=by rw[<-hcs];exact(cd.1 hj).1
  have hv:(parts.toList.map fun x=>a.eval x.2)[j]? =some ((parts.toList.map fun x=>a.eval x.2)[j]'(by simp[hpl];omega)):=bo _;obtain⟨y',hy',h1,h2,hr⟩:=yr j _ hv;rw[hj]at hy';cases hy';have:=ZA _ j _ zr hv;have hm:(j+1)*e.size<=len*e.size:=cf _ hlt;rw[da]at hm;refine⟨j*e.size,e,by simp only[jq,bf];rw[if_pos hlt],h1,by rw[z8q];omega,?_⟩;rw[this];exact hr
 obtain⟨Γ',q1,q2,q3,q4⟩:=SI c hn (T:=BK P t) (Ext.alloc w _) (heap_alloc_new w (.cells ((parts.toList.map fun x=>a.eval x.2).flatMap fun v=>v.cells.toList).toArray (BK P t)))
  (x:=.agg (.arr len e) vs) (by rw[iq,z8q];exact bx _) (by rw[show(V.agg (.arr len e) vs).ty.size=((parts.toList.map fun x=>a.eval x.2).flatMap fun v=>v.cells.toList).length from z8q.symm,List.toList_toArray,MW];exact hX) rfl hns
 refine BU.val (v:=.slice (some ⟨w.heap.size,0,none⟩) len len) (w':=w.alloc (.cells ((parts.toList.map fun x=>a.eval x.2).flatMap fun v=>v.cells.toList).toArray (BK P t))) ?_ ⟨Γ',q1,q2,q3,?_⟩;{unfold execOp;simp only[ho,cz,run,cu,ej]};{obtain⟨b,τ0,o',r1,r2,r3⟩:=HF q4;simp at r3;obtain⟨rfl,rfl⟩:=r3;exact TD (show Γ'.ι (.l n)=_ from r1) r2 (by omega) (.inr (by simp)) (bx _) (by have:=uf len (vp hes);unfold maxLen;omega) hb (fun c h=>by cases h;rfl) (fun h=>by cases h)}
theorem q0P (hP:BS P=true) (c:AY Γ w s) {o:Oper} {a:Act} {t:TypeId} {len:Nat} {parts:Array (Nat × Operand)} {cs:List C} {eb:Nat} {e:Ty}
  (ho:o.op= .buildSlice t len parts) (ht:ty P t= .slice eb e) (hz:Cb P (BK P t)=true) (hlen:0<len) (hes:e.size≠0) (zq:len*e.size<=16777216) (hb:len*eb<=140737488355328)
  (zt:parts.toList.map (·.1)=gf len) (hcs:cs.length=len)
  (hx:∀(i:Nat) (x:Nat × Operand) (cc:C),parts.toList[i]? =some x->cs[i]? =some cc->AK Γ (.d e cc) (a.eval x.2)):
  BU P o a w (BX Γ w s (.d (.slice eb e) (.slice cs))):=
 (lI hP c ho ht hz hlen hes zq hb zt hcs hx).mono fun _ _ h=>h.2
theorem q0S (hP:BS P=true) (c:AY Γ w s) {o:Oper} {a:Act} {t:TypeId} {len:Nat} {parts:Array (Nat × Operand)} {cs:List C} {eb:Nat} {e:Ty} {n:Nat} (hn:s.known n=false)
  (ho:o.op= .buildSlice t len parts) (ht:ty P t= .slice eb e) (hz:Cb P (BK P t)=true) (hlen:0<len) (hes:e.size≠0) (zq:len*e.size<=16777216) (hb:len*eb<=140737488355328)
  (zt:parts.toList.map (·.1)=gf len) (hcs:cs.length=len)
  (hx:∀(i:Nat) (x:Nat × Operand) (cc:C),parts.toList[i]? =some x->cs[i]? =some cc->AK Γ (.d e cc) (a.eval x.2)):
  BU P o a w (BX Γ w {s with tk:=(n,some cs.length)::s.tk} (.sl eb e cs n)):=by
 refine(lI hP c ho ht hz hlen hes zq hb zt hcs hx).mono ?_;rintro v w' ⟨⟨ad,rfl⟩,Γ',g1,p1,c1,hr⟩;obtain⟨c2,p2,g2⟩:=c1.EE hn (x:=none) (L:=cs.length) (fun _ _ _ h=>by cases h);refine⟨_,g1.trans g2,p1.trans p2,c2,(Ch rfl rfl).2 ⟨?_,rfl⟩⟩;obtain⟨h1,_⟩:=(Ch rfl rfl).1 (hr.Bn p2);simp only[AA]at h1 ⊢;exact⟨ad,len,len,rfl,h1,none,cs.length,by simp[G.EE,CT],bx _,fun _=>rfl⟩
theorem q0Q (hP:BS P=true) (c:AY Γ w s) {o:Oper} {a:Act} {t:TypeId} {eb:Nat} {e:Ty} (ho:o.op= .buildSlice t 0 #[]) (ht:ty P t= .slice eb e):
  BU P o a w (BX Γ w s (.emp eb e)):=by
 obtain⟨hu,he,heb,hE⟩:=MD hP ht;have hz:=JD (f:=11) hP (w:=w) hE;refine BU.val (v:=.slice (some ⟨w.heap.size,0,none⟩) 0 0) (w':=w.alloc (.cells #[] (BK P t))) ?_ (.ext c (Ext.alloc _ _) QJ);have h0:(vv (fun _=>(default:Value)) (ia 0))=#[]:=by apply gr;simp
 unfold execOp;simp[ho,vn,run_underlying hu,hz,qh,newRow,h0]
theorem Yu {place:Nat->Option (Nat × Nat)} {τ:Ty} (hd:τ.CP=true) (hpl:∀i o f,τ.child i=some (o,f)->place i=some (o,f.size)) {ρ:Operand->V} {ev:Operand->Value}:
  ∀(L:List (Nat × Operand)) (x:V) (cells:Array Value),AA Γ none [] x cells.toList->x.ty=τ->x.plain=true->(∀p∈L,AK Γ (ρ p.2) (ev p.2))->MV τ x (L.map fun p=>(p.1,ρ p.2))->
  ∃ym,qh place cells (L.map fun p=>(p.1,ev p.2))=some ym/\AA Γ none [] (Js τ x (L.map fun p=>(p.1,ρ p.2))) ym.toList/\(Js τ x (L.map fun p=>(p.1,ρ p.2))).ty=τ/\(Js τ x (L.map fun p=>(p.1,ρ p.2))).plain=true
 | [],x,cells,hx,ht,hp,_,_=>⟨cells,rfl,hx,ht,hp⟩|(i,y)::L,x,cells,hx,ht,hp,hr,hok=>by
  simp only[dt,MV]at hok;obtain⟨h1,h2,h3,h4,h6⟩:=hok;obtain⟨⟨o,f⟩,hc⟩:=Option.isSome_iff_exists.1 h1;have hf:=Qn hc;rw[hf]at h2 h3 h6;have hy:=Xq (τ:=f) (hr (i,y) (by simp));obtain⟨q1,q2⟩:=(Ca h3).1 hy;have z9z:x.ty.walk [i]=some (o,(Cj f (ρ y)).ty):=by rw[ht,h2];simp[vt,hc]
  obtain⟨g1,g2,_⟩:=hx.at_ z9z h4 hp;have hlen:=q1.length h3;rw[h2]at hlen g2;have q3:AA Γ none ([]++[i]) (Cj f (ρ y)) (ev y).cells.toList:=q1.EZ;obtain⟨r1,r2,r3⟩:=AA.setAt hx hp (by rw[ht];exact hd) z9z h4 q3 h3;obtain⟨ym,e1,e2⟩:=q11 (rest:=L.map fun p=>(p.1,ev p.2)) (hpl i o f hc) (by simpa using hlen) (by simpa using g2);simp only[dt,e2,Js,hf];exact Yu hd hpl L _ ym (by rw[e1];exact r1) (by rw[r2,ht]) r3 (fun p hp'=>hr p (by simp[hp'])) h6
theorem q4e {gs:List Field}:∀{places:List (Nat × Nat)} {j:Nat} {g:Field},gs.mapM (fun f=>(P.info? f.type).map fun i=>(f.offset,i.size))=some places->gs[j]? =some g->places[j]? =some (g.offset,P.cellsOf g.type):=by
 induction gs with
 |nil=>intro places j g _ hj;simp at hj|cons g0 gs ih=>
  intro places j g h hj;simp only[uk,Option.bind_eq_bind,Option.pure_def]at h;cases hi:P.info? g0.type with
  |none=>simp[hi]at h|some it=>
   cases hr:gs.mapM (fun f=>(P.info? f.type).map fun i=>(f.offset,i.size))with
   |none=>simp[hi,hr]at h|some rest=>
    simp[hi,hr]at h;subst h;cases j with
    |zero=>simp at hj;subst hj;simp[iv,hi]|succ j=>simpa using ih hr (by simpa using hj)
theorem mapM_some {gs:List Field} (h:∀g∈gs,g.type<P.types.size):∃places,gs.mapM (fun f=>(P.info? f.type).map fun i=>(f.offset,i.size))=some places:=by
 induction gs with
 |nil=>exact⟨[],rfl⟩|cons g gs ih=>
  obtain⟨rest,hr⟩:=ih fun g' hg'=>h g' (by simp[hg']);have hlt:=h g (by simp);cases hi:P.info? g.type with
  |none=>simp[uo,hlt]at hi|some it=>exact⟨(g.offset,it.size)::rest,by simp[uk,hi,hr]⟩
theorem q0O (hP:BS P=true) {T:TypeId} {parts:Array (Nat × Operand)} {ρ:Operand->V} {ev:Operand->Value} (hz:Cb P T=true) (hd:(ty P T).CP=true) (hs:(ty P T).isAgg=true)
  (hr:∀p∈parts.toList,AK Γ (ρ p.2) (ev p.2)) (hok:MV (ty P T) (BI (ty P T)) (parts.toList.map fun p=>(p.1,ρ p.2))):
  ∃v,(Instr.build T (parts.map fun p=>(p.1,ev p.2))).run P w= .ok v w/\AK Γ (Js (ty P T) (BI (ty P T)) (parts.toList.map fun p=>(p.1,ρ p.2))) v:=by
 obtain⟨it,z,hi,hzz,hzo,_⟩:=MJ hz;have hX:AA Γ none [] (BI (ty P T)) z.cells.toList:=XZ (ty P T) hzo;have hXp:=XY (ty P T);cases hτ:ty P T with
 |struct sz os fs=>
  obtain⟨gs,hu,rfl,rfl,hsz,hgs⟩:=fX hP hτ;obtain⟨places,hpm⟩:=mapM_some (P:=P) (gs:=gs.toList) fun g hg=>(hgs g hg).1;have hpl:∀i o f,(ty P T).child i=some (o,f)->(places.toArray[i]?)=some (o,f.size):=by
   intro i o f hc;rw[hτ]at hc;simp only[jq,db]at hc;cases hg:gs.toList[i]? with
   |none=>rw[hg]at hc;simp at hc|some g=>
    rw[hg]at hc;simp at hc;obtain⟨rfl,rfl⟩:=hc;rw[Dq hP 11 g.type];simpa using q4e hpm hg
  obtain⟨ym,e1,e2,e3,e4⟩:=Yu (Γ:=Γ) hd hpl parts.toList (BI (ty P T)) z.cells hX (Nu _) hXp hr hok;refine⟨.agg ym,run_build w T _ ym ?_,?_⟩;{simp only[wc,hi,hu,hzz,hpm,nr];exact e1};{rw[<-hτ];refine(Ca e4).2 ⟨by simpa[ek]using e2,?_⟩;rw[e3,hτ];simp[Bi,ja]}
 |arr n e=>
  obtain⟨E,hu,he⟩:=QY hτ;have hT:T<P.types.size:=by rcases lg T P.types.size with hh|hh;{exact hh};{unfold ty tyF at hτ;rw[if_neg (Nat.not_lt.2 hh)]at hτ;cases hτ}
  have z8n:=Iz hP hT;unfold okT at z8n;simp only[hu]at z8n;simp at z8n;obtain⟨ie,hie⟩:∃i,P.info? E=some i:=by
   cases hi:P.info? E with
   |none=>simp[uo,z8n.2]at hi|some i=>exact⟨i,rfl⟩
  have hes:ie.size=e.size:=by have:=Dq hP 11 E;rw[he,this];simp[iv,hie]
  have hpl:∀i o f,(ty P T).child i=some (o,f)->(fun i=>some (i*ie.size,ie.size):Nat->Option (Nat × Nat)) i=some (o,f.size):=by intro i o f hc;rw[hτ]at hc;simp only[jq]at hc;split at hc;{simp at hc;obtain⟨rfl,rfl⟩:=hc;simp[hes]};{cases hc}
  obtain⟨ym,e1,e2,e3,e4⟩:=Yu (Γ:=Γ) hd hpl parts.toList (BI (ty P T)) z.cells hX (Nu _) hXp hr hok;refine⟨.agg ym,run_build w T _ ym ?_,?_⟩;{simp only[wc,hi,hu,hzz,hie,nr];exact e1};{rw[<-hτ];refine(Ca e4).2 ⟨by simpa[ek]using e2,?_⟩;rw[e3,hτ];simp[Bi,ja]}
 |int|bool|str|slice|ptr|map|func|iface|opq=>rw[hτ]at hs;simp[ja]at hs
end
end
end Go.E
