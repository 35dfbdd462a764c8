/-
 A framework for runs of Go code over abstract data: what it needs, and that it is sound, part 1.
 Conditions: none.
-/
import Derived.WalkKit
import Derived.Lib.Strings
import Derived.ChangeKeysEq
set_option linter.all false
noncomputable section
set_option maxRecDepth 100000
set_option maxHeartbeats 4000000
open Array renaming getElem?_eq_getElem->dw,getElem?_eq_some_iff->mg
open BitVec renaming ofInt->dx
open Bool renaming and_eq_true->bg,eq_iff_iff->kz,false_eq_true->fq,not_eq_true'->je
open ByteArray renaming ext->vi,size->iw
open Go.Builtin renaming len_->lb
open Go.ByteArray renaming toList_eq->ir
open Go.Call renaming operands->du
open Go.Instr renaming arrayAt->wv,fieldAt->wx,index->xt,indexAt->qc,slice->rr,sliceAt->kq,sliceBound->vo,sliceBounds->mq,sureAddr->na
open Go.Op renaming bytesLess->lx,eqFields->vq,eqItems->wo,equal->kl,equalIn->nu,intArith->sy,intBits->ug,intCmp->qm,maxDepth->vr,operands->cm,stringOp->ly
open Go.Program renaming cellsOf->iv
open Go.Result renaming andThen_ok->cu
open Go.Sem renaming run_bind->cz,run_pure->ej
open Go.Tables renaming info?->uo
open Go.Value renaming cells->ek
open Int renaming tmod_nonneg->wy,toNat_of_nonneg->ji
open List renaming all_eq_true->dv,drop_take->su,getD->bt,getElem?_drop->iz,getElem?_eq_getElem->bo,getElem?_eq_some_iff->cd,getElem?_map->db,getElem?_take->fh,mem_of_getElem?->fa,mem_range->gp
open Nat renaming add_assoc->fv,add_mul->da,le_refl->bx,le_trans->kh,mul_le_mul_right->cf,zero_le->dr
open Option renaming isSome_iff_exists->sk,map->xw,map_none->oh,map_some->gj
open Option.some renaming injEq->ee
open Prod.mk renaming injEq->fw
namespace Go.E
open Go
inductive Ty where
 |int (k:IntKind)|bool|str|slice (eb:Nat) (e:Ty)|arr (n:Nat) (e:Ty)|struct (sz:Nat) (os:List Nat) (fs:List Ty)|ptr|map|func|iface|opq (sz:Nat)
 deriving Inhabited
def Ty.size:Ty->Nat
 | .arr n e=>n*e.size| .struct sz _ _=>sz| .opq sz=>sz|_=>1
def Ty.isAgg:Ty->Bool
 | .arr _ _| .struct _ _ _=>true|_=>false
inductive C where
 |int (n:Int)|bool (b:Bool)|str (l:List UInt8)|agg (cs:List C)|slice (cs:List C)|nil
 deriving Inhabited
abbrev Hp:=Nat->Option (List Value)
def Hp.le (H H':Hp):Prop:=∀b l,H b=some l->∃r,H' b=some (l++r)
theorem Hp.le_refl (H:Hp):H.le H:=fun _ _ h=>⟨[],by simpa using h⟩
theorem Hp.le_trans {a b c:Hp} (h:a.le b) (h':b.le c):a.le c:=fun b l hb=>by obtain⟨r,h1⟩:=h b l hb;obtain⟨r',h2⟩:=h' b _ h1;exact⟨r++r',by rw[h2,List.append_assoc]⟩
def Dx (vs:List Value):Prop:=∀v∈vs,v.oneCell'=true
def chunk (vs:List Value) (o n:Nat):List Value:=(vs.drop o).take n
mutual
def AU (H:Hp):Ty->List Value->C->Prop
 | .int k,vs,c=>∃n,c= .int n/\vs=[.int k n]/\k.min<=n/\n<=k.max| .bool,vs,c=>∃b,c= .bool b/\vs=[.bool b]| .str,vs,c=>∃l,c= .str l/\vs=[.string ⟨l.toArray⟩]/\l.length<=140737488355328
 | .slice eb e,vs,c=>∃a n cap cs,c= .slice cs/\vs=[.slice a n cap]/\cs.length=n/\n<=cap/\cap<=maxLen/\
   n*eb<=140737488355328/\(n=0\/∃b off l,a=some ⟨b,off,none⟩/\H b=some l/\
    off+n*e.size<=l.length/\∀i c,cs[i]? =some c->AU H e (chunk l (off+i*e.size) e.size) c)
 | .arr n e,vs,c=>∃cs,c= .agg cs/\cs.length=n/\vs.length=n*e.size/\Dx vs/\
   ∀i c,cs[i]? =some c->AU H e (chunk vs (i*e.size) e.size) c
 | .struct sz os fs,vs,c=>∃cs,c= .agg cs/\vs.length=sz/\Dx vs/\CN H fs os vs cs| .ptr,vs,c=>c= .nil/\vs=[.pointer none]| .map,vs,c=>c= .nil/\vs=[.map none]| .func,vs,c=>c= .nil/\vs=[.nilFunc]| .iface,vs,c=>(c= .nil/\vs=[.nilIface])\/(c= .bool true/\∃t v,vs=[.iface t v])| .opq _,_,_=>False
def CN (H:Hp):List Ty->List Nat->List Value->List C->Prop
 | [],_,_,cs=>cs=[]|f::fs,o::os,vs,cs=>∃c cs',cs=c::cs'/\o+f.size<=vs.length/\AU H f (chunk vs o f.size) c/\CN H fs os vs cs'|_::_,[],_,_=>False
end
theorem OU (l r:List Value) (o n:Nat) (h:o+n<=l.length):chunk (l++r) o n=chunk l o n:=by unfold chunk;rw[List.drop_append_of_le_length (by omega),List.take_append_of_le_length (by simp;omega)]
mutual
theorem AU.mono {H H':Hp} (h:H.le H'):∀{τ:Ty} {vs:List Value} {c:C},AU H τ vs c->AU H' τ vs c
 | .int _,_,_,r=>by simpa[AU]using r
 | .bool,_,_,r=>by simpa[AU]using r
 | .str,_,_,r=>by simpa[AU]using r
 | .slice eb e,vs,c,r=>by
  simp only[AU]at r ⊢;obtain⟨a,n,cap,cs,rfl,rfl,h1,h2,h3,h4,h5⟩:=r;refine⟨a,n,cap,cs,rfl,rfl,h1,h2,h3,h4,?_⟩;rcases h5 with h5|⟨b,off,l,ha,hb,hs,hr⟩;{exact .inl h5}
  ·obtain⟨r,hb'⟩:=h _ _ hb;refine .inr ⟨b,off,l++r,ha,hb',by simp;omega,fun i c hi=>?_⟩;have hi':i<n:=by rw[<-h1];exact(cd.1 hi).1
   have hle:(i+1)*e.size<=n*e.size:=cf _ hi';rw[da]at hle;rw[OU _ _ _ _ (by omega)];exact AU.mono h (hr i c hi)
 | .arr n e,vs,c,r=>by simp only[AU]at r ⊢;obtain⟨cs,rfl,h1,h2,h4,h3⟩:=r;exact⟨cs,rfl,h1,h2,h4,fun i c hi=>AU.mono h (h3 i c hi)⟩
 | .struct sz os fs,vs,c,r=>by simp only[AU]at r ⊢;obtain⟨cs,rfl,h1,h4,h2⟩:=r;exact⟨cs,rfl,h1,h4,CN.mono h h2⟩
 | .ptr,_,_,r=>by simpa[AU]using r
 | .map,_,_,r=>by simpa[AU]using r
 | .func,_,_,r=>by simpa[AU]using r
 | .iface,_,_,r=>by simpa[AU]using r
 | .opq _,_,_,r=>by simp[AU]at r
theorem CN.mono {H H':Hp} (h:H.le H'):∀{fs:List Ty} {os:List Nat} {vs:List Value} {cs:List C},CN H fs os vs cs->CN H' fs os vs cs
 | [],_,_,_,r=>by simpa[CN]using r
 |f::fs,o::os,vs,cs,r=>by simp only[CN]at r ⊢;obtain⟨c,cs',rfl,h1,h2,h3⟩:=r;exact⟨c,cs',rfl,h1,AU.mono h h2,CN.mono h h3⟩
 |_::_,[],_,_,r=>by simp[CN]at r
end
theorem Ek (vs:List Value) (o n:Nat) (h:o+n<=vs.length):(chunk vs o n).length=n:=by simp[chunk];omega
theorem AU.length {H:Hp}:∀{τ:Ty} {vs:List Value} {c:C},AU H τ vs c->vs.length=τ.size:=by
 intro τ vs c r;cases τ <;> simp only[AU]at r
 all_goals (first
  |(rcases r with⟨rfl,rfl⟩|⟨rfl,t,v,rfl⟩ <;> rfl)|(obtain⟨n,rfl,rfl,_⟩:=r;rfl)|(obtain⟨n,rfl,rfl⟩:=r;rfl)|(obtain⟨a,n,cap,cs,rfl,rfl,_⟩:=r;rfl)|(obtain⟨cs,rfl,_,h,_⟩:=r;exact h)|(obtain⟨cs,rfl,h,_⟩:=r;exact h)|(obtain⟨rfl,rfl⟩:=r;rfl))
theorem Dx.chunk {vs:List Value} {o n:Nat} (h:Dx vs):Dx (chunk vs o n):=fun v hv=>h v (List.mem_of_mem_drop (List.mem_of_mem_take hv))
theorem AU.one {H:Hp}:∀{τ:Ty} {vs:List Value} {c:C},AU H τ vs c->Dx vs:=by
 intro τ vs c r;cases τ <;> simp only[AU]at r
 all_goals (first
  |(rcases r with⟨rfl,rfl⟩|⟨rfl,t,v,rfl⟩ <;> (intro v hv;simp at hv;subst hv;rfl))|(obtain⟨n,rfl,rfl,_⟩:=r;intro v hv;simp at hv;subst hv;rfl)|(obtain⟨n,rfl,rfl⟩:=r;intro v hv;simp at hv;subst hv;rfl)|(obtain⟨a,n,cap,cs,rfl,rfl,_⟩:=r;intro v hv;simp at hv;subst hv;rfl)|(obtain⟨cs,rfl,_,h,h1,_⟩:=r;exact h1)|(obtain⟨cs,rfl,h,h1,_⟩:=r;exact h1)|(obtain⟨rfl,rfl⟩:=r;intro v hv;simp at hv;subst hv;rfl))
theorem CN.get {H:Hp}:∀{fs:List Ty} {os:List Nat} {vs:List Value} {cs:List C} {i:Nat} {f:Ty},CN H fs os vs cs->fs[i]? =some f->
  ∃o c,os[i]? =some o/\cs[i]? =some c/\o+f.size<=vs.length/\AU H f (chunk vs o f.size) c
 | [],_,_,_,_,_,_,h=>by simp at h
 |f::fs,o::os,vs,cs,0,g,r,h=>by simp only[CN]at r;obtain⟨c,cs',rfl,h1,h2,_⟩:=r;simp at h;subst h;exact⟨o,c,rfl,rfl,h1,h2⟩
 |f::fs,o::os,vs,cs,i+1,g,r,h=>by
  simp only[CN]at r;obtain⟨c,cs',rfl,_,_,h3⟩:=r;have h':fs[i]? =some g:=by simpa using h
  obtain⟨o',c',a,b,d⟩:=CN.get h3 h';exact⟨o',c',by simpa using a,by simpa using b,d⟩
 |_::_,[],_,_,_,_,r,_=>by simp[CN]at r
theorem CN.rA {H:Hp}:∀{fs:List Ty} {os:List Nat} {vs:List Value} {cs:List C},CN H fs os vs cs->cs.length=fs.length
 | [],_,_,_,r=>by simp only[CN]at r;simp[r]
 |f::fs,o::os,vs,cs,r=>by simp only[CN]at r;obtain⟨c,cs',rfl,_,_,h3⟩:=r;simp[CN.rA h3]
 |_::_,[],_,_,r=>by simp[CN]at r
theorem CN.Lk {H:Hp}:∀{fs:List Ty} {os:List Nat} {vs:List Value} {cs:List C},cs.length=fs.length->
  (∀(i:Nat) (f:Ty) (c:C),fs[i]? =some f->cs[i]? =some c->∃o,os[i]? =some o/\o+f.size<=vs.length/\AU H f (chunk vs o f.size) c)->CN H fs os vs cs
 | [],_,_,cs,hl,_=>by simpa[CN]using hl
 |f::fs,[],vs,c::cs,hl,h=>by obtain⟨o,ho,_⟩:=h 0 f c rfl rfl;simp at ho
 |f::fs,o::os,vs,c::cs,hl,h=>by obtain⟨o',ho,h1,h2⟩:=h 0 f c rfl rfl;simp at ho;subst ho;simp only[CN];exact⟨c,cs,rfl,h1,h2,CN.Lk (by simpa using hl) (fun i g c' hg hc=>by simpa using h (i+1) g c' (by simpa using hg) (by simpa using hc))⟩
 |f::fs,_,_,[],hl,_=>by simp at hl
theorem FB (vs:List Value) (o n o' n':Nat) (h:o'+n'<=n):chunk (chunk vs o n) o' n'=chunk vs (o+o') n':=by simp only[chunk,su,List.drop_drop,List.take_take];congr 1;omega
theorem MW (vs:List Value):chunk vs 0 vs.length=vs:=by simp[chunk]
mutual
def Ty.beq:Ty->Ty->Bool
 | .int a,.int b=>decide (a=b)| .bool,.bool| .str,.str| .ptr,.ptr| .map,.map| .func,.func| .iface,.iface=>true| .slice a e,.slice b f=>decide (a=b)&&Ty.beq e f| .arr a e,.arr b f=>decide (a=b)&&Ty.beq e f| .struct a o e,.struct b p f=>decide (a=b)&&decide (o=p)&&Ty.HM e f| .opq a,.opq b=>decide (a=b)|_,_=>false
def Ty.HM:List Ty->List Ty->Bool
 | [],[]=>true|x::xs,y::ys=>Ty.beq x y&&Ty.HM xs ys|_,_=>false
end
mutual
theorem Ty.beq_iff:∀(a b:Ty),Ty.beq a b=true↔a=b
 | .int a,b=>by cases b <;> simp[Ty.beq]
 | .bool,b=>by cases b <;> simp[Ty.beq]
 | .str,b=>by cases b <;> simp[Ty.beq]
 | .ptr,b=>by cases b <;> simp[Ty.beq]
 | .map,b=>by cases b <;> simp[Ty.beq]
 | .func,b=>by cases b <;> simp[Ty.beq]
 | .iface,b=>by cases b <;> simp[Ty.beq]
 | .slice a e,b=>by cases b <;> simp[Ty.beq,Ty.beq_iff e]
 | .arr a e,b=>by cases b <;> simp[Ty.beq,Ty.beq_iff e]
 | .struct a o e,b=>by cases b <;> simp[Ty.beq,Ty.OO e,and_assoc]
 | .opq a,b=>by cases b <;> simp[Ty.beq]
theorem Ty.OO:∀(a b:List Ty),Ty.HM a b=true↔a=b
 | [],b=>by cases b <;> simp[Ty.HM]
 |x::xs,[]=>by simp[Ty.HM]
 |x::xs,y::ys=>by simp[Ty.HM,Ty.beq_iff x,Ty.OO xs]
end
instance:DecidableEq Ty:=fun a b=>decidable_of_iff _ (Ty.beq_iff a b)
inductive Key where
 |l (n:Nat)|g (k:Key)
 deriving DecidableEq,Inhabited
inductive V where
 |d (τ:Ty) (c:C)|sl (eb:Nat) (e:Ty) (cs:List C) (t:Nat)|ts (eb:Nat) (e:Ty) (cs:List C)|emp (eb:Nat) (e:Ty)|ye|ptr (k:Key) (q:List Nat) (τ:Ty)|yf (τ:Ty) (c:C)|sr (k:Key) (q:List Nat) (lo n:Nat) (cp:Option Nat) (eb:Nat) (e:Ty)|mp (k:Key)|agg (τ:Ty) (vs:List V)|fn (f:FuncId) (yg:List V)|tup (vs:List V)|top (τ:Ty)|any
 deriving Inhabited
def V.ty:V->Ty
 | .d τ _=>τ| .ptr _ _ _| .yf _ _=>.ptr| .sl eb e _ _| .ts eb e _| .emp eb e| .sr _ _ _ _ _ eb e=>.slice eb e| .mp _=>.map| .agg τ _=>τ| .fn _ _=>.func| .tup _| .any=>.opq 0| .ye=>.slice 0 (.opq 0)| .top τ=>τ
def Ty.child:Ty->Nat->Option (Nat × Ty)
 | .struct _ os fs,i=>match os[i]?,fs[i]? with|some o,some f=>some (o,f)|_,_=>none
 | .arr n e,i=>if i<n then some (i*e.size,e)else none|_,_=>none
def Ty.kids:Ty->Nat
 | .struct _ _ fs=>fs.length| .arr n _=>n|_=>0
def Ty.Mu:Ty->Bool
 | .arr _ _=>true|_=>false
def Ty.walk:Ty->List Nat->Option (Nat × Ty)
 |τ,[]=>some (0,τ)|τ,i::q=>match τ.child i with
  |some (o,f)=>match f.walk q with|some (o',t)=>some (o+o',t)|none=>none
  |none=>none
def MC:Ty:=.struct 2 [0,1] [.ptr,.slice 1 (.int .u8)]
def Y8 (l:List UInt8):List Value:=l.map fun b=>Value.int .u8 (b.toNat:Int)
inductive O where
 |box (x:V)|map (kτ vτ:Ty) (es:List (C × V))|it (l:List UInt8) (pos:Nat)|dead (τ:Ty)
 deriving Inhabited
def O.ty:O->Ty
 | .box x=>x.ty| .map _ _ _=>.map| .it _ _=>MC| .dead τ=>τ
def O.FL:O->Bool
 | .dead _=>true|_=>false
structure S where
 env:List (Nat × V)
 loc:List (Key × O)
 A:Key->Option O
 tk:List (Nat × Option Nat)
def look {α:Type}:List (Nat × α)->Nat->Option α
 | [],_=>none|(j,x)::l,i=>if j=i then some x else look l i
def AZ {α:Type}:List (Key × α)->Key->Option α
 | [],_=>none|(j,x)::l,i=>if j=i then some x else AZ l i
def S.get (s:S) (i:Nat):V:=(look s.env i).getD .any
def Cs (loc:List (Key × O)) (A:Key->Option O) (k:Key):Option O:=
 match AZ loc k with
 |some o=>some o|none=>match k with| .g k=>A k| .l _=>none
def S.obj (s:S) (k:Key):Option O:=Cs s.loc s.A k
def Ed (tk:List (Nat × Option Nat)) (t:Nat):Option Nat:=
 match look tk t with
 |some (some L)=>some L|_=>none
def Oa:Option O->Bool
 |some o=>o.FL|none=>false
def S.CY (s:S) (k:Key):Bool:=Oa (s.obj k)
def S.live (s:S) (t:Nat):Option Nat:=Ed s.tk t
def S.known (s:S) (t:Nat):Bool:=(look s.tk t).isSome
inductive HP where
 |at(p:List Nat)|bld
instance:Coe (List Nat) HP:=⟨.at⟩
inductive Tip where
 |tok (t:Nat)|home (k:Key) (p:HP)
def MN:Tip->TypeId->Prop
 | .home _ .bld,T=>T=5|_,_=>True
structure G where
 H:Hp
 Z:Nat->Option Obj
 ι:Key->Option (Nat × Ty)
 τ:Nat->Option (Option (Nat × Nat × Nat) × Nat)
 κ:Nat->Option (Tip × Nat)
 gl:Nat->Option (Ty × C)
 oo:Os × Array (Nat × ByteArray)
 σ:Nat->Option Nat
def oof (w:World):Os × Array (Nat × ByteArray):=(w.os,w.output)
def Tp (Γ:G) (o:Tip) (esz:Nat) (a:Option Addr) (n cap:Nat):Prop:=
 cap=n\/∃b l sz,a=some ⟨b,0,none⟩/\Γ.H b=some l/\n*esz=l.length/\Γ.κ b=some (o,sz)/\cap*esz<=sz
def Tq (Γ:G) (t len esz:Nat) (a:Option Addr) (n cap:Nat):Prop:=
 ∃x L,Γ.τ t=some (x,L)/\len<=L/\(len=L->match x with|none=>cap=n|some (b,pos,sz)=>a=some ⟨b,0,none⟩/\n*esz=pos/\cap*esz<=sz)
mutual
def AA (Γ:G) (hm:Option Key):List Nat->V->List Value->Prop
 |_,.d τ c,vs=>AU Γ.H τ vs c|_,.sl eb e cs t,vs=>∃a n cap,vs=[.slice a n cap]/\AU Γ.H (.slice eb e) [.slice a n cap] (.slice cs)/\Tq Γ t cs.length e.size a n cap|p,.ts eb e cs,vs=>∃a n cap k,hm=some k/\vs=[.slice a n cap]/\AU Γ.H (.slice eb e) [.slice a n cap] (.slice cs)/\Tp Γ (.home k p) e.size a n cap|_,.emp _ _,vs=>∃a,vs=[.slice a 0 0]|_,.ye,vs=>vs=[.slice none 0 0]|_,.ptr k q τ,vs=>∃b τ0 o,Γ.ι k=some (b,τ0)/\τ0.walk q=some (o,τ)/\vs=[.pointer (some ⟨b,o,none⟩)]|_,.yf τ c,vs=>∃b off l,vs=[.pointer (some ⟨b,off,none⟩)]/\Γ.H b=some l/\off+τ.size<=l.length/\AU Γ.H τ (chunk l off τ.size) c
 |_,.sr k q lo n cp eb e,vs=>(cp=none/\n=0/\∃a,vs=[.slice a 0 0])\/∃b τ0 o m cap,Γ.ι k=some (b,τ0)/\τ0.walk q=some (o,.arr m e)/\lo+n<=m/\
   (∃a,vs=[.slice a n cap]/\(cap=0\/a=some ⟨b,o+lo*e.size,none⟩))/\n<=cap/\cap<=maxLen/\n*eb<=140737488355328/\(∀c,cp=some c->cap=c)/\
   (cp=none->cap=0\/∃sz,Γ.σ b=some sz/\o+(lo+cap)*e.size<=sz)
 |_,.mp k,vs=>∃b,Γ.ι k=some (b,.map)/\vs=[.map (some b)]|p,.agg τ xs,vs=>vs.length=τ.size/\Dx vs/\xs.length=τ.kids/\τ.isAgg=true/\Ag Γ hm p 0 τ xs vs|_,.fn f yg,vs=>∃cv,vs=[.func (.func f) #[] cv]/\Bb Γ yg cv.toList|_,.tup _,_=>False|_,.top τ,vs=>vs.length=τ.size/\Dx vs/\(τ= .bool->∃b,vs=[.bool b])|_,.any,_=>True
def Ag (Γ:G) (hm:Option Key) (p:List Nat):Nat->Ty->List V->List Value->Prop
 |_,_,[],_=>True|i,τ,x::xs,vs=>(∃o f,τ.child i=some (o,f)/\x.ty=f/\o+f.size<=vs.length/\AA Γ hm (p++[i]) x (chunk vs o f.size))/\Ag Γ hm p (i+1) τ xs vs
def Bb (Γ:G):List V->List Value->Prop
 | [],vs=>vs=[]|x::xs,vs=>∃v vs',vs=v::vs'/\AA Γ none [] x v.cells.toList/\(match v with| .agg _=>true|_=>false)=x.ty.isAgg/\Bb Γ xs vs'
end
def Bi:Value->Bool
 | .agg _=>true|_=>false
def AK (Γ:G) (x:V) (v:Value):Prop:=
 match x with
 | .any=>True| .tup xs=>∃vs,v= .tuple vs/\Bb Γ xs vs.toList|x=>AA Γ none [] x v.cells.toList/\Bi v=x.ty.isAgg
def V.plain:V->Bool
 | .any| .tup _=>false|_=>true
mutual
def V.BW:V->Bool
 | .sl ..=>false| .agg _ vs| .fn _ vs| .tup vs=>V.DB vs|_=>true
def V.DB:List V->Bool
 | []=>true|x::xs=>x.BW&&V.DB xs
end
def o7 (w:World) (b:Nat) (cells:Array Value) (T:TypeId):Prop:=∃fr:Nat × Nat,w.heap[b]? =some (.cells cells T fr)/\(fr.2<=fr.1\/cells.size<=fr.1)
def Own (Γ:G) (w:World) (k:Key):O->Prop
 | .box x=>∃b cells T,Γ.ι k=some (b,x.ty)/\Γ.H b=none/\Γ.Z b=none/\o7 w b cells T/\
   x.ty.size<=cells.size/\AA Γ (some k) [] x (chunk cells.toList 0 x.ty.size)/\x.plain=true/\x.BW=true
 | .map kτ vτ es=>∃b ms clock,Γ.ι k=some (b,.map)/\Γ.H b=none/\Γ.Z b=none/\w.heap[b]? =some (.map ms clock)/\ms.size=es.length/\
   (∀(i:Nat) (m:MapEntry) (c:C × V),ms[i]? =some m->es[i]? =some c->AU Γ.H kτ m.key.cells.toList c.1/\Bi m.key=kτ.isAgg/\
    AA Γ none [] c.2 m.val.cells.toList/\Bi m.val=vτ.isAgg/\c.2.ty=vτ/\c.2.plain=true/\c.2.BW=true)/\
   (∀(i:Nat) (m:MapEntry),ms[i]? =some m->m.born<clock)/\(∀(i j:Nat) (m m':MapEntry),ms[i]? =some m->ms[j]? =some m'->m.born=m'.born->i=j)
 | .it l pos=>∃b adr v,Γ.ι k=some (b,MC)/\Γ.H b=none/\Γ.Z b=none/\w.heap[b]? =some (.cells #[adr,v] pos (0,0))/\(adr= .pointer none\/adr= .pointer (some ⟨b,0,none⟩))/\l.length<=140737488355328/\
   ((v= .slice none 0 0/\l=[])\/∃g cap,v= .slice (some ⟨g,0,none⟩) l.length cap/\Γ.H g=some (Y8 l)/\Γ.κ g=some (.home k .bld,cap)/\l.length<=cap/\cap<=maxLen/\0<cap)
 | .dead τ=>∃b,Γ.ι k=some (b,τ)/\b<w.heap.size
def O.Jr:O->Prop
 | .box x=>∃e,x= .d (.arr 0 e) (.agg [])| .dead _=>True|_=>False
structure AY (Γ:G) (w:World) (s:S):Prop where
 hH:∀b l,Γ.H b=some l->∃arr T fr r,w.heap[b]? =some (.cells arr T fr)/\arr.toList=l++r
 hZ:∀b o,Γ.Z b=some o->w.heap[b]? =some o
 hκ:∀b o sz,Γ.κ b=some (o,sz)->Γ.Z b=none/\Γ.H b≠none/\∃arr T,w.heap[b]? =some (.cells arr T (0,0))/\arr.size=sz/\MN o T
 obj:∀k o,s.obj k=some o->(Γ.ι k=none/\o.Jr)\/Own Γ w k o
 dom:∀k,Γ.ι k≠none->s.obj k≠none
 inj:∀k k' b τ τ',Γ.ι k=some (b,τ)->Γ.ι k'=some (b,τ')->k=k'\/((s.CY k=true\/s.CY k'=true)/\τ.Mu=true/\τ'.Mu=true)
 tok:∀t L,s.live t=some L->∃x,Γ.τ t=some (x,L)/\∀b pos sz,x=some (b,pos,sz)->(∃l,Γ.H b=some l/\l.length=pos)/\Γ.κ b=some (.tok t,sz)
 yu:∀t,Γ.τ t≠none->s.known t=true
 hgl:∀g τ c,Γ.gl g=some (τ,c)->∃l,Γ.H g=some l/\τ.size<=l.length/\AU Γ.H τ (chunk l 0 τ.size) c
 hoo:oof w=Γ.oo
 hσ:∀b sz,Γ.σ b=some sz->∃arr T fr,w.heap[b]? =some (.cells arr T fr)/\arr.size=sz
def Gm (Γ:G) (s:S) (tmps:Array Value):Prop:=∀i,AK Γ (s.get i) (tmps.getD i undef)
section
structure Bg (Γ Γ':G):Prop where
 H:Γ.H.le Γ'.H
 ι:∀k x,Γ.ι k=some x->Γ'.ι k=some x
 τ:∀t x L,Γ.τ t=some (x,L)->∃x' L',Γ'.τ t=some (x',L')/\L<=L'/\(L=L'->x'=x)
 σ:∀b sz,Γ.σ b=some sz->Γ'.σ b=some sz
theorem Bg.refl (Γ:G):Bg Γ Γ:=⟨Hp.le_refl _,fun _ _ h=>h,fun _ x L h=>⟨x,L,h,bx _,fun _=>rfl⟩,fun _ _ h=>h⟩
theorem Bg.trans {a b c:G} (h:Bg a b) (h':Bg b c):Bg a c:=
 ⟨Hp.le_trans h.H h'.H,fun k x hk=>h'.ι k x (h.ι k x hk),fun t x L ht=>by
  obtain⟨x1,L1,h1,h2,h3⟩:=h.τ t x L ht;obtain⟨x2,L2,h4,h5,h6⟩:=h'.τ t x1 L1 h1;exact⟨x2,L2,h4,by omega,fun e=>by rw[h6 (by omega),h3 (by omega)]⟩,fun b sz hb=>h'.σ b sz (h.σ b sz hb)⟩
def OB (Γ Γ':G):Option Key->Prop
 |none=>True|some k=>∀b p sz,Γ.κ b=some (.home k p,sz)->Γ'.κ b=Γ.κ b/\Γ'.H b=Γ.H b
theorem Tq.Bn {Γ Γ':G} (hp:Bg Γ Γ') {t len esz:Nat} {a:Option Addr} {n cap:Nat} (h:Tq Γ t len esz a n cap):Tq Γ' t len esz a n cap:=by
 obtain⟨x,L,h1,h2,h3⟩:=h;obtain⟨x',L',h4,h5,h6⟩:=hp.τ t x L h1;refine⟨x',L',h4,by omega,fun e=>?_⟩;have:L=L':=by omega
 rw[h6 this];exact h3 (by omega)
theorem Tp.Bn {Γ Γ':G} {k:Key} {p:List Nat} (hk:OB Γ Γ' (some k)) {esz:Nat} {a:Option Addr} {n cap:Nat} (h:Tp Γ (.home k p) esz a n cap):Tp Γ' (.home k p) esz a n cap:=by rcases h with h|⟨b,l,sz,h1,h2,h3,h4,h5⟩;{exact .inl h};{obtain⟨e1,e2⟩:=hk b p sz h4;exact .inr ⟨b,l,sz,h1,by rw[e2,h2],h3,by rw[e1,h4],h5⟩}
theorem YT {H H':Hp} (h:H.le H') {b off:Nat} {l:List Value} {τ:Ty} {c:C} (h1:H b=some l) (h2:off+τ.size<=l.length) (h3:AU H τ (chunk l off τ.size) c):
  ∃l',H' b=some l'/\off+τ.size<=l'.length/\AU H' τ (chunk l' off τ.size) c:=by
 obtain⟨r,hr⟩:=h b l h1;exact⟨l++r,hr,by simp;omega,by rw[OU _ _ _ _ h2];exact h3.mono h⟩
section
variable {Γ Γ':G}
mutual
theorem AA.Bn (hp:Bg Γ Γ') {hm:Option Key} (hk:OB Γ Γ' hm):∀(x:V) {p:List Nat} {vs:List Value},AA Γ hm p x vs->AA Γ' hm p x vs
 | .d τ c,_,_,h=>by simp only[AA]at h ⊢;exact h.mono hp.H
 | .sl eb e cs t,_,_,h=>by simp only[AA]at h ⊢;obtain⟨a,n,cap,h1,h2,h3⟩:=h;exact⟨a,n,cap,h1,h2.mono hp.H,h3.Bn hp⟩
 | .ts eb e cs,_,_,h=>by simp only[AA]at h ⊢;obtain⟨a,n,cap,k,h0,h1,h2,h3⟩:=h;subst h0;exact⟨a,n,cap,k,rfl,h1,h2.mono hp.H,h3.Bn hk⟩
 | .emp _ _,_,_,h=>by simpa only[AA]using h
 | .ye,_,_,h=>by simpa only[AA]using h
 | .ptr k q τ,_,_,h=>by simp only[AA]at h ⊢;obtain⟨b,τ0,o,h1,h2⟩:=h;exact⟨b,τ0,o,hp.ι _ _ h1,h2⟩
 | .yf τ c,_,_,h=>by simp only[AA]at h ⊢;obtain⟨b,off,l,h1,h2,h3,h4⟩:=h;obtain⟨l',a1,a2,a3⟩:=YT hp.H h2 h3 h4;exact⟨b,off,l',h1,a1,a2,a3⟩
 | .sr k q lo n cp eb e,_,_,h=>by simp only[AA]at h ⊢;rcases h with h|⟨b,τ0,o,m,cap,h1,h2,h3,h4,h5,h6,h7,h8,h9⟩;{exact .inl h};exact .inr ⟨b,τ0,o,m,cap,hp.ι _ _ h1,h2,h3,h4,h5,h6,h7,h8,fun e=>(h9 e).imp id fun⟨sz,a1,a2⟩=>⟨sz,hp.σ _ _ a1,a2⟩⟩
 | .mp k,_,_,h=>by simp only[AA]at h ⊢;obtain⟨b,h1,h2⟩:=h;exact⟨b,hp.ι _ _ h1,h2⟩
 | .agg τ xs,_,_,h=>by simp only[AA]at h ⊢;exact⟨h.1,h.2.1,h.2.2.1,h.2.2.2.1,Ag.Bn hp hk xs h.2.2.2.2⟩
 | .fn f yg,_,_,h=>by simp only[AA]at h ⊢;obtain⟨cv,h1,h2⟩:=h;exact⟨cv,h1,Bb.Bn hp yg h2⟩
 | .tup _,_,_,h=>by simp only[AA]at h
 | .top _,_,_,h=>by simpa only[AA]using h
 | .any,_,_,h=>by simp only[AA]
theorem Ag.Bn (hp:Bg Γ Γ') {hm:Option Key} (hk:OB Γ Γ' hm):∀(xs:List V) {p:List Nat} {i:Nat} {τ:Ty} {vs:List Value},Ag Γ hm p i τ xs vs->Ag Γ' hm p i τ xs vs
 | [],_,_,_,_,_=>by simp only[Ag]
 |x::xs,_,_,_,_,h=>by simp only[Ag]at h ⊢;obtain⟨⟨o,f,h1,h2,h3,h4⟩,h5⟩:=h;exact⟨⟨o,f,h1,h2,h3,AA.Bn hp hk x h4⟩,Ag.Bn hp hk xs h5⟩
theorem Bb.Bn (hp:Bg Γ Γ'):∀(xs:List V) {vs:List Value},Bb Γ xs vs->Bb Γ' xs vs
 | [],_,h=>by simpa only[Bb]using h
 |x::xs,_,h=>by simp only[Bb]at h ⊢;obtain⟨v,vs',h1,h2,h3,h4⟩:=h;exact⟨v,vs',h1,AA.Bn hp (by trivial) x h2,h3,Bb.Bn hp xs h4⟩
end
mutual
theorem AA.EZ {hm:Option Key}:∀(x:V) {p p':List Nat} {vs:List Value},AA Γ none p x vs->AA Γ hm p' x vs
 | .d τ c,_,_,_,h=>by simpa only[AA]using h
 | .sl eb e cs t,_,_,_,h=>by simpa only[AA]using h
 | .ts eb e cs,_,_,_,h=>by simp only[AA]at h;obtain⟨a,n,cap,k,h0,_⟩:=h;cases h0
 | .emp _ _,_,_,_,h=>by simpa only[AA]using h
 | .ye,_,_,_,h=>by simpa only[AA]using h
 | .ptr k q τ,_,_,_,h=>by simpa only[AA]using h
 | .yf τ c,_,_,_,h=>by simpa only[AA]using h
 | .sr k q lo n cp eb e,_,_,_,h=>by simpa only[AA]using h
 | .mp k,_,_,_,h=>by simpa only[AA]using h
 | .agg τ xs,_,_,_,h=>by simp only[AA]at h ⊢;exact⟨h.1,h.2.1,h.2.2.1,h.2.2.2.1,Ag.EZ xs h.2.2.2.2⟩
 | .fn f yg,_,_,_,h=>by simpa only[AA]using h
 | .tup _,_,_,_,h=>by simp only[AA]at h
 | .top _,_,_,_,h=>by simpa only[AA]using h
 | .any,_,_,_,h=>by simp only[AA]
theorem Ag.EZ {hm:Option Key}:∀(xs:List V) {p p':List Nat} {i:Nat} {τ:Ty} {vs:List Value},Ag Γ none p i τ xs vs->Ag Γ hm p' i τ xs vs
 | [],_,_,_,_,_,_=>by simp only[Ag]
 |x::xs,_,_,_,_,_,h=>by simp only[Ag]at h ⊢;obtain⟨⟨o,f,h1,h2,h3,h4⟩,h5⟩:=h;exact⟨⟨o,f,h1,h2,h3,AA.EZ x h4⟩,Ag.EZ xs h5⟩
end
theorem AK.Bn (hp:Bg Γ Γ') {x:V} {v:Value} (h:AK Γ x v):AK Γ' x v:=by unfold AK at h ⊢;split;{trivial};{obtain⟨vs,h1,h2⟩:=h;exact⟨vs,h1,Bb.Bn hp _ h2⟩};{rename_i h1 h2;split at h <;> first|(exact absurd rfl h1)|(rename_i xs;exact absurd rfl (h2 xs))|exact⟨AA.Bn hp (by trivial) _ h.1,h.2⟩}
theorem Gm.Bn (hp:Bg Γ Γ') {s:S} {a:Array Value} (h:Gm Γ s a):Gm Γ' s a:=fun i=>(h i).Bn hp
end
theorem Own.Bn {Γ Γ':G} {w w':World} {k:Key} {o:O} (hp:Bg Γ Γ') (hk:OB Γ Γ' (some k)) (hb:∀b τ,Γ.ι k=some (b,τ)->w'.heap[b]? =w.heap[b]?/\Γ'.H b=none/\Γ'.Z b=none)
  (h:Own Γ w k o):Own Γ' w' k o:=by
 cases o with
 |box x=>
  obtain⟨b,cells,T,h1,h2,h3,h4,h5,h6,h7⟩:=h;obtain⟨e1,e2,e3⟩:=hb _ _ h1;exact⟨b,cells,T,hp.ι _ _ h1,e2,e3,by obtain⟨fr,h4,hf⟩:=h4;exact⟨fr,by rw[e1,h4],hf⟩,h5,h6.Bn hp hk,h7⟩
 |map kτ vτ es=>
  obtain⟨b,ms,clock,h1,h2,h3,h4,h5,h6,h7⟩:=h;obtain⟨e1,e2,e3⟩:=hb _ _ h1;refine⟨b,ms,clock,hp.ι _ _ h1,e2,e3,by rw[e1,h4],h5,fun i m c hm hc=>?_,h7⟩;obtain⟨a1,a2,a3,a4,a5⟩:=h6 i m c hm hc;exact⟨a1.mono hp.H,a2,a3.Bn hp (by trivial),a4,a5⟩
 |it l pos=>
  obtain⟨b,adr,v,h1,h2,h3,h4,h5,h6,h7⟩:=h;obtain⟨e1,e2,e3⟩:=hb _ _ h1;refine⟨b,adr,v,hp.ι _ _ h1,e2,e3,by rw[e1,h4],h5,h6,?_⟩;rcases h7 with h7|⟨g,cap,g1,g2,g3,g4⟩;{exact .inl h7};{obtain⟨q1,q2⟩:=hk g _ _ g3;exact .inr ⟨g,cap,g1,by rw[q2];exact g2,by rw[q1];exact g3,g4⟩}
 |dead τ=>
  obtain⟨b,h1,h4⟩:=h;obtain⟨e1,e2,e3⟩:=hb _ _ h1;refine⟨b,hp.ι _ _ h1,?_⟩;have:w.heap[b]? =some w.heap[b]:=by simp[h4]
  rw[<-e1]at this;exact(mg.1 this).1
structure GLe (Γ Γ':G):Prop where
 H:Γ.H.le Γ'.H
 Z:Γ'.Z=Γ.Z
 ZH:∀b,Γ.Z b≠none->Γ'.H b=Γ.H b
 g:∀k x,Γ.ι (.g k)=some x->Γ'.ι (.g k)=some x
 gl:Γ'.gl=Γ.gl
 oo:Γ'.oo=Γ.oo
 σ:∀b sz,Γ.σ b=some sz->Γ'.σ b=some sz
 gn:∀k,Γ.ι (.g k)=none->Γ'.ι (.g k)=none
theorem GLe.refl (Γ:G):GLe Γ Γ:=⟨Hp.le_refl _,rfl,fun _ _=>rfl,fun _ _ h=>h,rfl,rfl,fun _ _ h=>h,fun _ h=>h⟩
theorem GLe.trans {a b c:G} (h:GLe a b) (h':GLe b c):GLe a c:=
 ⟨Hp.le_trans h.H h'.H,h'.Z.trans h.Z,fun x hx=>(h'.ZH x (by rw[h.Z];exact hx)).trans (h.ZH x hx),fun k x hk=>h'.g k x (h.g k x hk),h'.gl.trans h.gl,h'.oo.trans h.oo,fun b sz hb=>h'.σ b sz (h.σ b sz hb),fun k hk=>h'.gn k (h.gn k hk)⟩
theorem IK {w:World} {b:Nat} {o:Obj} (h:w.heap[b]? =some o):b<w.heap.size:=(mg.1 h).1
theorem AY.change {Γ Γ':G} {w w':World} {s s':S} (c:AY Γ w s) (hp:Bg Γ Γ') (hZ:Γ'.Z=Γ.Z) (hgl:Γ'.gl=Γ.gl) (hoo:Γ'.oo=Γ.oo) (poo:oof w'=oof w)
  (pH:∀b l,Γ'.H b=some l->∃arr T fr r,w'.heap[b]? =some (.cells arr T fr)/\arr.toList=l++r)
  (pZ:∀b,Γ.Z b≠none->w'.heap[b]? =w.heap[b]?)
  (pκ:∀b o sz,Γ'.κ b=some (o,sz)->Γ.Z b=none/\Γ'.H b≠none/\∃arr T,w'.heap[b]? =some (.cells arr T (0,0))/\arr.size=sz/\MN o T)
  (y0m:∀k o,s'.obj k=some o->(s.obj k=some o/\(o.FL=false->OB Γ Γ' (some k)/\∀b τ,Γ.ι k=some (b,τ)->w'.heap[b]? =w.heap[b]?/\Γ'.H b=none))\/Own Γ' w' k o)
  (pι:∀k,Γ.ι k=none->s.obj k≠none->Γ'.ι k=none)
  (dom:∀k,Γ'.ι k≠none->s'.obj k≠none)
  (pσ:∀b sz,Γ'.σ b=some sz->∃arr T fr,w'.heap[b]? =some (.cells arr T fr)/\arr.size=sz)
  (inj:∀k k' b τ τ',Γ'.ι k=some (b,τ)->Γ'.ι k'=some (b,τ')->k=k'\/((s'.CY k=true\/s'.CY k'=true)/\τ.Mu=true/\τ'.Mu=true))
  (tok:∀t L,s'.live t=some L->∃x,Γ'.τ t=some (x,L)/\∀b pos sz,x=some (b,pos,sz)->(∃l,Γ'.H b=some l/\l.length=pos)/\Γ'.κ b=some (.tok t,sz))
  (yu:∀t,Γ'.τ t≠none->s'.known t=true) (z9v:w.heap.size<=w'.heap.size):AY Γ' w' s':=by
 refine⟨pH,fun b o h=>?_,fun b o sz h=>?_,fun k o h=>?_,dom,inj,tok,yu,fun g τ cc h=>?_,by rw[hoo,poo];exact c.hoo,pσ⟩;{rw[hZ]at h;rw[pZ b (by rw[h];simp)];exact c.hZ b o h};{rw[hZ];exact pκ b o sz h}
 ·rcases y0m k o h with⟨h1,h2⟩|h1
  ·rcases c.obj k o h1 with hn|yp;{exact .inl ⟨pι k hn.1 (by rw[h1];simp),hn.2⟩};refine .inr ?_;cases hd:o.FL with
   |true=>
    cases o <;> simp[O.FL]at hd;obtain⟨b,g1,g2⟩:=yp;exact⟨b,hp.ι _ _ g1,by omega⟩
   |false=>
    obtain⟨h2,h3⟩:=h2 hd;refine yp.Bn hp h2 fun b τ hb=>?_;have hz:Γ.Z b=none:=by
     have:=yp;cases o with
     |box x=>obtain⟨b',_,_,e,_,e2,_⟩:=this;rw[hb]at e;cases e;exact e2
     |map=>obtain⟨b',_,_,e,_,e2,_⟩:=this;rw[hb]at e;cases e;exact e2
     |it=>obtain⟨b',_,_,e,_,e2,_⟩:=this;rw[hb]at e;cases e;exact e2
     |dead=>cases hd
    exact⟨(h3 b τ hb).1,(h3 b τ hb).2,by rw[hZ];exact hz⟩
  ·exact .inr h1
 ·rw[hgl]at h;obtain⟨l,h1,h2,h3⟩:=c.hgl g τ cc h;obtain⟨r,hr⟩:=hp.H g l h1;exact⟨l++r,hr,by simp;omega,by rw[OU _ _ _ _ (by omega)];exact h3.mono hp.H⟩
theorem Own.block {Γ:G} {w:World} {k:Key} {o:O} (h:Own Γ w k o):∃b τ,Γ.ι k=some (b,τ)/\(o.FL=false->Γ.H b=none/\Γ.Z b=none)/\b<w.heap.size/\τ=o.ty:=by
 cases o with
 |box x=>obtain⟨b,cells,T,h1,h2,h3,⟨_,h4,_⟩,_⟩:=h;exact⟨b,_,h1,fun _=>⟨h2,h3⟩,IK h4,rfl⟩
 |map=>obtain⟨b,ms,cl,h1,h2,h3,h4,_⟩:=h;exact⟨b,_,h1,fun _=>⟨h2,h3⟩,IK h4,rfl⟩
 |it=>obtain⟨b,_,_,h1,h2,h3,h4,_⟩:=h;exact⟨b,_,h1,fun _=>⟨h2,h3⟩,IK h4,rfl⟩
 |dead=>obtain⟨b,h1,h4⟩:=h;exact⟨b,_,h1,fun h=>(by cases h),h4,rfl⟩
theorem AY.u4 {Γ:G} {w:World} {s:S} (c:AY Γ w s) {k:Key} {b:Nat} {τ:Ty} (h:Γ.ι k=some (b,τ)):∃o,s.obj k=some o/\(o.FL=false->Γ.H b=none/\Γ.Z b=none)/\b<w.heap.size/\τ=o.ty:=by
 cases ho:s.obj k with
 |none=>exact absurd ho (c.dom k (by rw[h];simp))|some o=>
  rcases c.obj k o ho with hn|yp;{rw[hn.1]at h;cases h};obtain⟨b',τ',h1,h2,h4,h5⟩:=yp.block;rw[h]at h1;cases h1;exact⟨o,rfl,h2,h4,h5⟩
theorem AY.FR {Γ:G} {w:World} {s:S} (c:AY Γ w s) {k:Key} {b:Nat} {τ:Ty} {o:O} (h:Γ.ι k=some (b,τ)) (ho:s.obj k=some o) (hd:o.FL=false):Γ.H b=none/\Γ.Z b=none/\b<w.heap.size/\τ=o.ty:=by obtain⟨o',e,h1,h2,h3⟩:=c.u4 h;rw[ho]at e;cases e;exact⟨(h1 hd).1,(h1 hd).2,h2,h3⟩
theorem AY.own {Γ:G} {w:World} {s:S} (c:AY Γ w s) {k:Key} {o:O} {x:Nat × Ty} (h:Γ.ι k=some x) (ho:s.obj k=some o):Own Γ w k o:=by rcases c.obj k o ho with hn|yp;{rw[hn.1]at h;cases h};{exact yp}
theorem AY.κlt {Γ:G} {w:World} {s:S} (c:AY Γ w s) {b:Nat} (h:Γ.κ b≠none):b<w.heap.size:=by
 cases hk:Γ.κ b with
 |none=>exact absurd hk h|some x=>
  obtain⟨o,sz⟩:=x;obtain⟨_,_,arr,T,h1,_⟩:=c.hκ b o sz hk;exact IK h1
theorem AY.Hlt {Γ:G} {w:World} {s:S} (c:AY Γ w s) {b:Nat} (h:Γ.H b≠none):b<w.heap.size:=by
 cases hk:Γ.H b with
 |none=>exact absurd hk h|some l=>
  obtain⟨arr,T,fr,r,h1,_⟩:=c.hH b l hk;exact IK h1
theorem AY.ZX {Γ:G} {w:World} {s:S} (c:AY Γ w s) {k k':Key} {b:Nat} {τ τ':Ty} (h:Γ.ι k=some (b,τ)) (h':Γ.ι k'=some (b,τ')) (d:s.CY k=false) (d':s.CY k'=false):k=k':=by rcases c.inj k k' b τ τ' h h' with e|⟨e|e,_⟩;{exact e};{rw[d]at e;cases e};{rw[d']at e;cases e}
theorem AY.KI {Γ:G} {w:World} {s s':S} (c:AY Γ w s) (h:∀k,s.CY k=true->s'.CY k=true):∀k k' b τ τ',Γ.ι k=some (b,τ)->Γ.ι k'=some (b,τ')->k=k'\/((s'.CY k=true\/s'.CY k'=true)/\τ.Mu=true/\τ'.Mu=true):=
 fun k k' b τ τ' h1 h2=>(c.inj k k' b τ τ' h1 h2).imp id (And.imp (Or.imp (h k) (h k')) id)
theorem FV {s:S} {k:Key} {o:O} (h:s.obj k=some o):s.CY k=o.FL:=by simp[S.CY,Oa,h]
end
section
def tyF (P:Program):Nat->TypeId->Ty
 |0,T=>.opq (P.cellsOf T)
 |f+1,T=>if T<P.types.size then
   match P.underlying T with
   |some (.int k)=>.int k|some .bool=>.bool|some .string=>.str|some (.slice e)=>.slice (P.bytesOf e) (tyF P f e)|some (.array n e)=>.arr n (tyF P f e)|some (.struct fs)=>.struct (P.cellsOf T) (fs.toList.map (·.offset)) (fs.toList.map fun g=>tyF P f g.type)|some (.pointer _)=>.ptr|some (.map _ _)=>.map|some (.func _ _ _)=>.func|some (.interface _)=>.iface|_=>.opq (P.cellsOf T)
  else .opq (P.cellsOf T)
def ty (P:Program) (T:TypeId):Ty:=tyF P 12 T
def okT (P:Program) (T:TypeId):Bool:=
 match P.underlying T with
 |some (.int _)|some .bool|some .string|some (.pointer _)|some (.map _ _)|some (.func _ _ _)|some (.interface _)=>P.cellsOf T==1|some (.slice e)=>P.cellsOf T==1&&decide (e<P.types.size)|some (.array n e)=>P.cellsOf T==n*P.cellsOf e&&decide (e<P.types.size)|some (.struct fs)=>fs.toList.all fun f=>decide (f.type<P.types.size)&&decide (f.offset+P.cellsOf f.type<=P.cellsOf T)|_=>true
def BS (P:Program):Bool:=(List.range P.types.size).all (okT P)
section
variable {P:Program}
theorem Iz (hP:BS P=true) {T:TypeId} (h:T<P.types.size):okT P T=true:=by unfold BS at hP;exact dv.1 hP T (gp.2 h)
theorem Dq (hP:BS P=true):∀(f:Nat) (T:TypeId),(tyF P f T).size=P.cellsOf T
 |0,T=>rfl|f+1,T=>by
  unfold tyF;split
  ·rename_i hT;have ho:=Iz hP hT;unfold okT at ho;split <;> rename_i hu <;> simp only[hu]at ho <;> simp[Ty.size]at ho ⊢ <;> try omega
   rw[Dq hP f];omega
  ·rfl
theorem Nn (hP:BS P=true) (T:TypeId):(ty P T).size=P.cellsOf T:=Dq hP 12 T
theorem q8y {T:TypeId} {w:World} {τ:Ty} (h:ty P T=τ) (hn:∀s,τ≠.opq s):(isAgg T).run P w= .ok τ.isAgg w:=by
 subst h;unfold isAgg;unfold ty tyF at hn ⊢;split at hn
 ·rename_i hT;rw[if_pos hT];cases hu:P.underlying T with
  |none=>simp[hu]at hn|some d=>
   rw[cz,run_underlying hu];cases d <;> simp[hu]at hn ⊢ <;> simp[Ty.isAgg]
 ·exact absurd rfl (hn _)
theorem run_sizeOf (hP:BS P=true) {T:TypeId} {w:World} (hn:∀s,ty P T≠.opq s):(sizeOf T).run P w= .ok (ty P T).size w:=by
 rw[Nn hP];unfold ty tyF at hn;split at hn
 ·cases hi:P.info? T with
  |none=>
   exfalso;have:P.underlying T=none:=by simp[Program.underlying,hi]
   rw[this]at hn;exact hn _ rfl
  |some i=>simp[sizeOf,typeInfo,hi,iv]
 ·exact absurd rfl (hn _)
theorem fX (hP:BS P=true) {T:TypeId} {sz:Nat} {os:List Nat} {fs:List Ty} (h:ty P T= .struct sz os fs):
  ∃gs,P.underlying T=some (.struct gs)/\os=gs.toList.map (·.offset)/\fs=gs.toList.map (fun g=>tyF P 11 g.type)/\sz=P.cellsOf T/\
   ∀g∈gs.toList,g.type<P.types.size/\g.offset+P.cellsOf g.type<=sz:=by
 unfold ty tyF at h;split at h
 ·rename_i hT;have ho:=Iz hP hT;unfold okT at ho;cases hu:P.underlying T with
  |none=>simp[hu]at h|some d=>
   cases d <;> simp only[hu,reduceCtorEq]at h ho;rename_i gs;injection h with h1 h2 h3;refine⟨gs,rfl,h2.symm,h3.symm,h1.symm,fun g hg=>?_⟩;have:=dv.1 ho g hg;simp at this;exact⟨this.1,h1 ▸ this.2⟩
 ·cases h
theorem QY {T:TypeId} {n:Nat} {e:Ty} (h:ty P T= .arr n e):∃E,P.underlying T=some (.array n E)/\e=tyF P 11 E:=by
 unfold ty tyF at h;split at h
 ·cases hu:P.underlying T with
  |none=>simp[hu]at h|some d=>
   cases d <;> simp only[hu,reduceCtorEq]at h;injection h with h1 h2;exact⟨_,by rw[h1],h2.symm⟩
 ·cases h
theorem Ie (hP:BS P=true) {T:TypeId} {eb:Nat} {e:Ty} (h:ty P T= .slice eb e):
  ∃E,P.underlying T=some (.slice E)/\e=tyF P 11 E/\eb=P.bytesOf E/\E<P.types.size:=by
 unfold ty tyF at h;split at h
 ·rename_i hT;have ho:=Iz hP hT;unfold okT at ho;cases hu:P.underlying T with
  |none=>simp[hu]at h|some d=>
   cases d <;> simp only[hu,reduceCtorEq]at h ho;injection h with h1 h2;simp at ho;exact⟨_,rfl,h2.symm,h1.symm,ho.2⟩
 ·cases h
theorem zV {T:TypeId} {k:IntKind} (h:ty P T= .int k):P.underlying T=some (.int k):=by unfold ty tyF at h;split at h;{cases hu:P.underlying T with|none=>simp[hu]at h|some d=>cases d <;> simp[hu]at h ⊢ <;> exact h};{cases h}
theorem z0a {T:TypeId} (h:ty P T= .bool):P.underlying T=some .bool:=by unfold ty tyF at h;split at h;{cases hu:P.underlying T with|none=>simp[hu]at h|some d=>cases d <;> simp[hu]at h ⊢};{cases h}
theorem Kk {T:TypeId} (h:ty P T= .str):P.underlying T=some .string:=by unfold ty tyF at h;split at h;{cases hu:P.underlying T with|none=>simp[hu]at h|some d=>cases d <;> simp[hu]at h ⊢};{cases h}
theorem z0b {T:TypeId} (h:ty P T= .ptr):∃e,P.underlying T=some (.pointer e):=by unfold ty tyF at h;split at h;{cases hu:P.underlying T with|none=>simp[hu]at h|some d=>cases d <;> simp[hu]at h ⊢};{cases h}
theorem JD (hP:BS P=true) {f:Nat} {E:TypeId} {w:World} (hE:E<P.types.size):(sizeOf E).run P w= .ok (tyF P f E).size w:=by
 rw[Dq hP];cases hi:P.info? E with
 |none=>simp[uo,hE]at hi|some i=>simp[sizeOf,typeInfo,hi,iv]
end
end
section
def Ty.get:Ty->Nat->Ty
 | .struct _ _ fs,i=>fs.getD i (.opq 0)| .arr _ e,_=>e| .slice _ e,_=>e|_,_=>.opq 0
def C.get:C->Nat->C
 | .agg cs,i=>cs.getD i .nil| .slice cs,i=>cs.getD i .nil|_,_=>.nil
def C.elems:C->List C
 | .slice cs=>cs| .agg cs=>cs|_=>[]
def C.toInt:C->Int
 | .int n=>n|_=>0
def C.toBool:C->Bool
 | .bool b=>b|_=>false
def C.toStr:C->List UInt8
 | .str l=>l|_=>[]
def V.get:V->Nat->V
 | .d τ c,i=>.d (τ.get i) (c.get i)| .agg _ vs,i=>vs.getD i .any|_,_=>.any
def V.at:V->List Nat->V
 |x,[]=>x|x,i::q=>(x.get i).at q
def V.toInt:V->Int
 | .d _ c=>c.toInt|_=>0
def V.toBool:V->Bool
 | .d _ c=>c.toBool|_=>false
def V.toStr:V->List UInt8
 | .d _ c=>c.toStr|_=>[]
def V.isInt (k:IntKind):V->Prop
 | .d τ _=>τ= .int k|_=>False
def V.isBool:V->Prop
 | .d τ _=>τ= .bool|_=>False
def V.isStr:V->Prop
 | .d τ _=>τ= .str|_=>False
def Ty.known:Ty->Bool
 | .opq _=>false|_=>true
theorem Ty.size_leaf {τ:Ty} (hk:τ.known=true) (ha:τ.isAgg=false):τ.size=1:=by cases τ <;> simp_all[Ty.known,Ty.isAgg,Ty.size]
section
variable {Γ:G} {hm:Option Key}
theorem Dx.single {v:Value} (h:v.oneCell'=true):Dx [v]:=by intro u hu;simp at hu;subst hu;exact h
theorem AA.one {p:List Nat} {x:V} {vs:List Value} (h:AA Γ hm p x vs) (hx:x.plain=true):Dx vs:=by
 cases x <;> simp only[AA]at h <;> simp only[V.plain,fq]at hx
 case d τ c=>exact h.one
 case agg=>exact h.2.1
 case top=>exact h.2.1
 case ptr=>obtain⟨b,τ0,o,_,_,rfl⟩:=h;exact .single rfl
 case yf=>obtain⟨b,off,l,rfl,_⟩:=h;exact .single rfl
 case sl=>obtain⟨a,n,cap,rfl,_⟩:=h;exact .single rfl
 case ts=>obtain⟨a,n,cap,k,_,rfl,_⟩:=h;exact .single rfl
 case sr=>rcases h with⟨_,_,a,rfl⟩|⟨b,τ0,o,m,cap,_,_,_,⟨a,rfl,_⟩,_⟩ <;> exact .single rfl
 case mp=>obtain⟨b,_,rfl⟩:=h;exact .single rfl
 case fn=>obtain⟨cv,rfl,_⟩:=h;exact .single rfl
 case emp=>obtain⟨a,rfl⟩:=h;exact .single rfl
 case ye=>subst h;exact .single rfl
theorem AA.length {p:List Nat} {x:V} {vs:List Value} (h:AA Γ hm p x vs) (hx:x.plain=true):vs.length=x.ty.size:=by
 cases x <;> simp only[AA]at h <;> simp only[V.plain,fq]at hx
 case d τ c=>simpa[V.ty]using h.length
 case agg=>simpa[V.ty,Ty.size]using h.1
 case top=>simpa[V.ty]using h.1
 case ptr=>obtain⟨b,τ0,o,_,_,rfl⟩:=h;simp[V.ty,Ty.size]
 case yf=>obtain⟨b,off,l,rfl,_⟩:=h;simp[V.ty,Ty.size]
 case sl=>obtain⟨a,n,cap,rfl,_⟩:=h;simp[V.ty,Ty.size]
 case ts=>obtain⟨a,n,cap,k,_,rfl,_⟩:=h;simp[V.ty,Ty.size]
 case sr=>rcases h with⟨_,_,a,rfl⟩|⟨b,τ0,o,m,cap,_,_,_,⟨a,rfl,_⟩,_⟩ <;> simp[V.ty,Ty.size]
 case mp=>obtain⟨b,_,rfl⟩:=h;simp[V.ty,Ty.size]
 case fn=>obtain⟨cv,rfl,_⟩:=h;simp[V.ty,Ty.size]
 case emp=>obtain⟨a,rfl⟩:=h;simp[V.ty,Ty.size]
 case ye=>subst h;simp[V.ty,Ty.size]
theorem Ag.get {p:List Nat} {τ:Ty}:∀{xs:List V} {i0:Nat} {vs:List Value} {i:Nat} {x:V},Ag Γ hm p i0 τ xs vs->xs[i]? =some x->
  ∃o f,τ.child (i0+i)=some (o,f)/\x.ty=f/\o+f.size<=vs.length/\AA Γ hm (p++[i0+i]) x (chunk vs o f.size)
 | [],_,_,_,_,_,h=>by simp at h
 |y::xs,i0,vs,0,x,r,h=>by simp only[Ag]at r;simp at h;subst h;exact r.1
 |y::xs,i0,vs,i+1,x,r,h=>by simp only[Ag]at r;have:=Ag.get r.2 (show xs[i]? =some x by simpa using h);rw[show i0+(i+1)=i0+1+i by omega];exact this
theorem Ty.Qn {τ:Ty} {i o:Nat} {f:Ty} (h:τ.child i=some (o,f)):τ.get i=f:=by
 cases τ <;> simp only[Ty.child,reduceCtorEq]at h
 case arr n e=>split at h <;> simp at h;exact h.2
 case struct sz os fs=>
  cases ho:os[i]? with
  |none=>simp[ho]at h|some o'=>
   cases hf:fs[i]? with
   |none=>simp[ho,hf]at h|some f'=>simp[ho,hf]at h;simp[Ty.get,bt,hf,h.2]
theorem AU.get {H:Hp} {τ f:Ty} {vs:List Value} {c:C} {i o:Nat} (h:AU H τ vs c) (hc:τ.child i=some (o,f)):
  τ.get i=f/\o+f.size<=vs.length/\AU H f (chunk vs o f.size) (c.get i):=by
 cases τ <;> simp only[Ty.child,reduceCtorEq]at hc
 case arr n e=>
  split at hc <;> simp at hc;rename_i hi;obtain⟨rfl,rfl⟩:=hc;simp only[AU]at h;obtain⟨cs,rfl,h1,h2,h3,h4⟩:=h;have hlt:i<cs.length:=by omega
  refine⟨rfl,?_,?_⟩;{rw[h2];have:(i+1)*e.size<=n*e.size:=cf _ (by omega);rw[da]at this;omega};{have:=h4 i cs[i] (bo hlt);simpa[C.get,bt,bo hlt]using this}
 case struct sz os fs=>
  simp only[AU]at h;obtain⟨cs,rfl,h1,h2,h3⟩:=h;cases ho:os[i]? with
  |none=>simp[ho]at hc|some o'=>
   cases hf:fs[i]? with
   |none=>simp[ho,hf]at hc|some f'=>
    simp[ho,hf]at hc;obtain⟨rfl,rfl⟩:=hc;obtain⟨o2,c,a,b,d,r⟩:=h3.get hf;rw[ho]at a;cases a;exact⟨by simp[Ty.get,bt,hf],d,by simpa[C.get,bt,b]using r⟩
theorem AA.get {p:List Nat} {x:V} {f:Ty} {vs:List Value} {i o:Nat} (h:AA Γ hm p x vs) (hc:x.ty.child i=some (o,f)) (hx:x.get i≠.any):
  (x.get i).ty=f/\o+f.size<=vs.length/\AA Γ hm (p++[i]) (x.get i) (chunk vs o f.size):=by
 cases x <;> simp only[V.get,ne_eq,not_true_eq_false]at hx
 case d τ c=>
  simp only[AA]at h;simp only[V.ty]at hc;obtain⟨h1,h2,h3⟩:=h.get hc;subst h1;exact⟨by simp[V.get,V.ty],h2,by simp only[V.get,AA];exact h3⟩
 case agg τ xs=>
  simp only[AA]at h;obtain⟨_,_,_,_,h3⟩:=h;cases hi:xs[i]? with
  |none=>simp[bt,hi]at hx|some y=>
   obtain⟨o',f',a,b,d,r⟩:=h3.get hi;simp only[V.ty]at hc;rw[Nat.zero_add,hc]at a;cases a;have hg:(V.agg τ xs).get i=y:=by simp[V.get,bt,hi]
   rw[hg];exact⟨b,d,by simpa using r⟩
theorem V.Ql:∀q,V.at .any q= .any
 | []=>rfl|i::q=>by simp only[V.at,V.get];exact V.Ql q
theorem V.Sa {p:List Nat} {x:V} {vs:List Value} (h:AA Γ hm p x vs) (hx:x≠.any):x.plain=true:=by cases x <;> simp_all[V.plain,AA]
theorem AA.at_:∀{q:List Nat} {p:List Nat} {x:V} {τ:Ty} {vs:List Value} {o:Nat},AA Γ hm p x vs->x.ty.walk q=some (o,τ)->x.at q≠.any->
  x.plain=true->(x.at q).ty=τ/\o+τ.size<=vs.length/\AA Γ hm (p++q) (x.at q) (chunk vs o τ.size)
 | [],p,x,τ,vs,o,h,hw,_,hp=>by simp[Ty.walk]at hw;obtain⟨rfl,rfl⟩:=hw;have hl:=h.length hp;refine⟨by simp[V.at],by omega,?_⟩;simp only[V.at,List.append_nil];rw[<-hl,MW];exact h
 |i::q,p,x,τ,vs,o,h,hw,hx,hp=>by
  simp only[Ty.walk]at hw;cases hc:x.ty.child i with
  |none=>simp[hc]at hw|some of=>
   obtain⟨o1,f⟩:=of;simp only[hc]at hw;cases hw2:f.walk q with
   |none=>simp[hw2]at hw|some ot=>
    obtain⟨o2,t⟩:=ot;simp only[hw2,ee,fw]at hw;obtain⟨rfl,rfl⟩:=hw;have hne:x.get i≠.any:=by intro e;apply hx;simp only[V.at,e];exact V.Ql q
    obtain⟨h1,h2,h3⟩:=h.get hc hne;obtain⟨h4,h5,h6⟩:=AA.at_ (q:=q) h3 (h1 ▸ hw2) (by simpa[V.at]using hx) (V.Sa h3 hne);have hlen:(chunk vs o1 f.size).length=f.size:=Ek _ _ _ h2;rw[hlen]at h5;refine⟨h4,by omega,?_⟩;rw[FB _ _ _ _ _ h5]at h6;simpa[V.at]using h6
end
end
section
section
variable {Γ:G}
theorem DX {v:Value} (h:Bi v=false):v.cells.toList=[v]:=by cases v <;> simp_all[Bi,ek]
theorem EA {τ:Ty} {c:C} {v:Value}:AK Γ (.d τ c) v↔AU Γ.H τ v.cells.toList c/\Bi v=τ.isAgg:=by simp[AK,AA,V.ty]
theorem EU {k:IntKind} {c:C} {v:Value} (h:AK Γ (.d (.int k) c) v):v= .int k c.toInt/\c= .int c.toInt/\k.min<=c.toInt/\c.toInt<=k.max:=by obtain⟨h1,h2⟩:=EA.1 h;rw[DX (by simpa[Ty.isAgg]using h2)]at h1;simp only[AU]at h1;obtain⟨n,rfl,hv,h3⟩:=h1;simp at hv;exact⟨hv,rfl,h3⟩
theorem EB {k:IntKind} {n:Int} (h1:k.min<=n) (h2:n<=k.max):AK Γ (.d (.int k) (.int n)) (.int k n):=
 EA.2 ⟨by simp only[AU];exact⟨n,rfl,by simp[ek],h1,h2⟩,rfl⟩
theorem GL {c:C} {v:Value} (h:AK Γ (.d .bool c) v):v= .bool c.toBool/\c= .bool c.toBool:=by obtain⟨h1,h2⟩:=EA.1 h;rw[DX (by simpa[Ty.isAgg]using h2)]at h1;simp only[AU]at h1;obtain⟨n,rfl,hv⟩:=h1;simp at hv;exact⟨hv,rfl⟩
theorem Dn {b:Bool}:AK Γ (.d .bool (.bool b)) (.bool b):=
 EA.2 ⟨by simp only[AU];exact⟨b,rfl,by simp[ek]⟩,rfl⟩
theorem IQ {c:C} {v:Value} (h:AK Γ (.d .str c) v):v= .string ⟨c.toStr.toArray⟩/\c= .str c.toStr/\c.toStr.length<=140737488355328:=by obtain⟨h1,h2⟩:=EA.1 h;rw[DX (by simpa[Ty.isAgg]using h2)]at h1;simp only[AU]at h1;obtain⟨n,rfl,hv,h3⟩:=h1;simp at hv;exact⟨hv,rfl,h3⟩
theorem TE {l:List UInt8} (h:l.length<=140737488355328):AK Γ (.d .str (.str l)) (.string ⟨l.toArray⟩):=
 EA.2 ⟨by simp only[AU];exact⟨l,rfl,by simp[ek],h⟩,rfl⟩
theorem Ca {x:V} {v:Value} (hx:x.plain=true):AK Γ x v↔AA Γ none [] x v.cells.toList/\Bi v=x.ty.isAgg:=by cases x <;> simp[V.plain]at hx <;> simp[AK]
theorem HF {k:Key} {q:List Nat} {τ:Ty} {v:Value} (h:AK Γ (.ptr k q τ) v):
  ∃b τ0 o,Γ.ι k=some (b,τ0)/\τ0.walk q=some (o,τ)/\v= .pointer (some ⟨b,o,none⟩):=by
 obtain⟨h1,h2⟩:=(Ca rfl).1 h;rw[DX (by simpa[V.ty,Ty.isAgg]using h2)]at h1;simp only[AA]at h1;obtain⟨b,τ0,o,a,c,d⟩:=h1;exact⟨b,τ0,o,a,c,by simpa using d⟩
theorem QK {k:Key} {q:List Nat} {τ τ0:Ty} {b o:Nat} (h1:Γ.ι k=some (b,τ0)) (h2:τ0.walk q=some (o,τ)):
  AK Γ (.ptr k q τ) (.pointer (some ⟨b,o,none⟩)):=
 (Ca rfl).2 ⟨by simp only[AA];exact⟨b,τ0,o,h1,h2,by simp[ek]⟩,by simp[V.ty,Ty.isAgg,Bi]⟩
theorem TC {τ:Ty} {c:C} {v:Value} (h:AK Γ (.yf τ c) v):
  ∃b off l,v= .pointer (some ⟨b,off,none⟩)/\Γ.H b=some l/\off+τ.size<=l.length/\AU Γ.H τ (chunk l off τ.size) c:=by
 obtain⟨h1,h2⟩:=(Ca rfl).1 h;rw[DX (by simpa[V.ty,Ty.isAgg]using h2)]at h1;simp only[AA]at h1;obtain⟨b,off,l,a,c,d⟩:=h1;exact⟨b,off,l,by simpa using a,c,d⟩
theorem Nc {τ:Ty} {c:C} {b off:Nat} {l:List Value} (h1:Γ.H b=some l) (h2:off+τ.size<=l.length) (h3:AU Γ.H τ (chunk l off τ.size) c):
  AK Γ (.yf τ c) (.pointer (some ⟨b,off,none⟩)):=
 (Ca rfl).2 ⟨by simp only[AA];exact⟨b,off,l,by simp[ek],h1,h2,h3⟩,by simp[V.ty,Ty.isAgg,Bi]⟩
theorem Ch {x:V} {v:Value} (hx:x.plain=true) (ha:x.ty.isAgg=false):AK Γ x v↔AA Γ none [] x [v]/\Bi v=false:=by rw[Ca hx,ha];constructor;{rintro⟨h1,h2⟩;rw[DX h2]at h1;exact⟨h1,h2⟩};{rintro⟨h1,h2⟩;rw[DX h2];exact⟨h1,h2⟩}
end
def gW (P:Program) (ρ:Operand->Value) (o:Oper) (Γ:G) (w:World) (x:V):Prop:=
 ∃v,(execOp ρ o).run P w= .ok (.value v) w/\AK Γ x v
def ED (P:Program) (ρa:Operand->V) (o:Oper) (x:V):Prop:=
 ∀(Γ:G) (w:World) (ρ:Operand->Value),(∀y∈o.op.operands,AK Γ (ρa y) (ρ y))->gW P ρ o Γ w x
def BV (op:BinOp) (k:IntKind) (x y:Int):Int:=
 let a:=dx k.bits x
 let b:=dx k.bits y
 match op with
 | .and=>k.wrap (a&&&b).toNat| .or=>k.wrap (a|||b).toNat| .xor=>k.wrap (a^^^b).toNat| .andNot=>k.wrap (a&&& ~~~b).toNat|_=>0
def KJ (op:BinOp) (k:IntKind) (a b:Int) (K:V->Prop):Prop:=
 match op with
 | .add=>K (.d (.int k) (.int (k.wrap (a+b))))| .sub=>K (.d (.int k) (.int (k.wrap (a-b))))| .mul=>K (.d (.int k) (.int (k.wrap (a*b))))| .quo=>b≠0/\K (.d (.int k) (.int (k.wrap (a.tdiv b))))| .rem=>b≠0/\K (.d (.int k) (.int (a.tmod b)))| .and| .or| .xor| .andNot=>K (.d (.int k) (.int (BV op k a b)))| .eql=>K (.d .bool (.bool (decide (a=b))))| .neq=>K (.d .bool (.bool (!decide (a=b))))| .lss=>K (.d .bool (.bool (decide (a<b))))| .leq=>K (.d .bool (.bool (decide (a<=b))))| .gtr=>K (.d .bool (.bool (decide (b<a))))| .geq=>K (.d .bool (.bool (decide (b<=a))))|_=>False
def MB (op:BinOp) (a b:List UInt8) (K:V->Prop):Prop:=
 match op with
 | .add=>a.length+b.length<=140737488355328/\K (.d .str (.str (a++b)))| .eql=>K (.d .bool (.bool (a==b)))| .neq=>K (.d .bool (.bool (!(a==b))))| .lss=>K (.d .bool (.bool (lx a b)))| .leq=>K (.d .bool (.bool (lx a b||a==b)))| .gtr=>K (.d .bool (.bool (!(lx a b||a==b))))| .geq=>K (.d .bool (.bool (!lx a b)))|_=>False
def C.eqb (a b:C):Bool:=@decide (a=b) (Classical.propDecidable _)
theorem C.Gu {a b:C}:C.eqb a b=true↔a=b:=by simp[C.eqb]
def GV (P:Program):Nat->TypeId->Bool
 |0,_=>false
 |f+1,T=>decide (T<P.types.size)&&(match P.underlying T with
  |some (.int _)|some .bool|some .string=>true|some (.array _ e)=>GV P f e
  |some (.struct fs)=> !P.stoodInHeld T&&fs.toList.all fun g=>g.name != "_" &&GV P f g.type
  |_=>false)
def Cr (P:Program) (T:TypeId):Bool:=GV P 12 T&& !P.eqGuardType P.depth T
def JN (op:BinOp) (b:Bool) (K:V->Prop):Prop:=
 match op with
 | .eql=>K (.d .bool (.bool b))| .neq=>K (.d .bool (.bool (!b)))|_=>False
def V.Dr (τ:Ty):V->Prop
 | .d τ' _=>τ'=τ|_=>False
def V.toC:V->C
 | .d _ c=>c|_=>.nil
def V.Hv:V->Option Bool
 | .ptr _ _ _| .yf _ _=>some false| .d .ptr .nil=>some true|_=>none
def V.SK:V->Option (Option Bool)
 | .ye=>some (some true)| .emp _ _=>some none| .d τ c=>(match τ with| .slice _ _=>some (bif c.elems.isEmpty then none else some false)|_=>none)| .sl _ _ cs _=>some (bif cs.isEmpty then none else some false)| .sr _ _ _ n _ _ _=>some (bif n==0 then none else some false)|_=>none
def Iy:Option Bool->V
 |some b=>.d .bool (.bool b)|none=>.top .bool
def Ni (op:BinOp) (k:IntKind) (a b:Int) (K:V->Prop):Prop:=
 match op with
 | .shl=>0<=b/\K (.d (.int k) (.int (k.wrap (a*2^(min b.toNat k.bits)))))| .shr=>0<=b/\K (.d (.int k) (.int (a.fdiv (2^(min b.toNat k.bits)))))|_=>False
def BinOp.LU:BinOp->Bool
 | .shl| .shr=>true|_=>false
def V.Fv:V->Prop
 | .d (.int _) _=>True|_=>False
def Pp (P:Program) (op:BinOp) (T:TypeId) (x y:V) (K:V->Prop):Prop:=
 match ty P T with
 | .int k=>x.isInt k/\(if BinOp.LU op then y.Fv/\Ni op k x.toInt y.toInt K else y.isInt k/\KJ op k x.toInt y.toInt K)| .bool=>x.isBool/\y.isBool/\(match op with| .eql=>K (.d .bool (.bool (x.toBool==y.toBool)))| .neq=>K (.d .bool (.bool (!(x.toBool==y.toBool))))|_=>False)| .str=>x.isStr/\y.isStr/\MB op x.toStr y.toStr K| .ptr=>(match op,x.Hv,y.Hv with| .eql,some a,some true=>K (.d .bool (.bool a))| .neq,some a,some true=>K (.d .bool (.bool (!a)))| .eql,some true,some b=>K (.d .bool (.bool b))| .neq,some true,some b=>K (.d .bool (.bool (!b)))|_,_,_=>False)| .arr n e=>Cr P T=true/\x.Dr (.arr n e)/\y.Dr (.arr n e)/\JN op (C.eqb x.toC y.toC) K| .struct sz os fs=>Cr P T=true/\x.Dr (.struct sz os fs)/\y.Dr (.struct sz os fs)/\JN op (C.eqb x.toC y.toC) K| .slice _ _=>(match op,x.SK,y with| .eql,some r,.ye=>K (Iy r)| .neq,some r,.ye=>K (Iy (r.map (!·)))|_,_,_=>False)|_=>False
section
variable {P:Program}
theorem zP {a b:Int} (h:0<=a):a.tmod b<=a:=by
 obtain⟨n,rfl⟩:=Int.eq_ofNat_of_zero_le h;cases b with
 |ofNat m=>exact Int.ofNat_le.2 (Nat.mod_le n m)|negSucc m=>exact Int.ofNat_le.2 (Nat.mod_le n (m+1))
theorem JJ {k:IntKind} {a b:Int} (h1:k.min<=a) (h2:a<=k.max):k.min<=a.tmod b/\a.tmod b<=k.max:=by
 have hm:k.min<=0/\0<=k.max:=by cases k <;> decide
 rcases Int.lt_or_le a 0 with h|h;{have h3:(-a).tmod b= -(a.tmod b):=Int.neg_tmod a b;have h4:0<=(-a).tmod b:=wy b (by omega);have h5:(-a).tmod b<=-a:=zP (by omega);omega};{have h4:0<=a.tmod b:=wy b h;have h5:a.tmod b<=a:=zP h;omega}
theorem V.PN {k:IntKind} {x:V} (h:x.isInt k):∃c,x= .d (.int k) c:=by cases x <;> simp[V.isInt]at h;subst h;exact⟨_,rfl⟩
theorem V.VF {x:V} (h:x.isBool):∃c,x= .d .bool c:=by cases x <;> simp[V.isBool]at h;subst h;exact⟨_,rfl⟩
theorem V.Mv {x:V} (h:x.isStr):∃c,x= .d .str c:=by cases x <;> simp[V.isStr]at h;subst h;exact⟨_,rfl⟩
theorem kT (a b:Int):(a==b)=decide (a=b):=by by_cases h:a=b <;> simp[h]
theorem q2I {op:BinOp} {k:IntKind} {a b:Int} {K:V->Prop} (hs:BinOp.LU op=false) (h:KJ op k a b K)
  (T:TypeId) (ha:k.min<=a/\a<=k.max):
  ∃x,K x/\∀Γ w,∃v,(binOp op T (.int k a) (.int k b)).run P w= .ok v w/\AK Γ x v:=by
 cases op <;> simp only[KJ]at h <;> (try (simp[BinOp.LU]at hs;done))
 case add=>exact⟨_,h,fun Γ w=>⟨_,by simp[binOp,sy],EB (wrap_within k _).1 (wrap_within k _).2⟩⟩
 case sub=>exact⟨_,h,fun Γ w=>⟨_,by simp[binOp,sy],EB (wrap_within k _).1 (wrap_within k _).2⟩⟩
 case mul=>exact⟨_,h,fun Γ w=>⟨_,by simp[binOp,sy],EB (wrap_within k _).1 (wrap_within k _).2⟩⟩
 case quo=>exact⟨_,h.2,fun Γ w=>⟨_,by simp[binOp,Op.intDiv,h.1],EB (wrap_within k _).1 (wrap_within k _).2⟩⟩
 case rem=>exact⟨_,h.2,fun Γ w=>⟨_,by simp[binOp,Op.intDiv,h.1],EB (JJ ha.1 ha.2).1 (JJ ha.1 ha.2).2⟩⟩
 case and=>exact⟨_,h,fun Γ w=>⟨_,by simp only[binOp,ne_eq,not_true_eq_false,if_false,ug];rfl,EB (wrap_within k _).1 (wrap_within k _).2⟩⟩
 case or=>exact⟨_,h,fun Γ w=>⟨_,by simp only[binOp,ne_eq,not_true_eq_false,if_false,ug];rfl,EB (wrap_within k _).1 (wrap_within k _).2⟩⟩
 case xor=>exact⟨_,h,fun Γ w=>⟨_,by simp only[binOp,ne_eq,not_true_eq_false,if_false,ug];rfl,EB (wrap_within k _).1 (wrap_within k _).2⟩⟩
 case andNot=>exact⟨_,h,fun Γ w=>⟨_,by simp only[binOp,ne_eq,not_true_eq_false,if_false,ug];rfl,EB (wrap_within k _).1 (wrap_within k _).2⟩⟩
 case eql=>exact⟨_,h,fun Γ w=>⟨_,by simp[binOp,qm,kT],Dn⟩⟩
 case neq=>exact⟨_,h,fun Γ w=>⟨_,by simp[binOp,qm,bne,kT],Dn⟩⟩
 case lss=>exact⟨_,h,fun Γ w=>⟨_,by simp[binOp,qm],Dn⟩⟩
 case leq=>exact⟨_,h,fun Γ w=>⟨_,by simp[binOp,qm],Dn⟩⟩
 case gtr=>exact⟨_,h,fun Γ w=>⟨_,by simp[binOp,qm],Dn⟩⟩
 case geq=>exact⟨_,h,fun Γ w=>⟨_,by simp[binOp,qm],Dn⟩⟩
end
end
section
def DA:Option V->Int->Option Int
 |none,n=>some n|some x,_=>match x with| .d (.int _) c=>some c.toInt|_=>none
def V.Fk:V->Option (Nat × Ty × List C)
 | .d τ c=>match τ with| .slice eb e=>some (eb,e,c.elems)|_=>none
 | .sl eb e cs _=>some (eb,e,cs)| .emp eb e=>some (eb,e,[])|_=>none
def WJ (P:Program) (T:TypeId):Option (Nat × Nat × Ty):=match P.underlying T with|some (.pointer A)=>(match P.underlying A with|some (.array n E)=>if A<P.types.size then some (n,P.bytesOf E,tyF P 11 E)else none|_=>none)|some (.array n E)=>if T<P.types.size then some (n,P.bytesOf E,tyF P 11 E)else none|_=>none
def cut (cs:List C) (l h:Int):List C:=(cs.take h.toNat).drop l.toNat
def Pt (P:Program) (T:TypeId) (x:V) (lo hi mx:Option V) (K:V->Prop):Prop:=
 match ty P T with
 | .str=>x.isStr/\mx=none/\(match DA lo 0,DA hi x.toStr.length with|some l,some h=>0<=l/\l<=h/\h<=x.toStr.length/\K (.d .str (.str ((x.toStr.take h.toNat).drop l.toNat)))|_,_=>False)
 | .slice eb e=>(match x with
   | .sr k q lo0 n cp eb' e'=>eb'=eb/\e'=e/\(match DA lo 0,DA hi n,mx with|some l,some h,none=>0<=l/\l<=h/\h<=n/\K (.sr k q (lo0+l.toNat) (h-l).toNat (cp.map (· -l.toNat)) eb e)|some l,some h,some m=>hi.isSome=true/\(match DA (some m) 0 with|some m=>0<=l/\l=h/\h=m/\m<=n/\K (.emp eb e)|none=>False)|_,_,_=>False)
   |x=>(match x.Fk with|some (eb',e',cs)=>eb'=eb/\e'=e/\(match DA lo 0,DA hi cs.length,mx with|some l,some h,none=>0<=l/\l<=h/\h<=cs.length/\K (.d (.slice eb e) (.slice (cut cs l h)))|some l,some h,some m=>hi.isSome=true/\(match DA (some m) 0 with|some m=>0<=l/\l=h/\h=m/\m<=cs.length/\K (.emp eb e)|none=>False)|_,_,_=>False)|none=>False))
 |_=>(match WJ P T with|some (n,eb,e)=>n*eb<=140737488355328/\n<=maxLen/\mx=none/\(match DA lo 0,DA hi n with|some l,some h=>0<=l/\l<=h/\h<=n/\(match x with| .ptr k q τ=>τ= .arr n e/\K (.sr k q l.toNat (h-l).toNat (some (n-l.toNat)) eb e)| .yf τ c=>τ= .arr n e/\K (.d (.slice eb e) (.slice (cut c.elems l h)))|_=>False)|_,_=>False)|none=>False)
def Ps (P:Program) (T:TypeId) (x:V) (K:V->Prop):Prop:=
 match ty P T,x with
 | .str,.d τ c=>τ= .str/\K (.d (.int .i64) (.int c.toStr.length))| .slice _ _,.ye=>K (.d (.int .i64) (.int 0))| .slice _ _,.sr _ _ _ n _ _ _=>K (.d (.int .i64) (.int n))| .slice eb e,x=>(match x.Fk with|some (eb',e',cs)=>eb'=eb/\e'=e/\K (.d (.int .i64) (.int cs.length))|none=>False)| .arr n _,_=>(n:Int)<=9223372036854775807/\K (.d (.int .i64) (.int n))|_,_=>False
def Pr (P:Program) (T:TypeId) (x i:V) (K:V->Prop):Prop:=
 i.Fv/\
 match ty P T,x with
 | .slice eb e,.sr k q lo n _ eb' e'=>eb'=eb/\e'=e/\0<=i.toInt/\i.toInt<n/\K (.ptr k (q++[lo+i.toInt.toNat]) e)| .slice eb e,x=>(match x.Fk with|some (eb',e',cs)=>eb'=eb/\e'=e/\0<=i.toInt/\i.toInt<cs.length/\K (.yf e (cs.getD i.toInt.toNat .nil))|none=>False)| .arr n e,.ptr k q τ=>τ= .arr n e/\0<=i.toInt/\i.toInt<n/\K (.ptr k (q++[i.toInt.toNat]) e)| .arr n e,.yf τ c=>τ= .arr n e/\0<=i.toInt/\i.toInt<n/\K (.yf e (c.get i.toInt.toNat))|_,_=>False
def Ty.DF:Ty->Bool
 | .struct _ _ _=>true|_=>false
def Pq (P:Program) (T:TypeId) (x:V) (i:Nat) (K:V->Prop):Prop:=
 match x with
 | .ptr k q τ=>τ=ty P T/\τ.DF=true/\(τ.child i).isSome=true/\(τ.get i).size≠0/\K (.ptr k (q++[i]) (τ.get i))| .yf τ c=>τ=ty P T/\τ.DF=true/\(τ.child i).isSome=true/\(τ.get i).size≠0/\K (.yf (τ.get i) (c.get i))|_=>False
def Sg (P:Program) (op:UnOp) (T:TypeId) (x:V) (K:V->Prop):Prop:=
 match ty P T,op with
 | .bool,.not=>x.isBool/\K (.d .bool (.bool (!x.toBool)))| .int k,.neg=>x.isInt k/\K (.d (.int k) (.int (k.wrap (0-x.toInt))))|_,_=>False
def NU (P:Program) (src dst:TypeId) (x:V) (K:V->Prop):Prop:=
 match ty P src,ty P dst with
 | .int k,.int k2=>x.isInt k/\K (.d (.int k2) (.int (k2.wrap x.toInt)))| .str,.str=>x.isStr/\K x|_,_=>False
def Sf (P:Program) (b:Builtin) (ts:Array TypeId) (xs:List V) (K:V->Prop):Prop:=
 match b,xs with
 | .len,[x]=>0<ts.size/\Ps P (ts.getD 0 0) x K| .min,[x,y]=>(match x with| .d (.int k) _=>y.isInt k/\K (.d (.int k) (.int (if y.toInt<x.toInt then y.toInt else x.toInt)))|_=>False)| .max,[x,y]=>(match x with| .d (.int k) _=>y.isInt k/\K (.d (.int k) (.int (if x.toInt<y.toInt then y.toInt else x.toInt)))|_=>False)|_,_=>False
theorem Ii (b o n:Nat):(⟨b,o,none⟩:Addr).add n=⟨b,o+n,none⟩:=by unfold Addr.add;split <;> simp_all
section
variable {Γ:G}
theorem JC {H:Hp} {eb:Nat} {e:Ty} {vs:List Value} {c:C} (h:AU H (.slice eb e) vs c):
  ∃a n cap,vs=[.slice a n cap]/\c= .slice c.elems/\c.elems.length=n/\n<=cap/\cap<=maxLen/\n*eb<=140737488355328/\
   (n=0\/∃b off l,a=some ⟨b,off,none⟩/\H b=some l/\off+n*e.size<=l.length/\
    ∀i c',c.elems[i]? =some c'->AU H e (chunk l (off+i*e.size) e.size) c'):=by
 simp only[AU]at h;obtain⟨a,n,cap,cs,rfl,rfl,h1,h2,h3,h4,h5⟩:=h;exact⟨a,n,cap,rfl,rfl,h1,h2,h3,h4,h5⟩
theorem Eg {H:Hp} {eb:Nat} {e:Ty} {cs:List C} {a:Option Addr} {n cap:Nat} (h1:cs.length=n) (h2:n<=cap) (h3:cap<=maxLen)
  (h4:n*eb<=140737488355328) (h5:n=0\/∃b off l,a=some ⟨b,off,none⟩/\H b=some l/\off+n*e.size<=l.length/\
    ∀i c',cs[i]? =some c'->AU H e (chunk l (off+i*e.size) e.size) c'):AU H (.slice eb e) [.slice a n cap] (.slice cs):=by
 simp only[AU];exact⟨a,n,cap,cs,rfl,rfl,h1,h2,h3,h4,h5⟩
theorem QL {eb:Nat} {e:Ty} {cs:List C} {a:Option Addr} {n cap:Nat} (h:AU Γ.H (.slice eb e) [.slice a n cap] (.slice cs)):
  AK Γ (.d (.slice eb e) (.slice cs)) (.slice a n cap):=
 EA.2 ⟨by simpa[ek]using h,rfl⟩
theorem QJ {eb:Nat} {e:Ty} {a:Option Addr}:AK Γ (.emp eb e) (.slice a 0 0):=
 (Ch rfl rfl).2 ⟨by simp only[AA];exact⟨a,rfl⟩,rfl⟩
theorem GM {v:Value} (h:AK Γ .ye v):v= .slice none 0 0:=by obtain⟨h1,h2⟩:=(Ca rfl).1 h;rw[DX (by simpa[V.ty,Ty.isAgg]using h2)]at h1;simp only[AA]at h1;simpa using h1
theorem Kb {x:V} {v:Value} {eb:Nat} {e:Ty} {cs:List C} (h:AK Γ x v) (hx:x.Fk=some (eb,e,cs)):
  ∃a n cap,v= .slice a n cap/\cs.length=n/\n<=cap/\cap<=maxLen/\n*eb<=140737488355328/\AU Γ.H (.slice eb e) [.slice a n cap] (.slice cs):=by
 cases x <;> simp only[V.Fk,reduceCtorEq]at hx
 case d τ c=>
  cases τ <;> simp only[reduceCtorEq]at hx;simp at hx;obtain⟨rfl,rfl,rfl⟩:=hx;obtain⟨h1,h2⟩:=(Ch rfl rfl).1 h;simp only[AA]at h1;obtain⟨a,n,cap,h3,h4,h5⟩:=JC h1;simp at h3;subst h3;exact⟨a,n,cap,rfl,h5.1,h5.2.1,h5.2.2.1,h5.2.2.2.1,by rw[h4]at h1;simpa[C.elems]using h1⟩
 case sl eb' e' cs' t=>
  simp at hx;obtain⟨rfl,rfl,rfl⟩:=hx;obtain⟨h1,h2⟩:=(Ch rfl rfl).1 h;simp only[AA]at h1;obtain⟨a,n,cap,h3,h4,h5⟩:=h1;simp at h3;subst h3;obtain⟨a',n',z8r,e1,_,e2,e3,e4,e5,_⟩:=JC h4;simp at e1;obtain⟨rfl,rfl,rfl⟩:=e1;exact⟨a,n,cap,rfl,e2,e3,e4,e5,h4⟩
 case emp eb' e'=>
  simp at hx;obtain⟨rfl,rfl,rfl⟩:=hx;obtain⟨h1,h2⟩:=(Ch rfl rfl).1 h;simp only[AA]at h1;obtain⟨a,h3⟩:=h1;simp at h3;subst h3;exact⟨a,0,0,rfl,rfl,bx _,dr _,by rw[Nat.zero_mul];exact dr _,Eg rfl (bx _) (dr _) (by rw[Nat.zero_mul];exact dr _) (.inl rfl)⟩
theorem Hx {k:Key} {q:List Nat} {lo n:Nat} {cp:Option Nat} {eb:Nat} {e:Ty} {v:Value} (h:AK Γ (.sr k q lo n cp eb e) v):
  (cp=none/\n=0/\∃a,v= .slice a 0 0)\/∃b τ0 o m cap a,Γ.ι k=some (b,τ0)/\τ0.walk q=some (o,.arr m e)/\lo+n<=m/\v= .slice a n cap/\(cap=0\/a=some ⟨b,o+lo*e.size,none⟩)/\
   n<=cap/\cap<=maxLen/\n*eb<=140737488355328/\(∀c,cp=some c->cap=c)/\(cp=none->cap=0\/∃sz,Γ.σ b=some sz/\o+(lo+cap)*e.size<=sz):=by
 obtain⟨h1,h2⟩:=(Ch rfl rfl).1 h;simp only[AA]at h1;rcases h1 with⟨z1,z2,a,e1⟩|⟨b,τ0,o,m,cap,a1,a2,a3,⟨a,e1,e2⟩,a4⟩;{simp at e1;exact .inl ⟨z1,z2,a,e1⟩};simp at e1;subst e1;exact .inr ⟨b,τ0,o,m,cap,a,a1,a2,a3,rfl,e2,a4⟩
theorem TD {k:Key} {q:List Nat} {lo n:Nat} {cp:Option Nat} {eb:Nat} {e τ0:Ty} {b o m cap:Nat} {a:Option Addr} (h1:Γ.ι k=some (b,τ0)) (h2:τ0.walk q=some (o,.arr m e)) (h3:lo+n<=m)
  (h4:cap=0\/a=some ⟨b,o+lo*e.size,none⟩) (h5:n<=cap) (h6:cap<=maxLen) (h7:n*eb<=140737488355328) (h8:∀c,cp=some c->cap=c) (h9:cp=none->cap=0\/∃sz,Γ.σ b=some sz/\o+(lo+cap)*e.size<=sz):AK Γ (.sr k q lo n cp eb e) (.slice a n cap):=
 (Ch rfl rfl).2 ⟨by simp only[AA];exact .inr ⟨b,τ0,o,m,cap,h1,h2,h3,⟨a,rfl,h4⟩,h5,h6,h7,h8,h9⟩,rfl⟩
theorem Wi {k:Key} {q:List Nat} {lo:Nat} {eb:Nat} {e:Ty} {a:Option Addr}:AK Γ (.sr k q lo 0 none eb e) (.slice a 0 0):=
 (Ch rfl rfl).2 ⟨by simp only[AA];exact .inl ⟨trivial,trivial,a,rfl⟩,rfl⟩
theorem dV {k:Key} {q:List Nat} {lo n:Nat} {cp:Option Nat} {eb:Nat} {e:Ty} {v:Value} (h:AK Γ (.sr k q lo n cp eb e) v):∃cap a,v= .slice a n cap/\n<=cap/\cap<=maxLen:=by rcases Hx h with⟨_,rfl,a,hv⟩|⟨b,τ0,o0,m,cap,a,a1,a2,a3,hv,a4,a5,a6,_⟩;{exact⟨0,a,hv,bx _,dr _⟩};{exact⟨cap,a,hv,a5,a6⟩}
theorem q76 {H:Hp} {eb:Nat} {e:Ty} {cs:List C} {a:Option Addr} {n cap:Nat} (h:AU H (.slice eb e) [.slice a n cap] (.slice cs)) {i:Nat} (hi:i<n):
  ∃b off l,a=some ⟨b,off,none⟩/\H b=some l/\off+i*e.size+e.size<=l.length/\AU H e (chunk l (off+i*e.size) e.size) (cs.getD i .nil):=by
 obtain⟨a',n',z8r,e1,_,e2,e3,e4,e5,e6⟩:=JC h;simp at e1;obtain⟨rfl,rfl,rfl⟩:=e1;simp only[C.elems]at e2 e6;rcases e6 with e6|⟨b,off,l,rfl,hb,hs,hc⟩;{omega}
 ·have hle:(i+1)*e.size<=n*e.size:=cf _ hi;rw[da]at hle;have hlt:i<cs.length:=by omega
  refine⟨b,off,l,rfl,hb,by omega,?_⟩;have:=hc i cs[i] (bo hlt);simpa[bt,bo hlt]using this
theorem dT {H:Hp} {eb:Nat} {e:Ty} {cs:List C} {a:Option Addr} {n cap l h:Nat} (hr:AU H (.slice eb e) [.slice a n cap] (.slice cs)) (h1:l<=h) (h2:h<=n):
  AU H (.slice eb e) [.slice (if cap=l then a else a.map (·.add (l*e.size))) (h-l) (cap-l)] (.slice ((cs.take h).drop l)):=by
 obtain⟨a',n',z8r,e1,_,e2,e3,e4,e5,e6⟩:=JC hr;simp at e1;obtain⟨rfl,rfl,rfl⟩:=e1;simp only[C.elems]at e2 e6;refine Eg (by simp;omega) (by omega) (by omega) (kh (cf _ (by omega)) e5) ?_;by_cases hz:h-l=0;{exact .inl hz};{rcases e6 with e6|⟨b,off,ll,rfl,hb,hs,hc⟩;{omega};{refine .inr ⟨b,off+l*e.size,ll,?_,hb,?_,fun i c' hi=>?_⟩;{rw[if_neg (by omega)];simp only[gj,ee];exact Ii _ _ _};{have:(l+(h-l))*e.size<=n*e.size:=cf _ (by omega);rw[da]at this;omega};{rw[iz,fh]at hi;split at hi;{have:=hc _ _ hi;rw[da]at this;rw[show off+l*e.size+i*e.size=off+(l*e.size+i*e.size) by omega];exact this};{cases hi}}}}
end
section
variable {P:Program}
theorem ED.HC {o:Oper} {op:BinOp} {T T2:TypeId} {x y:Operand} {ρa:Operand->V} {r:V} (ho:o.op= .binOp op T x y T2)
  (hg:∀(a b:Value) (w:World),(∃Γ,AK Γ (ρa x) a/\AK Γ (ρa y) b)->(eqGuard op T x y a b).run P w= .ok () w)
  (h:∀(Γ:G) (w:World) (a b:Value),AK Γ (ρa x) a->AK Γ (ρa y) b->∃v,(binOp op T a b).run P w= .ok v w/\AK Γ r v):ED P ρa o r:=by
 intro Γ w ρ hr;rw[ho]at hr;have hx:=hr x (by simp[cm]);have hy:=hr y (by simp[cm]);obtain⟨v,h1,h2⟩:=h Γ w _ _ hx hy;refine⟨v,?_,h2⟩;unfold execOp;simp[ho,hg _ _ w ⟨Γ,hx,hy⟩,h1]
theorem Yo {op:BinOp} {T:TypeId} {x y:Operand} {k k':IntKind} {a b:Int}:eqGuard op T x y (.int k a) (.int k' b)=pure ():=by unfold eqGuard;split <;> rfl
theorem mP {op:BinOp} {T:TypeId} {x y:Operand} {a b:Bool}:eqGuard op T x y (.bool a) (.bool b)=pure ():=by unfold eqGuard;split <;> rfl
theorem q1Q {op:BinOp} {T:TypeId} {x y:Operand} {a b:ByteArray}:eqGuard op T x y (.string a) (.string b)=pure ():=by unfold eqGuard;split <;> rfl
theorem q1P {op:BinOp} {T:TypeId} {x y:Operand} {a b:Option Addr}:eqGuard op T x y (.pointer a) (.pointer b)=pure ():=by unfold eqGuard;split <;> rfl
theorem jC (a b:List UInt8):((⟨a.toArray⟩:ByteArray).toList==(⟨b.toArray⟩:ByteArray).toList)=(a==b):=by simp[ir]
theorem q9f {op:BinOp} {a b:List UInt8} {K:V->Prop} (h:MB op a b K) (T:TypeId):
  ∃x,K x/\∀(Γ:G) w,∃v,(binOp op T (.string ⟨a.toArray⟩) (.string ⟨b.toArray⟩)).run P w= .ok v w/\AK Γ x v:=by
 cases op <;> simp only[MB]at h
 case add=>
  refine⟨_,h.2,fun Γ w=>⟨.string ⟨(a++b).toArray⟩,?_,TE (by simpa using h.1)⟩⟩;have hs:((⟨a.toArray⟩:ByteArray)++⟨b.toArray⟩)=⟨(a++b).toArray⟩:=by apply vi;simp
  have hle:¬(IntKind.i64.max<(((⟨a.toArray⟩:ByteArray).size+(⟨b.toArray⟩:ByteArray).size:Nat):Int)):=by
   have e1:(⟨a.toArray⟩:ByteArray).size=a.length:=by simp[iw]
   have e2:(⟨b.toArray⟩:ByteArray).size=b.length:=by simp[iw]
   rw[e1,e2];have:IntKind.i64.max=9223372036854775807:=by decide
   omega
  simp only[binOp,ly,gt_iff_lt,if_neg hle,hs];rfl
 case eql=>exact⟨_,h,fun Γ w=>⟨_,by simp only[binOp,ly,jC];rfl,Dn⟩⟩
 case neq=>exact⟨_,h,fun Γ w=>⟨_,by simp only[binOp,ly,jC];rfl,Dn⟩⟩
 case lss=>exact⟨_,h,fun Γ w=>⟨_,by simp only[binOp,ly,ir];rfl,Dn⟩⟩
 case leq=>exact⟨_,h,fun Γ w=>⟨_,by simp only[binOp,ly,ir];rfl,Dn⟩⟩
 case gtr=>exact⟨_,h,fun Γ w=>⟨_,by simp only[binOp,ly,ir];rfl,Dn⟩⟩
 case geq=>exact⟨_,h,fun Γ w=>⟨_,by simp only[binOp,ly,ir];rfl,Dn⟩⟩
theorem nB {k:IntKind} {a:Int} (n:Nat) (h1:k.min<=a) (h2:a<=k.max):k.min<=a.fdiv (2^n)/\a.fdiv (2^n)<=k.max:=by
 have hm:k.min<=0/\0<=k.max:=by cases k <;> decide
 have hp:(0:Int)<2^n:=Int.pow_pos (by decide);rw[Int.fdiv_eq_ediv_of_nonneg _ (by omega)];rcases Int.lt_or_le a 0 with h|h
 ·have h3:a<=a / 2^n:=by rw[Int.le_ediv_iff_mul_le hp];have:a*2^n<=a*1:=Int.mul_le_mul_of_nonpos_left (by omega) (by omega);omega
  have h4:a / 2^n<0:=Int.ediv_neg_of_neg_of_pos h hp;omega
 ·have h3:0<=a / 2^n:=Int.ediv_nonneg h (by omega);have h4:a / 2^n<=a:=Int.ediv_le_self _ h;omega
theorem SJ {x:V} {b:Bool} (h:x.Hv=some b) {Γ:G} {v:Value} (hr:AK Γ x v):
  ∃a,v= .pointer a/\a.isNone=b:=by
 cases x <;> simp only[V.Hv,reduceCtorEq]at h
 case ptr=>simp at h;subst h;obtain⟨b,τ0,o,_,_,rfl⟩:=HF hr;exact⟨_,rfl,rfl⟩
 case yf=>simp at h;subst h;obtain⟨b,off,l,rfl,_⟩:=TC hr;exact⟨_,rfl,rfl⟩
 case d τ c=>
  cases τ <;> cases c <;> simp at h;subst h;obtain⟨h1,h2⟩:=EA.1 hr;rw[DX (by simpa[Ty.isAgg]using h2)]at h1;simp only[AU]at h1;simp at h1;exact⟨_,h1,rfl⟩
theorem q8u {T:TypeId} (hT:ty P T= .ptr) {a b:Option Addr} (h:a=none\/b=none) (w:World):
  (kl T (.pointer a) (.pointer b)).run P w= .ok (a.isNone&&b.isNone) w:=by
 obtain⟨e,he⟩:=z0b hT;unfold kl vr;rw[show(10000:Nat)=9999+1 from rfl,nu,cz,run_underlying he];rcases h with rfl|rfl;{simp};{cases a <;> simp}
theorem Qk {x:V} (h:x.Fv) {Γ:G} {v:Value} (hr:AK Γ x v):∃k,v= .int k x.toInt:=by cases x <;> simp only[V.Fv]at h;rename_i τ c;cases τ <;> simp only at h;exact⟨_,(EU hr).1⟩
theorem Th:∀{q:List Nat} {τ0 τ f:Ty} {o o':Nat} {i:Nat},τ0.walk q=some (o,τ)->τ.child i=some (o',f)->τ0.walk (q++[i])=some (o+o',f)
 | [],τ0,τ,f,o,o',i,h,hc=>by simp[Ty.walk]at h;obtain⟨rfl,rfl⟩:=h;simp[Ty.walk,hc]
 |j::q,τ0,τ,f,o,o',i,h,hc=>by
  simp only[Ty.walk,List.cons_append]at h ⊢;cases h1:τ0.child j with
  |none=>simp[h1]at h|some of=>
   obtain⟨o1,f1⟩:=of;simp only[h1]at h ⊢;cases h2:f1.walk q with
   |none=>simp[h2]at h|some ot=>
    obtain⟨o2,t2⟩:=ot;simp only[h2,ee,fw]at h;obtain⟨rfl,rfl⟩:=h;rw[Th h2 hc];simp[fv]
theorem Qn {τ:Ty} {i o:Nat} {f:Ty} (h:τ.child i=some (o,f)):τ.get i=f:=by cases τ <;> simp only[Ty.child,reduceCtorEq]at h;{split at h <;> simp at h;exact h.2};{split at h <;> simp at h;rename_i h1 h2;obtain⟨rfl,rfl⟩:=h;simp[Ty.get,bt,h2]}
theorem q8w (hP:BS P=true) {T:TypeId} {i o:Nat} {f:Ty} (hc:(ty P T).child i=some (o,f)) (hn:f.size≠0) (hs:∃sz os fs,ty P T= .struct sz os fs) (b off:Nat) (w:World):
  (wx T (.pointer (some ⟨b,off,none⟩)) i).run P w= .ok (.pointer (some ⟨b,off+o,none⟩)) w:=by
 obtain⟨sz,os,fs,ht⟩:=hs;obtain⟨gs,hu,rfl,rfl,_,yq⟩:=fX hP ht;rw[ht]at hc;simp only[Ty.child,db]at hc;cases hg:gs.toList[i]? with
 |none=>simp[hg]at hc|some g=>
  simp[hg]at hc;obtain⟨rfl,rfl⟩:=hc;have hg':gs[i]? =some g:=by simpa using hg
  have hm:=yq g (fa hg);have hz:=JD (f:=11) hP (w:=w) hm.1;unfold wx;rw[cz,run_underlying hu];simp only[cu,hg',na,cz,ej,fieldPlace,hz];simp[hn,Ii]
theorem pG {τ:Ty} (h:τ.DF=true):∃sz os fs,τ= .struct sz os fs:=by cases τ <;> simp[Ty.DF]at h;exact⟨_,_,_,rfl⟩
theorem q9s (hP:BS P=true) {o:Oper} {T:TypeId} {x:Operand} {i:Nat} {ρa:Operand->V} {K:V->Prop} (ho:o.op= .fieldAddr T x i)
  (h:Pq P T (ρa x) i K):∃r,K r/\ED P ρa o r:=by
 unfold Pq at h
 have go:∀{Γ:G} {w:World} {ρ:Operand->Value} {b off:Nat} {r:V} {τ:Ty},τ=ty P T->τ.DF=true->(τ.child i).isSome=true->(τ.get i).size≠0->ρ x= .pointer (some ⟨b,off,none⟩)->
   (∀o',τ.child i=some (o',τ.get i)->AK Γ r (.pointer (some ⟨b,off+o',none⟩)))->gW P ρ o Γ w r:=by
  intro Γ w ρ b off r τ e1 e4 e2 e3 hx hr;subst e1;cases hc:(ty P T).child i with
  |none=>simp[hc]at e2|some of=>
   obtain⟨o',f⟩:=of;have hf:=Qn hc;rw[hf]at e3;refine⟨_,?_,hr o' (by rw[hf];exact hc)⟩;unfold execOp;simp only[ho,hx,cz,q8w hP hc e3 (pG e4) b off w,cu,ej]
 have zy:∀{y:V},ρa x=y->∀{Γ:G} {ρ:Operand->Value},(∀y∈o.op.operands,AK Γ (ρa y) (ρ y))->AK Γ y (ρ x):=by intro y e Γ ρ hr;rw[<-e];exact hr x (by rw[ho];simp[cm])
 split at h;{rename_i k q τ hx;obtain⟨e1,e2,e3,e4,hK⟩:=h;refine⟨_,hK,fun Γ w ρ hr=>?_⟩;obtain⟨b,τ0,o0,h1,h2,h3⟩:=HF (zy hx hr);exact go e1 e2 e3 e4 h3 fun o' hc=>QK h1 (Th h2 hc)};{rename_i τ c hx;obtain⟨e1,e2,e3,e4,hK⟩:=h;refine⟨_,hK,fun Γ w ρ hr=>?_⟩;obtain⟨b,off,l,h1,h2,h3,h4⟩:=TC (zy hx hr);refine go e1 e2 e3 e4 h1 fun o' hc=>?_;obtain⟨_,g2,g3⟩:=h4.get hc;rw[Ek _ _ _ h3]at g2;rw[FB _ _ _ _ _ g2]at g3;exact Nc h2 (by omega) g3};{exact h.elim}
theorem Lx {T:TypeId} {f:Nat} {τ:Ty} (hP:BS P=true) (hT:T<P.types.size) (ht:tyF P (f+1) T=τ) (hk:τ.known=true)
  {cs:Array Value} {off:Nat} (hl:off+τ.size<=cs.size) (h1:Dx cs.toList) (w:World):
  ∃v,(part T cs off).run P w= .ok v w/\v.cells.toList=chunk cs.toList off τ.size/\Bi v=τ.isAgg:=by
 subst ht;have hs:=JD (f:=f+1) hP (w:=w) hT;have z8I:(isAgg T).run P w= .ok (tyF P (f+1) T).isAgg w:=by
  unfold isAgg;unfold tyF at hk ⊢;rw[if_pos hT]at hk ⊢;cases hu:P.underlying T with
  |none=>simp[hu,Ty.known]at hk|some d=>
   rw[cz,run_underlying hu];cases d <;> simp[hu,Ty.known]at hk ⊢ <;> simp[Ty.isAgg]
 unfold part;cases ha:(tyF P (f+1) T).isAgg with
 |true=>
  refine⟨.agg (cs.extract off (off+(tyF P (f+1) T).size)),?_,?_,rfl⟩;{simp[z8I,ha,hs]};{simp[ek,chunk,su]}
 |false=>
  have h0:(tyF P (f+1) T).size=1:=Ty.size_leaf hk ha;have hlt:off<cs.size:=by omega
  have z8e:cs[off].oneCell'=true:=h1 _ (by simp);have hna:Bi cs[off]=false:=by cases hv:cs[off] <;> simp_all[Value.oneCell',Bi]
  refine⟨cs[off],?_,?_,hna⟩;{simp[z8I,ha,dw hlt]};{rw[DX hna,h0];simp[chunk,List.drop_eq_getElem_cons (l:=cs.toList) (i:=off) (by simpa using hlt)]}
theorem q9r (hP:BS P=true) {o:Oper} {T:TypeId} {x:Operand} {i:Nat} {ρa:Operand->V} {K:V->Prop} (ho:o.op= .field T x i)
  (h:(ρa x).ty=ty P T/\(ρa x).ty.DF=true/\((ρa x).ty.child i).isSome=true/\((ρa x).ty.get i).known=true/\(ρa x).plain=true/\(ρa x).get i≠.any/\K ((ρa x).get i)):
  ∃r,K r/\ED P ρa o r:=by
 obtain⟨e1,e2,e3,e4,e5,e6,hK⟩:=h;refine⟨_,hK,fun Γ w ρ hr=>?_⟩;have hx:=hr x (by rw[ho];simp[cm]);obtain⟨h1,h2⟩:=(Ca e5).1 hx;obtain⟨sz,os,fs,ht⟩:=pG e2;rw[ht]at h2;cases hv:ρ x <;> simp[hv,Bi,Ty.isAgg]at h2;rename_i cs;rw[hv]at h1;simp only[ek]at h1;obtain⟨gs,hu,hos,hfs,_,yq⟩:=fX hP (e1 ▸ ht);cases hc:(ρa x).ty.child i with
 |none=>simp[hc]at e3|some of=>
  obtain⟨off,f⟩:=of;obtain⟨g1,g2,g3⟩:=h1.get hc e6;have hf:=Qn hc;have hc':=hc;rw[ht]at hc';simp only[Ty.child,hos,hfs,db]at hc';cases hg:gs.toList[i]? with
  |none=>simp[hg]at hc'|some g=>
   simp[hg]at hc';obtain⟨rfl,rfl⟩:=hc';have hg':gs[i]? =some g:=by simpa using hg
   rw[hf]at e4;have hpl:((ρa x).get i).plain=true:=by cases hgx:(ρa x).get i <;> simp_all[V.plain,AA]
   obtain⟨v,q1,q2,q3⟩:=Lx (f:=10) hP (yq g (fa hg)).1 rfl e4 (by simpa using g2) (h1.one e5) w;refine⟨v,?_,(Ca hpl).2 ⟨?_,by rw[q3,g1]⟩⟩;{unfold execOp;simp[ho,hv,Instr.field,run_underlying hu,hg',asAgg,q1]};{rw[q2];exact g3.EZ}
end
end
section
section
variable {P:Program}
theorem run_indexAt_slice (hP:BS P=true) {T:TypeId} {eb:Nat} {e:Ty} (ht:ty P T= .slice eb e) {b off n cap:Nat} {k:IntKind} {i:Int} (h0:0<=i) (h1:i<n) (w:World):
  (qc T (.slice (some ⟨b,off,none⟩) n cap) (.int k i)).run P w= .ok (.pointer (some ⟨b,off+i.toNat*e.size,none⟩)) w:=by
 obtain⟨E,hu,rfl,_,hE⟩:=Ie hP ht;have hz:=JD (f:=11) hP (w:=w) hE;unfold qc;simp only[asIntOf,cz,ej,cu,run_underlying hu];simp[h0,h1,hz,Ii]
theorem xW (hP:BS P=true) {T:TypeId} {len:Nat} {e:Ty} (ht:ty P T= .arr len e) {b off:Nat} {k:IntKind} {i:Int} (h0:0<=i) (h1:i<len) (w:World):
  (qc T (.pointer (some ⟨b,off,none⟩)) (.int k i)).run P w= .ok (.pointer (some ⟨b,off+i.toNat*e.size,none⟩)) w:=by
 obtain⟨E,hu,rfl⟩:=QY ht;have hT:T<P.types.size:=by rcases Nat.lt_or_ge T P.types.size with h|h;{exact h};{unfold ty tyF at ht;rw[if_neg (Nat.not_lt.2 h)]at ht;cases ht}
 have ho:=Iz hP hT;unfold okT at ho;simp only[hu]at ho;simp at ho;have hz:=JD (f:=11) hP (w:=w) ho.2;unfold qc;simp only[asIntOf,cz,ej,cu,run_underlying hu,na];simp[h0,h1,hz,Ii]
theorem Xp {n:Nat} {e:Ty} {i:Int} (h0:0<=i) (h1:i<n):(Ty.arr n e).child i.toNat=some (i.toNat*e.size,e):=by simp only[Ty.child];rw[if_pos (by omega)]
theorem Wq {n cap l h:Nat} {b:Bool} {lo hi:Option Value} (hlo:lo=none/\l=0\/∃k,lo=some (.int k l)) (hhi:hi=none/\h=n\/∃k,hi=some (.int k h))
  (h1:l<=h) (h2:h<=cap) (w:World):(mq b n cap lo hi none).run P w= .ok (l,h,cap) w:=by
 unfold mq
 rcases hlo with⟨rfl,rfl⟩|⟨k,rfl⟩ <;> rcases hhi with⟨rfl,rfl⟩|⟨k',rfl⟩ <;>
  simp[vo,asIntOf,h1,h2]
theorem xY {n cap l h m:Nat} {b:Bool} {lo hi:Option Value} {km:IntKind} (hlo:lo=none/\l=0\/∃k,lo=some (.int k l)) (hhi:∃k,hi=some (.int k h))
  (h1:l<=h) (h2:h<=m) (h3:m<=cap) (w:World):(mq b n cap lo hi (some (.int km m))).run P w= .ok (l,h,m) w:=by
 unfold mq;obtain⟨k',rfl⟩:=hhi;rcases hlo with⟨rfl,rfl⟩|⟨k,rfl⟩ <;> simp[vo,asIntOf,h1,h2,h3]
theorem OS {x:Option Operand} {ρa:Operand->V} {d l:Int} (h:DA (x.map ρa) d=some l) {Γ:G} {ρ:Operand->Value} (hr:∀y,x=some y->AK Γ (ρa y) (ρ y)):
  x=none/\l=d\/∃k y,x=some y/\x.map ρ=some (.int k l):=by
 cases x with
 |none=>simp[DA]at h;exact .inl ⟨rfl,h.symm⟩|some y=>
  have hy:=hr y rfl;simp only[xw,DA]at h;split at h;{rename_i kk c hc;simp at h;rw[hc]at hy;exact .inr ⟨kk,y,rfl,by simp[(EU hy).1,h]⟩};{simp at h}
theorem extract_mk (l:List UInt8) (a b:Nat):(⟨l.toArray⟩:ByteArray).extract a b=⟨((l.take b).drop a).toArray⟩:=by apply vi;apply Array.ext';have h:=Lib.extract_data ⟨l.toArray⟩ a b;show((⟨l.toArray⟩:ByteArray).extract a b).data.toList=_;rw[h,su]
theorem q9t (hP:BS P=true) {o:Oper} {T:TypeId} {x i:Operand} {ρa:Operand->V} {K:V->Prop} (ho:o.op= .indexAddr T x i)
  (h:Pr P T (ρa x) (ρa i) K):∃r,K r/\ED P ρa o r:=by
 unfold Pr at h;obtain⟨hi,h⟩:=h;have zy:∀{Γ:G} {ρ:Operand->Value},(∀y∈o.op.operands,AK Γ (ρa y) (ρ y))->AK Γ (ρa x) (ρ x)/\∃k,ρ i= .int k (ρa i).toInt:=by intro Γ ρ hr;exact⟨hr x (by rw[ho];simp[cm]),Qk hi (hr i (by rw[ho];simp[cm]))⟩
 split at h
 ·rename_i eb e k q lo n cp eb' e' ht hx;obtain⟨rfl,rfl,h0,h1,hK⟩:=h;refine⟨_,hK,fun Γ w ρ hr=>?_⟩;obtain⟨hxr,ki,hiv⟩:=zy hr;rw[hx]at hxr;rcases Hx hxr with⟨_,rfl,_⟩|⟨b,τ0,o0,m,cap,a,a1,a2,a3,hv,a4,a5,a6,a7,a8,a9⟩;{omega};have ha:a=some ⟨b,o0+lo*e'.size,none⟩:=by rcases a4 with a4|a4 <;> first|omega|exact a4
  subst ha;refine⟨_,?_,QK a1 (Th a2 (show(Ty.arr m e').child (lo+(ρa i).toInt.toNat)=some ((lo+(ρa i).toInt.toNat)*e'.size,e') by simp only[Ty.child];rw[if_pos (by omega)]))⟩;unfold execOp;simp only[ho,hv,hiv,cz,run_indexAt_slice hP ht h0 (show(ρa i).toInt<n by omega),cu,ej];rw[da,fv]
 ·rename_i eb e _ ht hns;split at h;{rename_i eb' e' cs hx;obtain⟨rfl,rfl,h0,h1,hK⟩:=h;refine⟨_,hK,fun Γ w ρ hr=>?_⟩;obtain⟨hxr,ki,hiv⟩:=zy hr;obtain⟨a,n,cap,hv,hl,_,_,_,hc⟩:=Kb hxr hx;obtain⟨b,off,l,rfl,hb,hs,hce⟩:=q76 hc (i:=(ρa i).toInt.toNat) (by omega);refine⟨_,?_,Nc hb hs hce⟩;unfold execOp;simp only[ho,hv,hiv,cz,run_indexAt_slice hP ht h0 (show(ρa i).toInt<n by omega),cu,ej]};{exact h.elim}
 ·rename_i n e k q τ ht hx;obtain⟨rfl,h0,h1,hK⟩:=h;refine⟨_,hK,fun Γ w ρ hr=>?_⟩;obtain⟨hxr,ki,hiv⟩:=zy hr;rw[hx]at hxr;obtain⟨b,τ0,o0,g1,g2,g3⟩:=HF hxr;refine⟨_,?_,QK g1 (Th g2 (Xp h0 h1))⟩;unfold execOp;simp only[ho,g3,hiv,cz,xW hP ht h0 h1,cu,ej]
 ·rename_i n e τ c ht hx;obtain⟨rfl,h0,h1,hK⟩:=h;refine⟨_,hK,fun Γ w ρ hr=>?_⟩;obtain⟨hxr,ki,hiv⟩:=zy hr;rw[hx]at hxr;obtain⟨b,off,l,g1,g2,g3,g4⟩:=TC hxr;obtain⟨_,q2,q3⟩:=g4.get (Xp h0 h1);rw[Ek _ _ _ g3]at q2;rw[FB _ _ _ _ _ q2]at q3;refine⟨_,?_,Nc g2 (by omega) q3⟩;unfold execOp;simp only[ho,g1,hiv,cz,xW hP ht h0 h1,cu,ej]
 ·exact h.elim
theorem q6b (hP:BS P=true) {T:TypeId} {n eb:Nat} {e:Ty} (h:WJ P T=some (n,eb,e)):
  ∃A E,(P.underlying T=some (.pointer A)/\P.underlying A=some (.array n E)\/P.underlying T=some (.array n E))/\eb=P.bytesOf E/\e=tyF P 11 E/\E<P.types.size:=by
 unfold WJ at h;split at h;{rename_i A hT;split at h;{rename_i n' E hA;split at h;{rename_i hlt;simp at h;obtain⟨rfl,rfl,rfl⟩:=h;have hok:=Iz hP hlt;unfold okT at hok;simp only[hA]at hok;simp at hok;exact⟨A,E,.inl ⟨hT,hA⟩,rfl,rfl,hok.2⟩};{cases h}};{cases h}};{rename_i n' E hT;split at h;{rename_i hlt;simp at h;obtain⟨rfl,rfl,rfl⟩:=h;have hok:=Iz hP hlt;unfold okT at hok;simp only[hT]at hok;simp at hok;exact⟨T,E,.inr hT,rfl,rfl,hok.2⟩};{cases h}};{cases h}
theorem q8A (hP:BS P=true) {T A E:TypeId} {n:Nat} (hT:P.underlying T=some (.pointer A)/\P.underlying A=some (.array n E)\/P.underlying T=some (.array n E)) (hE:E<P.types.size) {b off l h:Nat} {lo hi:Option Value}
  (b1:lo=none/\l=0\/∃k,lo=some (.int k l)) (b2:hi=none/\h=n\/∃k,hi=some (.int k h)) (h1:l<=h) (h2:h<=n) (w:World):
  (kq T (.pointer (some ⟨b,off,none⟩)) lo hi none).run P w= .ok (.slice (some (if n=l then⟨b,off,none⟩else⟨b,off+l*P.cellsOf E,none⟩)) (h-l) (n-l)) w:=by
 have hz:=JD (f:=0) hP (w:=w) hE;rw[Dq hP]at hz;rcases hT with⟨hT,hA⟩|hT;{simp only[kq,cz,run_underlying hT,cu,rr];simp[asAddr,run_underlying hA,Wq b1 b2 h1 h2,hz,Ii]};{simp only[kq,cz,run_underlying hT,cu];simp[na,Wq b1 b2 h1 h2,hz,Ii]}
theorem q9v (hP:BS P=true) {o:Oper} {T:TypeId} {x:Operand} {lo hi mx:Option Operand} {ρa:Operand->V} {K:V->Prop} (ho:o.op= .slice T x lo hi mx)
  (h:Pt P T (ρa x) (lo.map ρa) (hi.map ρa) (mx.map ρa) K):∃r,K r/\ED P ρa o r:=by
 have ops:∀{Γ:G} {ρ:Operand->Value},(∀y∈o.op.operands,AK Γ (ρa y) (ρ y))->
   AK Γ (ρa x) (ρ x)/\(∀y,lo=some y->AK Γ (ρa y) (ρ y))/\(∀y,hi=some y->AK Γ (ρa y) (ρ y))/\(∀y,mx=some y->AK Γ (ρa y) (ρ y)):=by
  intro Γ ρ hr;rw[ho]at hr;refine⟨hr x (by simp[cm]),fun y e=>hr y ?_,fun y e=>hr y ?_,fun y e=>hr y ?_⟩ <;> subst e <;> simp[cm]
 have z8T:∀{Γ:G} {ρ:Operand->Value} {l hh n:Int},(∀y,lo=some y->AK Γ (ρa y) (ρ y))->(∀y,hi=some y->AK Γ (ρa y) (ρ y))->DA (lo.map ρa) 0=some l->DA (hi.map ρa) n=some hh->0<=l->l<=hh->0<=n->
   (lo.map ρ=none/\l.toNat=0\/∃k,lo.map ρ=some (.int k (l.toNat:Int)))/\(hi.map ρ=none/\hh.toNat=n.toNat\/∃k,hi.map ρ=some (.int k (hh.toNat:Int))):=by
  intro Γ ρ l hh n h1 h2 h3 h4 h5 h6 _;refine⟨?_,?_⟩;{rcases OS h3 h1 with⟨rfl,rfl⟩|⟨k,y,rfl,hy⟩;{exact .inl ⟨rfl,rfl⟩};{exact .inr ⟨k,by rw[hy,ji h5]⟩}};{rcases OS h4 h2 with⟨rfl,rfl⟩|⟨k,y,rfl,hy⟩;{exact .inl ⟨rfl,rfl⟩};{exact .inr ⟨k,by rw[hy,ji (by omega)]⟩}}
 unfold Pt at h;split at h
 ·rename_i ht;obtain⟨hx,hmx,h⟩:=h;obtain⟨c,ex⟩:=V.Mv hx;split at h
  ·rename_i l hh hl hhi;obtain⟨h0,h1,h2,hK⟩:=h;refine⟨_,hK,fun Γ w ρ hr=>?_⟩;obtain⟨r1,r2,r3,_⟩:=ops hr;have zg:mx=none:=by cases mx <;> simp at hmx ⊢
   obtain⟨b1,b2⟩:=z8T r2 r3 hl hhi h0 h1 (by omega);rw[ex]at r1;obtain⟨hv,_,hlen⟩:=IQ r1;have hts:(ρa x).toStr=c.toStr:=by rw[ex];rfl
   rw[hts]at h2 b2 ⊢;refine⟨.string ⟨(((c.toStr.take hh.toNat).drop l.toNat)).toArray⟩,?_,TE (by simp;omega)⟩;have hu:=Kk ht;have hsz:(⟨c.toStr.toArray⟩:ByteArray).size=c.toStr.length:=by simp[iw]
   unfold execOp;simp only[ho,hv,kq,cz,run_underlying hu,cu,zg,oh,rr];simp only[Option.isSome_none,fq,if_false,cz,ej,cu,Sem.run_ite];rw[Wq (n:=(⟨c.toStr.toArray⟩:ByteArray).size) (l:=l.toNat) (h:=hh.toNat) b1 (by rw[hsz];simpa using b2) (by omega) (by rw[hsz];omega)];simp[extract_mk]
  ·exact h.elim
 ·rename_i eb e ht;obtain⟨E,hu,rfl,_,hE⟩:=Ie hP ht
  -- the run, for whatever slice value
  have z9a:∀{Γ:G} {w:World} {ρ:Operand->Value} {l hh:Int} {a:Option Addr} {n cap:Nat},(∀y,lo=some y->AK Γ (ρa y) (ρ y))->(∀y,hi=some y->AK Γ (ρa y) (ρ y))->
    DA (lo.map ρa) 0=some l->DA (hi.map ρa) (n:Int)=some hh->0<=l->l<=hh->hh<=cap->mx=none->ρ x= .slice a n cap->
    (execOp ρ o).run P w= .ok (.value (.slice (if cap=l.toNat then a else a.map (·.add (l.toNat*(tyF P 11 E).size))) (hh.toNat-l.toNat) (cap-l.toNat))) w:=by
   intro Γ w ρ l hh a n cap r2 r3 hl hhi h0 h1 h2 hmx hv;obtain⟨b1,b2⟩:=z8T r2 r3 hl hhi h0 h1 (by omega);unfold execOp;simp only[ho,hv,kq,cz,run_underlying hu,cu,hmx,oh,rr];rw[Wq (n:=n) (l:=l.toNat) (h:=hh.toNat) b1 (by simpa using b2) (by omega) (by omega)];simp[JD (f:=11) hP (w:=w) hE]
  have z9b:∀{Γ:G} {w:World} {ρ:Operand->Value} {l hh m:Int} {a:Option Addr} {n cap:Nat},(∀y,lo=some y->AK Γ (ρa y) (ρ y))->(∀y,hi=some y->AK Γ (ρa y) (ρ y))->(∀y,mx=some y->AK Γ (ρa y) (ρ y))->
    DA (lo.map ρa) 0=some l->DA (hi.map ρa) (n:Int)=some hh->DA (mx.map ρa) 0=some m->mx.isSome=true->hi.isSome=true->0<=l->l=hh->hh=m->m<=cap->ρ x= .slice a n cap->
    (execOp ρ o).run P w= .ok (.value (.slice a 0 0)) w:=by
   intro Γ w ρ l hh m a n cap r2 r3 r4 hl hhi hm hmx hhs h0 h1 h2 h3 hv;subst h1;subst h2;obtain⟨b1,b2⟩:=z8T r2 r3 hl hhi h0 (Int.le_refl _) (by omega);obtain⟨y,rfl⟩:=sk.1 hmx;obtain⟨z,rfl⟩:=sk.1 hhs;have b3:∃k,ρ y= .int k (l.toNat:Int):=by rcases OS hm r4 with⟨h,_⟩|⟨k,y',_,hy⟩;{cases h};{exact⟨k,by simpa[ji h0]using hy⟩}
   obtain⟨km,hkm⟩:=b3;have b2':∃k,(some z).map ρ=some (.int k (l.toNat:Int)):=by rcases b2 with⟨h,_⟩|h;{cases h};{exact h}
   unfold execOp;simp only[ho,hv,kq,cz,run_underlying hu,cu,rr];rw[show xw ρ (some y)=some (.int km (l.toNat:Int)) by simp[hkm]];rw[xY (n:=n) (l:=l.toNat) (h:=l.toNat) (m:=l.toNat) b1 b2' (bx _) (bx _) (by omega)];simp[JD (f:=11) hP (w:=w) hE]
  split at h
  ·rename_i k q lo0 n cp eb' e' hx;obtain⟨rfl,rfl,h⟩:=h;split at h
   ·rename_i l hh hl hhi hmx;obtain⟨h0,h1,h2,hK⟩:=h;refine⟨_,hK,fun Γ w ρ hr=>?_⟩;obtain⟨r1,r2,r3,_⟩:=ops hr;rw[hx]at r1;have zg:mx=none:=by cases mx <;> simp at hmx ⊢
    rcases Hx r1 with⟨rfl,rfl,a,hv⟩|⟨b,τ0,o0,m,cap,a,a1,a2,a3,hv,a4,a5,a6,a7,a8,a9⟩
    ·have z1:l=0:=by omega
     have z2:hh=0:=by omega
     refine⟨_,z9a r2 r3 hl hhi h0 h1 (by omega) zg hv,?_⟩;subst z1;subst z2;exact Wi
    have e1:hh.toNat-l.toNat=(hh-l).toNat:=by omega
    refine⟨_,z9a r2 r3 hl hhi h0 h1 (by omega) zg hv,?_⟩;rw[e1];refine TD a1 a2 (by omega) ?_ (by omega) (by omega) (kh (cf _ (by omega)) a7) ?_ ?_;{by_cases hc:cap=l.toNat;{exact .inl (by omega)};{refine .inr ?_;rw[if_neg hc];rcases a4 with a4|a4;{omega};{rw[a4];simp[Ii,da,fv]}}};{intro c hc;cases cp with|none=>simp at hc|some c0=>simp at hc;have:=a8 c0 rfl;omega}
    ·intro hc;have hcp:cp=none:=by cases cp <;> simp at hc ⊢
     rcases a9 hcp with a9|⟨sz,b1,b2⟩;{exact .inl (by omega)}
     ·refine .inr ⟨sz,b1,?_⟩;have:lo0+l.toNat+(cap-l.toNat)=lo0+cap:=by omega
      rw[this];exact b2
   ·rename_i l hh m hl hhi hmx;obtain⟨k2,h⟩:=h;split at h;{rename_i mm hmm;obtain⟨h0,h1,h2,h3,hK⟩:=h;refine⟨_,hK,fun Γ w ρ hr=>?_⟩;obtain⟨r1,r2,r3,r4⟩:=ops hr;rw[hx]at r1;rcases Hx r1 with⟨rfl,rfl,a,hv⟩|⟨b,τ0,o0,m',cap,a,a1,a2,a3,hv,a4,a5,a6,a7,a8,a9⟩;{exact⟨_,z9b (w:=w) r2 r3 r4 hl hhi (hmx ▸ hmm) (by cases mx <;> simp at hmx ⊢) (by simpa using k2) h0 h1 h2 (by omega) hv,QJ⟩};exact⟨_,z9b (w:=w) r2 r3 r4 hl hhi (hmx ▸ hmm) (by cases mx <;> simp at hmx ⊢) (by simpa using k2) h0 h1 h2 (by omega) hv,QJ⟩};{exact h.elim}
   ·exact h.elim
  ·split at h
   ·rename_i eb' e' cs hx;obtain⟨rfl,rfl,h⟩:=h;split at h
    ·rename_i l hh hl hhi hmx;obtain⟨h0,h1,h2,hK⟩:=h;refine⟨_,hK,fun Γ w ρ hr=>?_⟩;obtain⟨r1,r2,r3,_⟩:=ops hr;obtain⟨a,n,cap,hv,hlen,hnc,hcm,hnb,hm⟩:=Kb r1 hx;rw[hlen]at hhi;have zg:mx=none:=by cases mx <;> simp at hmx ⊢
     refine⟨_,z9a r2 r3 hl hhi h0 h1 (by omega) zg hv,?_⟩;exact QL (dT hm (by omega) (by omega))
    ·rename_i l hh m hl hhi hmx;obtain⟨k2,h⟩:=h;split at h;{rename_i mm hmm;obtain⟨h0,h1,h2,h3,hK⟩:=h;refine⟨_,hK,fun Γ w ρ hr=>?_⟩;obtain⟨r1,r2,r3,r4⟩:=ops hr;obtain⟨a,n,cap,hv,hlen,hnc,hcm,hnb,hm⟩:=Kb r1 hx;rw[hlen]at hhi;exact⟨_,z9b (w:=w) r2 r3 r4 hl hhi (hmx ▸ hmm) (by cases mx <;> simp at hmx ⊢) (by simpa using k2) h0 h1 h2 (by omega) hv,QJ⟩};{exact h.elim}
    ·exact h.elim
   ·exact h.elim
 ·split at h
  ·rename_i n eb e hpa;obtain⟨hnb,hnm,hmx,h⟩:=h;have zg:mx=none:=by cases mx <;> simp at hmx ⊢
   obtain⟨A,E,hT,rfl,rfl,hE⟩:=q6b hP hpa;split at h
   ·rename_i l hh hl hhi;obtain⟨h0,h1,h2,h⟩:=h
    have arr:∀{Γ:G} {w:World} {ρ:Operand->Value} {b off:Nat},(∀y,lo=some y->AK Γ (ρa y) (ρ y))->(∀y,hi=some y->AK Γ (ρa y) (ρ y))->ρ x= .pointer (some ⟨b,off,none⟩)->
      (execOp ρ o).run P w= .ok (.value (.slice (some (if n=l.toNat then⟨b,off,none⟩else⟨b,off+l.toNat*(tyF P 11 E).size,none⟩)) (hh.toNat-l.toNat) (n-l.toNat))) w:=by
     intro Γ w ρ b off r2 r3 hv;obtain⟨b1,b2⟩:=z8T r2 r3 hl hhi h0 h1 (by omega);rw[Int.toNat_natCast]at b2;unfold execOp;simp only[ho,hv,zg,oh,cz,q8A hP hT hE b1 b2 (show l.toNat<=hh.toNat by omega) (show hh.toNat<=n by omega),cu,ej,Dq hP]
    have e1:hh.toNat-l.toNat=(hh-l).toNat:=by omega
    split at h;{rename_i k q τ hx;obtain⟨rfl,hK⟩:=h;refine⟨_,hK,fun Γ w ρ hr=>?_⟩;obtain⟨r1,r2,r3,_⟩:=ops hr;rw[hx]at r1;obtain⟨b,τ0,o0,g1,g2,g3⟩:=HF r1;refine⟨_,arr r2 r3 g3,?_⟩;rw[e1];refine TD g1 g2 (by omega) ?_ (by omega) (by omega) (kh (cf _ (by omega)) hnb) (fun c hc=>by simpa using hc) (fun hc=>by cases hc);by_cases hc:n=l.toNat;{exact .inl (by omega)};{right;rw[if_neg hc]}}
    ·rename_i τ c hx;obtain⟨rfl,hK⟩:=h;refine⟨_,hK,fun Γ w ρ hr=>?_⟩;obtain⟨r1,r2,r3,_⟩:=ops hr;rw[hx]at r1;obtain⟨b,off,ll,g1,g2,g3,g4⟩:=TC r1;refine⟨_,arr r2 r3 g1,?_⟩;have z9w:AU Γ.H (.slice (P.bytesOf E) (tyF P 11 E)) [.slice (some ⟨b,off,none⟩) n n] (.slice c.elems):=by
      simp only[AU]at g4;obtain⟨cs,rfl,q1,q2,q3,q4⟩:=g4;refine Eg q1 (bx _) hnm hnb (.inr ⟨b,off,ll,rfl,g2,by simpa[Ty.size]using g3,fun i c' hi=>?_⟩);have hi':i<n:=by rw[<-q1];exact(cd.1 hi).1
      have hle:(i+1)*(tyF P 11 E).size<=n*(tyF P 11 E).size:=cf _ hi';rw[da]at hle;have:=q4 i c' hi;simp only[Ty.size]at this;rw[FB _ _ _ _ _ (by omega)]at this;exact this
     have:=dT (l:=l.toNat) (h:=hh.toNat) z9w (by omega) (by omega);simp only[gj,Ii]at this;have e3:(if n=l.toNat then some (⟨b,off,none⟩:Addr)else some ⟨b,off+l.toNat*(tyF P 11 E).size,none⟩)=some (if n=l.toNat then⟨b,off,none⟩else⟨b,off+l.toNat*(tyF P 11 E).size,none⟩):=by split <;> rfl
     rw[e3]at this;exact QL this
    ·exact h.elim
   ·exact h.elim
  ·exact h.elim
end
end
section
theorem C.mR (a b:Int):C.eqb (.int a) (.int b)=(a==b):=by rw[kz,C.Gu];simp
theorem C.mQ (a b:Bool):C.eqb (.bool a) (.bool b)=(a==b):=by rw[kz,C.Gu];simp
theorem C.mS (a b:List UInt8):C.eqb (.str a) (.str b)=(a==b):=by rw[kz,C.Gu];simp
section
variable {P:Program}
theorem Ui:∀{f:Nat} {T:TypeId},GV P f T=true->∃g,f=g+1/\T<P.types.size/\(tyF P f T).known=true
 |0,_,h=>by simp[GV]at h
 |f+1,T,h=>by simp only[GV,bg,decide_eq_true_eq]at h;refine⟨f,rfl,h.1,?_⟩;unfold tyF;rw[if_pos h.1];obtain⟨_,h⟩:=h;split at h <;> rename_i hu <;> first|(simp only[hu,Ty.known];done)|(simp at h;done)|simp[hu,Ty.known]
def Xb (P:Program) (f d:Nat) (T:TypeId):Prop:=
 ∀(H H':Hp) (a b:Value) (c c':C) (w:World),AU H (tyF P f T) a.cells.toList c->Bi a=(tyF P f T).isAgg->AU H' (tyF P f T) b.cells.toList c'->Bi b=(tyF P f T).isAgg->
  (nu d T a b).run P w= .ok (C.eqb c c') w
theorem xR (hP:BS P=true) {f d n:Nat} {E:TypeId} (ih:Xb P f d E) (hok:GV P f E=true) {H H':Hp} {xs ys:Array Value} {cs cs':List C} {w:World}
  (hx:AU H (.arr n (tyF P f E)) xs.toList (.agg cs)) (hy:AU H' (.arr n (tyF P f E)) ys.toList (.agg cs')):∀(is:List Nat),(∀i∈is,i<n)->
  ∃r,(wo d E (P.cellsOf E) xs ys is).run P w= .ok r w/\(r=true↔∀i∈is,cs.getD i .nil=cs'.getD i .nil)
 | [],_=>⟨true,by simp[wo],by simp⟩|i::is,hi=>by
  obtain⟨g,rfl,hE,hk⟩:=Ui hok;obtain⟨r',hr',z8U⟩:=xR hP ih hok hx hy is (fun j hj=>hi j (by simp[hj]));have hin:=hi i (by simp);have hch:(Ty.arr n (tyF P (g+1) E)).child i=some (i*(tyF P (g+1) E).size,tyF P (g+1) E):=by simp only[Ty.child];rw[if_pos hin]
  obtain⟨_,b1,r1⟩:=hx.get hch;obtain⟨_,b2,r2⟩:=hy.get hch;obtain⟨u,p1,p2,p3⟩:=Lx (f:=g) hP hE rfl hk (by simpa using b1) hx.one w;obtain⟨v,q1,q2,q3⟩:=Lx (f:=g) hP hE rfl hk (by simpa using b2) hy.one w;have heq:=ih H H' u v _ _ w (p2 ▸ r1) p3 (q2 ▸ r2) q3;rw[Dq hP]at p1 q1;simp only[wo,cz,p1,q1,heq,cu,C.get];cases hc:C.eqb (cs.getD i .nil) (cs'.getD i .nil)with
  |false=>
   refine⟨false,by simp,?_⟩;simp only[fq,false_iff];intro yq;have:=C.Gu.2 (yq i (by simp));rw[hc]at this;cases this
  |true=>
   refine⟨r',by simpa using hr',?_⟩;rw[z8U];constructor;{intro h j hj;rcases List.mem_cons.1 hj with rfl|hj;{exact C.Gu.1 hc};{exact h j hj}};{intro h j hj;exact h j (by simp[hj])}
theorem xQ (hP:BS P=true) {f d:Nat} {H H':Hp} {xs ys:Array Value} {w:World}:∀(gs:List Field) (cs cs':List C),(∀g∈gs,g.name≠ "_" /\GV P f g.type=true/\Xb P f d g.type)->Dx xs.toList->Dx ys.toList->
  CN H (gs.map fun g=>tyF P f g.type) (gs.map (·.offset)) xs.toList cs->CN H' (gs.map fun g=>tyF P f g.type) (gs.map (·.offset)) ys.toList cs'->
  ∃r,(vq d xs ys gs).run P w= .ok r w/\(r=true↔cs=cs')
 | [],cs,cs',_,_,_,hx,hy=>by simp only[List.map_nil,CN]at hx hy;subst hx;subst hy;exact⟨true,by simp[vq],by simp⟩
 |g::gs,cs,cs',yq,h1,h2,hx,hy=>by
  simp only[List.map_cons,CN]at hx hy;obtain⟨c,cs,rfl,b1,r1,hx'⟩:=hx;obtain⟨c',cs',rfl,b2,r2,hy'⟩:=hy;obtain⟨hn,hok,ih⟩:=yq g (by simp);obtain⟨r',hr',z8U⟩:=xQ hP gs cs cs' (fun g hg=>yq g (by simp[hg])) h1 h2 hx' hy' (w:=w);obtain⟨f',rfl,hE,hk⟩:=Ui hok;obtain⟨u,p1,p2,p3⟩:=Lx (f:=f') hP hE rfl hk (by simpa using b1) h1 w;obtain⟨v,q1,q2,q3⟩:=Lx (f:=f') hP hE rfl hk (by simpa using b2) h2 w;have heq:=ih H H' u v _ _ w (p2 ▸ r1) p3 (q2 ▸ r2) q3;simp only[vq,hn,ne_eq,not_false_eq_true,if_true,cz,p1,q1,heq,cu];cases hc:C.eqb c c' with
  |false=>
   refine⟨false,by simp,?_⟩;simp only[fq,false_iff];intro h;have:=C.Gu.2 (List.cons.inj h).1;rw[hc]at this;cases this
  |true=>
   refine⟨r',by simpa using hr',?_⟩;rw[z8U,C.Gu.1 hc];simp
theorem eH (hP:BS P=true):∀(f d:Nat) (T:TypeId),GV P f T=true->f<=d->Xb P f d T
 |0,_,_,h,_=>by simp[GV]at h
 |f+1,0,_,_,hd=>by omega
 |f+1,d+1,T,h,hd=>by
  intro H H' a b c c' w ra ha rb hb;simp only[GV,bg,decide_eq_true_eq]at h;obtain⟨hT,h⟩:=h;have ho:=Iz hP hT;unfold okT at ho;unfold tyF at ra ha rb hb;rw[if_pos hT]at ra ha rb hb;cases hu:P.underlying T with
  |none=>simp[hu]at h|some kd=>
   cases kd <;> simp only[hu,fq]at h ra ha rb hb ho
   case bool=>
    rw[DX (by simpa[Ty.isAgg]using ha)]at ra;rw[DX (by simpa[Ty.isAgg]using hb)]at rb;simp only[AU]at ra rb;obtain⟨x,rfl,e1⟩:=ra;obtain⟨y,rfl,e2⟩:=rb;simp at e1 e2;subst e1;subst e2;simp[nu,run_underlying hu,C.mQ]
   case int k=>
    rw[DX (by simpa[Ty.isAgg]using ha)]at ra;rw[DX (by simpa[Ty.isAgg]using hb)]at rb;simp only[AU]at ra rb;obtain⟨x,rfl,e1,_⟩:=ra;obtain⟨y,rfl,e2,_⟩:=rb;simp at e1 e2;subst e1;subst e2;simp[nu,run_underlying hu,C.mR]
   case string=>
    rw[DX (by simpa[Ty.isAgg]using ha)]at ra;rw[DX (by simpa[Ty.isAgg]using hb)]at rb;simp only[AU]at ra rb;obtain⟨x,rfl,e1,_⟩:=ra;obtain⟨y,rfl,e2,_⟩:=rb;simp at e1 e2;subst e1;subst e2;simp[nu,run_underlying hu,C.mS,beq_toListBytes,ir]
   case array n E=>
    simp[Ty.isAgg]at ha hb;cases a <;> simp[Bi]at ha;cases b <;> simp[Bi]at hb;rename_i xs ys;simp only[ek]at ra rb;have ra':=ra;have rb':=rb;simp only[AU]at ra' rb';obtain⟨cs,rfl,l1,_⟩:=ra';obtain⟨cs',rfl,l2,_⟩:=rb';simp at ho;obtain⟨i,hi⟩:∃i,P.info? E=some i:=by
     cases hi:P.info? E with
     |none=>simp[uo,ho.2]at hi|some i=>exact⟨i,rfl⟩
    obtain⟨r,hr,z9c⟩:=xR hP (eH hP f d E h (by omega)) h ra rb (List.range n) (fun i hi=>gp.1 hi) (w:=w);rw[run_equalIn_array w d xs ys hu hi,hr];congr 1;rw[kz,z9c,C.Gu];constructor;{intro yq;congr 1;refine List.ext_getElem (by omega) fun j h1 h2=>?_;have:=yq j (gp.2 (by omega));simpa[bt,bo h1,bo h2]using this};{intro h _ _;cases h;rfl}
   case struct fs=>
    simp[Ty.isAgg]at ha hb;cases a <;> simp[Bi]at ha;cases b <;> simp[Bi]at hb;rename_i xs ys;simp only[ek]at ra rb;simp only[AU]at ra rb;obtain⟨cs,rfl,_,o1,f1⟩:=ra;obtain⟨cs',rfl,_,o2,f2⟩:=rb;simp only[bg,je,dv,bne_iff_ne,ne_eq]at h;have hfs:P.fieldsOf T=fs:=by simp[Program.fieldsOf,hu]
    obtain⟨r,hr,z9c⟩:=xQ hP (f:=f) (d:=d) fs.toList cs cs' (fun g hg=>⟨(h.2 g hg).1,(h.2 g hg).2,eH hP f d g.type (h.2 g hg).2 (by omega)⟩) o1 o2 f1 f2 (w:=w);rw[run_equalIn_struct w d T xs ys (by rw[hfs];exact hu) h.1,hfs,hr];congr 1;rw[kz,z9c,C.Gu];simp
theorem xT (hP:BS P=true) {T:TypeId} (h:Cr P T=true) {H H':Hp} {a b:Value} {c c':C} (w:World) (ra:AU H (ty P T) a.cells.toList c) (ha:Bi a=(ty P T).isAgg)
  (rb:AU H' (ty P T) b.cells.toList c') (hb:Bi b=(ty P T).isAgg):(kl T a b).run P w= .ok (C.eqb c c') w:=by
 unfold Cr at h;simp only[bg]at h;exact eH hP 12 10000 T h.1 (by decide) H H' a b c c' w ra ha rb hb
theorem iA (hP:BS P=true) {o:Oper} {op:BinOp} {T T2:TypeId} {x y:Operand} {ρa:Operand->V} {K:V->Prop} {τ:Ty} (ho:o.op= .binOp op T x y T2) (ht:ty P T=τ) (ha:τ.isAgg=true)
  (hok:Cr P T=true) (hx:(ρa x).Dr τ) (hy:(ρa y).Dr τ)
  (h:JN op (C.eqb (ρa x).toC (ρa y).toC) K):∃r,K r/\ED P ρa o r:=by
 subst ht;obtain⟨cx,ex⟩:∃c,ρa x= .d (ty P T) c:=by cases hv:ρa x <;> simp[hv,V.Dr]at hx;subst hx;exact⟨_,rfl⟩
 obtain⟨cy,ey⟩:∃c,ρa y= .d (ty P T) c:=by cases hv:ρa y <;> simp[hv,V.Dr]at hy;subst hy;exact⟨_,rfl⟩
 have hg:P.eqGuardType P.depth T=false:=by unfold Cr at hok;simp only[bg,je]at hok;exact hok.2
 rw[ex,ey]at h;simp only[V.toC]at h;have guard:∀(a b:Value) (w:World),(∃Γ,AK Γ (ρa x) a/\AK Γ (ρa y) b)->(eqGuard op T x y a b).run P w= .ok () w:=by rintro a b w ⟨Γ,h1,h2⟩;rw[ex]at h1;rw[ey]at h2;obtain⟨_,h1⟩:=EA.1 h1;obtain⟨_,h2⟩:=EA.1 h2;rw[ha]at h1 h2;cases a <;> simp[Bi]at h1;cases b <;> simp[Bi]at h2;exact run_eqGuard_agg w op T x y _ _ hg
 have eqr:∀(Γ:G) (w:World) (a b:Value),AK Γ (ρa x) a->AK Γ (ρa y) b->(∃xs,a= .agg xs)/\(∃ys,b= .agg ys)/\(kl T a b).run P w= .ok (C.eqb cx cy) w:=by intro Γ w a b h1 h2;rw[ex]at h1;rw[ey]at h2;obtain⟨r1,h1⟩:=EA.1 h1;obtain⟨r2,h2⟩:=EA.1 h2;have:=xT hP hok w r1 h1 r2 h2;rw[ha]at h1 h2;cases a <;> simp[Bi]at h1;cases b <;> simp[Bi]at h2;exact⟨⟨_,rfl⟩,⟨_,rfl⟩,this⟩
 unfold JN at h;split at h;{refine⟨_,h,ED.HC ho guard fun Γ w a b h1 h2=>?_⟩;obtain⟨⟨xs,rfl⟩,⟨ys,rfl⟩,e⟩:=eqr Γ w a b h1 h2;exact⟨_,by simp[binOp,e],Dn⟩};{refine⟨_,h,ED.HC ho guard fun Γ w a b h1 h2=>?_⟩;obtain⟨⟨xs,rfl⟩,⟨ys,rfl⟩,e⟩:=eqr Γ w a b h1 h2;exact⟨_,by simp[binOp,e],Dn⟩};{exact h.elim}
theorem Vq {x:V} {r:Option Bool} (h:x.SK=some r) {Γ:G} {v:Value} (hr:AK Γ x v):∃a n cap,v= .slice a n cap/\∀b,r=some b->a.isNone=b:=by
 cases x <;> simp only[V.SK,reduceCtorEq]at h
 case ye=>cases h;exact⟨none,0,0,GM hr,fun b e=>by cases e;rfl⟩
 case emp eb e=>
  cases h;obtain⟨h1,_⟩:=(Ch rfl rfl).1 hr;simp only[AA]at h1;obtain⟨a,h1⟩:=h1;simp at h1;exact⟨a,0,0,h1,fun b e=>by cases e⟩
 case d τ c=>
  split at h
  ·rename_i eb e;cases h;obtain⟨h1,h2⟩:=EA.1 hr;rw[DX (by simpa[Ty.isAgg]using h2)]at h1;obtain⟨a,n,cap,e1,e2,e3,_,_,_,e7⟩:=JC h1;simp at e1;refine⟨a,n,cap,e1,fun b hb=>?_⟩;cases hc:c.elems with
   |nil=>rw[hc]at hb;simp at hb|cons y ys=>
    rw[hc]at hb e3;simp at hb;rcases e7 with e7|⟨b',off,l,rfl,_⟩;{simp at e3;omega};{rw[hb];rfl}
  ·cases h
 case sl eb e cs t=>
  cases h;obtain⟨h1,_⟩:=(Ch rfl rfl).1 hr;simp only[AA]at h1;obtain⟨a,n,cap,e1,h1,_⟩:=h1;simp at e1;obtain⟨a',n',z8r,e1',e2,e3,_,_,_,e7⟩:=JC h1;simp at e1';obtain⟨rfl,rfl,rfl⟩:=e1';simp only[C.elems]at e3;refine⟨a,n,cap,e1,fun b hb=>?_⟩;cases cs with
  |nil=>simp at hb|cons y ys=>
   simp at hb;rcases e7 with e7|⟨b',off,l,rfl,_⟩;{simp at e3;omega};{rw[hb];rfl}
 case sr k q lo n cp eb e=>
  cases h;obtain⟨h1,_⟩:=(Ch rfl rfl).1 hr;simp only[AA]at h1;rcases h1 with⟨_,rfl,a,e1⟩|⟨b0,τ0,o,m,cap,_,_,_,⟨a,e1,h4⟩,h5,_⟩;{simp at e1;exact⟨a,0,0,e1,fun b hb=>by simp at hb⟩};simp at e1;refine⟨a,n,cap,e1,fun b hb=>?_⟩;by_cases hn:n=0;{subst hn;simp at hb}
  ·have:(n==0)=false:=by simpa using hn
   rw[this]at hb;simp at hb;rcases h4 with h4|rfl;{omega};{rw[hb];rfl}
theorem xS {T:TypeId} {eb:Nat} {e:Ty} (hP:BS P=true) (hT:ty P T= .slice eb e) (a:Option Addr) (n cap:Nat) (w:World):
  (kl T (.slice a n cap) (.slice none 0 0)).run P w= .ok a.isNone w:=by
 obtain⟨E,hu,_⟩:=Ie hP hT;unfold kl vr;rw[show(10000:Nat)=9999+1 from rfl,nu,cz,run_underlying hu];cases a <;> rfl
theorem sS {Γ:G} {r:Option Bool} {b:Bool} (h:∀c,r=some c->b=c):AK Γ (Iy r) (.bool b):=by
 cases r with
 |none=>
  refine(Ca (x:=.top .bool) rfl).2 ⟨?_,rfl⟩;simp only[AA];exact⟨rfl,fun v hv=>by simp[ek]at hv;subst hv;rfl,fun _=>⟨b,rfl⟩⟩
 |some c=>rw[h c rfl];exact Dn
theorem q6t (hP:BS P=true) {o:Oper} {op:BinOp} {T T2:TypeId} {x y:Operand} {ρa:Operand->V} {K:V->Prop} (ho:o.op= .binOp op T x y T2)
  (h:Pp P op T (ρa x) (ρa y) K):∃r,K r/\ED P ρa o r:=by
 unfold Pp at h;split at h
 ·rename_i k hk;obtain⟨hx,h⟩:=h;obtain⟨cx,ex⟩:=V.PN hx;split at h;{rename_i hs;obtain⟨hy,h⟩:=h;cases hyv:ρa y <;> simp only[hyv,V.Fv]at hy;rename_i τ cy;cases τ <;> simp only at hy;rename_i ky;rw[hyv,ex]at h;simp only[V.toInt]at h;cases op <;> simp[BinOp.LU]at hs <;> simp only[Ni]at h;{refine⟨_,h.2,ED.HC ho (fun a b w ⟨Γ,ha,hb⟩=>?_) fun Γ w a b ha hb=>?_⟩;{rw[ex]at ha;rw[hyv]at hb;rw[(EU ha).1,(EU hb).1];rw[Yo];rfl};{rw[ex]at ha;rw[hyv]at hb;obtain⟨rfl,_⟩:=EU ha;obtain⟨rfl,_⟩:=EU hb;exact⟨_,by simp only[binOp,Op.shift];rw[if_neg (by omega)];rfl,EB (wrap_within k _).1 (wrap_within k _).2⟩}};{refine⟨_,h.2,ED.HC ho (fun a b w ⟨Γ,ha,hb⟩=>?_) fun Γ w a b ha hb=>?_⟩;{rw[ex]at ha;rw[hyv]at hb;rw[(EU ha).1,(EU hb).1];rw[Yo];rfl};{rw[ex]at ha;rw[hyv]at hb;obtain⟨rfl,_,ha1,ha2⟩:=EU ha;obtain⟨rfl,_⟩:=EU hb;exact⟨_,by simp only[binOp,Op.shift];rw[if_neg (by omega)];rfl,EB (nB _ ha1 ha2).1 (nB _ ha1 ha2).2⟩}}}
  ·rename_i hs;obtain⟨hy,h⟩:=h;obtain⟨cy,ey⟩:=V.PN hy;by_cases hin:k.min<=cx.toInt/\cx.toInt<=k.max;{rw[ex,ey]at h;obtain⟨r,hK,hr⟩:=q2I (by simpa using hs) h T hin (P:=P);refine⟨r,hK,ED.HC ho (fun a b w ⟨Γ,ha,hb⟩=>?_) fun Γ w a b ha hb=>?_⟩;{rw[ex]at ha;rw[ey]at hb;rw[(EU ha).1,(EU hb).1];rw[Yo];rfl};{rw[ex]at ha;rw[ey]at hb;obtain⟨rfl,_⟩:=EU ha;obtain⟨rfl,_⟩:=EU hb;exact hr Γ w}}
   · -- no value is so: nothing to show
    have hno:∀(Γ:G) (w:World) (a:Value),¬AK Γ (ρa x) a:=by intro Γ w a ha;rw[ex]at ha;exact hin (EU ha).2.2
    have hK:∃r,K r:=by rw[ex,ey]at h;cases op <;> simp only[KJ,V.toInt]at h <;> first|exact⟨_,h⟩|exact⟨_,h.2⟩|exact h.elim
    obtain⟨r,hK⟩:=hK;exact⟨r,hK,ED.HC ho (fun a b w ⟨Γ,ha,_⟩=>(hno Γ w a ha).elim) fun Γ w a b ha _=>(hno Γ w a ha).elim⟩
 ·rename_i hk;obtain⟨hx,hy,h⟩:=h;obtain⟨cx,ex⟩:=V.VF hx;obtain⟨cy,ey⟩:=V.VF hy;have hu:=z0a hk;rw[ex,ey]at h;simp only[V.toBool]at h;have heq:∀(a b:Bool) (w:World),(kl T (.bool a) (.bool b)).run P w= .ok (a==b) w:=by intro a b w;unfold kl vr;rw[show(10000:Nat)=9999+1 from rfl,nu,cz,run_underlying hu];rfl
  split at h;{refine⟨_,h,ED.HC ho (fun a b w ⟨Γ,ha,hb⟩=>?_) fun Γ w a b ha hb=>?_⟩;{rw[ex]at ha;rw[ey]at hb;rw[(GL ha).1,(GL hb).1];rw[mP];rfl};{rw[ex]at ha;rw[ey]at hb;obtain⟨rfl,_⟩:=GL ha;obtain⟨rfl,_⟩:=GL hb;exact⟨_,by simp[binOp,heq],Dn⟩}};{refine⟨_,h,ED.HC ho (fun a b w ⟨Γ,ha,hb⟩=>?_) fun Γ w a b ha hb=>?_⟩;{rw[ex]at ha;rw[ey]at hb;rw[(GL ha).1,(GL hb).1];rw[mP];rfl};{rw[ex]at ha;rw[ey]at hb;obtain⟨rfl,_⟩:=GL ha;obtain⟨rfl,_⟩:=GL hb;exact⟨_,by simp[binOp,heq],Dn⟩}};{exact h.elim}
 ·rename_i hk;obtain⟨hx,hy,h⟩:=h;obtain⟨cx,ex⟩:=V.Mv hx;obtain⟨cy,ey⟩:=V.Mv hy;rw[ex,ey]at h;obtain⟨r,hK,hr⟩:=q9f (P:=P) h T;refine⟨r,hK,ED.HC ho (fun a b w ⟨Γ,ha,hb⟩=>?_) fun Γ w a b ha hb=>?_⟩;{rw[ex]at ha;rw[ey]at hb;rw[(IQ ha).1,(IQ hb).1];rw[q1Q];rfl};{rw[ex]at ha;rw[ey]at hb;obtain⟨rfl,_⟩:=IQ ha;obtain⟨rfl,_⟩:=IQ hb;exact hr Γ w}
 ·rename_i hk
  have key:∀(b1 b2:Bool),(ρa x).Hv=some b1->(ρa y).Hv=some b2->(b1=true\/b2=true)->
    (∀(a b:Value) (w:World),(∃Γ,AK Γ (ρa x) a/\AK Γ (ρa y) b)->(eqGuard op T x y a b).run P w= .ok () w)/\
    (∀(Γ:G) (w:World) (a b:Value),AK Γ (ρa x) a->AK Γ (ρa y) b->(op= .eql->(binOp op T a b).run P w= .ok (.bool (b1&&b2)) w)/\(op= .neq->(binOp op T a b).run P w= .ok (.bool (!(b1&&b2))) w)):=by
   intro b1 b2 h1 h2 h12;refine⟨fun a b w ⟨Γ,ha,hb⟩=>?_,fun Γ w a b ha hb=>?_⟩;{obtain⟨_,rfl,_⟩:=SJ h1 ha;obtain⟨_,rfl,_⟩:=SJ h2 hb;rw[q1P];rfl}
   ·obtain⟨pa,rfl,hpa⟩:=SJ h1 ha;obtain⟨pb,rfl,hpb⟩:=SJ h2 hb
    have:=q8u (P:=P) hk (a:=pa) (b:=pb) (by
     rcases h12 with rfl|rfl;{left;simpa using hpa}
     ·right;simpa using hpb) w
    refine⟨fun e=>?_,fun e=>?_⟩ <;> subst e <;> simp[binOp,this,hpa,hpb]
  split at h;{rename_i a hx hy;obtain⟨k1,k2⟩:=key _ _ hx hy (.inr rfl);exact⟨_,h,ED.HC ho k1 fun Γ w u v hu hv=>⟨_,by simpa using(k2 Γ w u v hu hv).1 rfl,Dn⟩⟩};{rename_i a hx hy;obtain⟨k1,k2⟩:=key _ _ hx hy (.inr rfl);exact⟨_,h,ED.HC ho k1 fun Γ w u v hu hv=>⟨_,by simpa using(k2 Γ w u v hu hv).2 rfl,Dn⟩⟩};{rename_i b _ hx hy;obtain⟨k1,k2⟩:=key _ _ hx hy (.inl rfl);exact⟨_,h,ED.HC ho k1 fun Γ w u v hu hv=>⟨_,by simpa using(k2 Γ w u v hu hv).1 rfl,Dn⟩⟩};{rename_i b _ hx hy;obtain⟨k1,k2⟩:=key _ _ hx hy (.inl rfl);exact⟨_,h,ED.HC ho k1 fun Γ w u v hu hv=>⟨_,by simpa using(k2 Γ w u v hu hv).2 rfl,Dn⟩⟩};{exact h.elim}
 ·rename_i n e ht;obtain⟨hok,hx,hy,h⟩:=h;exact iA hP ho ht rfl hok hx hy h
 ·rename_i sz os fs ht;obtain⟨hok,hx,hy,h⟩:=h;exact iA hP ho ht rfl hok hx hy h
 ·rename_i eb e ht;have guard:∀(a b:Value) (w:World),(∃n1 c1 a1,a= .slice a1 n1 c1)->b= .slice none 0 0->(eqGuard op T x y a b).run P w= .ok () w:=by rintro a b w ⟨n1,c1,a1,rfl⟩ rfl;unfold eqGuard;split <;> rfl
  split at h;{rename_i r hx hy;refine⟨_,h,ED.HC ho (fun a b w ⟨Γ,ha,hb⟩=>?_) fun Γ w a b ha hb=>?_⟩;{obtain⟨a1,n1,c1,rfl,_⟩:=Vq hx ha;rw[hy]at hb;exact guard _ _ w ⟨_,_,_,rfl⟩ (GM hb)};{obtain⟨a1,n1,c1,rfl,hq⟩:=Vq hx ha;rw[hy]at hb;rw[GM hb];exact⟨.bool a1.isNone,by simp[binOp,xS hP ht],sS hq⟩}}
  ·rename_i r hx hy;refine⟨_,h,ED.HC ho (fun a b w ⟨Γ,ha,hb⟩=>?_) fun Γ w a b ha hb=>?_⟩;{obtain⟨a1,n1,c1,rfl,_⟩:=Vq hx ha;rw[hy]at hb;exact guard _ _ w ⟨_,_,_,rfl⟩ (GM hb)}
   ·obtain⟨a1,n1,c1,rfl,hq⟩:=Vq hx ha;rw[hy]at hb;rw[GM hb];refine⟨.bool (!a1.isNone),by simp[binOp,xS hP ht],sS fun c hc=>?_⟩;cases r with
    |none=>cases hc
    |some b=>simp at hc;rw[hq b rfl,hc];simp
  ·exact h.elim
 ·exact h.elim
end
end
section
def pv (P:Program) (op:Op) (ρ:Operand->V) (K:V->Prop):Prop:=
 match op with
 | .move x=>K (ρ x)| .assign x=>K (ρ x)| .pick c a b=>(ρ c).isBool/\((ρ c).toBool=true->K (ρ a))/\((ρ c).toBool=false->K (ρ b))| .nilCheck x=>(ρ x).Hv=some false/\K (ρ x)| .binOp op T x y _=>Pp P op T (ρ x) (ρ y) K| .unOp op T x=>Sg P op T (ρ x) K| .convert src dst x=>NU P src dst (ρ x) K| .fieldAddr T x i=>Pq P T (ρ x) i K| .field T x i=>(ρ x).ty=ty P T/\(ρ x).ty.DF=true/\((ρ x).ty.child i).isSome=true/\((ρ x).ty.get i).known=true/\(ρ x).plain=true/\(ρ x).get i≠.any/\K ((ρ x).get i)| .indexAddr T x i=>Pr P T (ρ x) (ρ i) K| .index T x i=>(ρ i).Fv/\(match ty P T with| .arr n e=>(ρ x).ty= .arr n e/\(ρ x).plain=true/\e.known=true/\0<=(ρ i).toInt/\(ρ i).toInt<n/\(ρ x).get (ρ i).toInt.toNat≠.any/\K ((ρ x).get (ρ i).toInt.toNat)| .str=>(ρ x).isStr/\0<=(ρ i).toInt/\(ρ i).toInt<(ρ x).toStr.length/\K (.d (.int .u8) (.int ((ρ x).toStr.getD (ρ i).toInt.toNat 0).toNat))|_=>False)| .slice T x lo hi mx=>Pt P T (ρ x) (lo.map ρ) (hi.map ρ) (mx.map ρ) K| .extract x i=>(match ρ x with| .tup xs=>(match xs[i]? with|some y=>K y|none=>False)|_=>False)| .sliceToArrayPointer T x=>(match ρ x with| .sr k q lo n (some _) _ e=>(match ty P T with| .arr m e'=>e'=e/\0<m/\m<=n/\K (.ptr k (q++[lo]) e)|_=>False)|_=>(match ty P T,(ρ x).Fk with| .arr n e,some (_,e',cs)=>e'=e/\0<n/\n<=cs.length/\K (.yf (.arr n e) (.agg (cs.take n)))|_,_=>False))| .makeFunc fn first yg=>(match fn,first.toList with| .func f,[]=>(yg.toList.map ρ).all V.plain=true/\K (.fn f (yg.toList.map ρ))|_,_=>False)
 | .call c=>(match c.callee with| .builtin b=>Sf P b c.argTypes (c.args.toList.map ρ) K|_=>False)|_=>False
section
variable {P:Program}
theorem TB {Γ:G}:∀{xs:List V} {vs:List Value},xs.length=vs.length->(∀(i:Nat) x v,xs[i]? =some x->vs[i]? =some v->x.plain=true/\AK Γ x v)->Bb Γ xs vs
 | [],[],_,_=>by simp[Bb]
 |x::xs,v::vs,hl,h=>by simp only[Bb];obtain⟨h1,h2⟩:=h 0 x v rfl rfl;obtain⟨h3,h4⟩:=(Ca h1).1 h2;refine⟨v,vs,rfl,h3,?_,TB (by simpa using hl) fun i x v hx hv=>h (i+1) x v (by simpa using hx) (by simpa using hv)⟩;rw[<-h4];cases v <;> rfl
 | [],_::_,hl,_=>by simp at hl
 |_::_,[],hl,_=>by simp at hl
theorem Bb.get {Γ:G}:∀{xs:List V} {vs:List Value} {i:Nat} {x:V},Bb Γ xs vs->xs[i]? =some x->∃v,vs[i]? =some v/\AA Γ none [] x v.cells.toList/\Bi v=x.ty.isAgg
 | [],_,_,_,_,h=>by simp at h
 |y::xs,vs,0,x,r,h=>by simp only[Bb]at r;obtain⟨v,vs',rfl,h1,h2,_⟩:=r;simp at h;subst h;refine⟨v,rfl,h1,?_⟩;rw[<-h2];cases v <;> rfl
 |y::xs,vs,i+1,x,r,h=>by simp only[Bb]at r;obtain⟨v,vs',rfl,_,_,h3⟩:=r;obtain⟨u,a,b,c⟩:=Bb.get h3 (show xs[i]? =some x by simpa using h);exact⟨u,by simpa using a,b,c⟩
theorem q9u (hP:BS P=true) {o:Oper} {x:Operand} {ts:Array TypeId} {ρa:Operand->V} {K:V->Prop} (ho:o.op= .call {callee:=.builtin .len,args:=#[x],argTypes:=ts})
  (h0:0<ts.size) (h:Ps P (ts.getD 0 0) (ρa x) K):∃r,K r/\ED P ρa o r:=by
 have hts:ts[0]? =some (ts.getD 0 0):=by simp[dw h0]
 have hx:∀{Γ:G} {ρ:Operand->Value},(∀y∈o.op.operands,AK Γ (ρa y) (ρ y))->AK Γ (ρa x) (ρ x):=fun hr=>hr x (by rw[ho];simp[cm,du]);have run:∀{ρ:Operand->Value} {w:World} {v:Value},(lb ts o.type #[ρ x]).run P w= .ok v w->(execOp ρ o).run P w= .ok (.value v) w:=by intro ρ w v hv;unfold execOp;simp[ho,resolve,invoke,builtin,hv]
 generalize hT:ts.getD 0 0=T at h hts;have bd:∀{n:Nat},n<=maxLen->IntKind.i64.min<=(n:Int)/\(n:Int)<=IntKind.i64.max:=by
  intro n hn;have e1:IntKind.i64.min= -9223372036854775808:=by decide
  have e2:IntKind.i64.max=9223372036854775807:=by decide
  unfold maxLen at hn;omega
 unfold Ps at h;split at h
 ·rename_i τ c ht hxa;obtain⟨rfl,hK⟩:=h;refine⟨_,hK,fun Γ w ρ hr=>?_⟩;have hxr:=hx hr;rw[hxa]at hxr;obtain⟨hv,_,hl⟩:=IQ hxr;have:=bd (n:=c.toStr.length) (by unfold maxLen;omega);refine⟨_,run ?_,EB this.1 this.2⟩;have e:(⟨c.toStr.toArray⟩:ByteArray).size=c.toStr.length:=by simp[iw]
  simp[lb,hts,hv,run_underlying (Kk ht),goInt,e]
 ·rename_i eb e ht hxa;refine⟨_,h,fun Γ w ρ hr=>?_⟩;have hxr:=hx hr;rw[hxa]at hxr;have hv:=GM hxr;obtain⟨E,hu,_⟩:=Ie hP ht;refine⟨_,run ?_,EB (by decide) (by decide)⟩;simp[lb,hts,hv,run_underlying hu,goInt]
 ·rename_i eb e k q lo n cp eb' e' ht hxa;refine⟨_,h,fun Γ w ρ hr=>?_⟩;have hxr:=hx hr;rw[hxa]at hxr;obtain⟨cap,a,hv,a5,a6⟩:=dV hxr;obtain⟨E,hu,_⟩:=Ie hP ht;have:=bd (n:=n) (by omega);refine⟨_,run ?_,EB this.1 this.2⟩;simp[lb,hts,hv,run_underlying hu,goInt]
 ·rename_i eb e _ ht _ _;split at h;{rename_i eb' e' cs hs;obtain⟨rfl,rfl,hK⟩:=h;refine⟨_,hK,fun Γ w ρ hr=>?_⟩;obtain⟨a,n,cap,hv,hl,hnc,hcm,_⟩:=Kb (hx hr) hs;obtain⟨E,hu,_⟩:=Ie hP ht;have:=bd (n:=cs.length) (by omega);refine⟨_,run ?_,EB this.1 this.2⟩;simp[lb,hts,hv,run_underlying hu,goInt,hl]};{exact h.elim}
 ·rename_i n e x' ht;refine⟨_,h.2,fun Γ w ρ hr=>?_⟩;obtain⟨E,hu,_⟩:=QY ht
  refine⟨_,run ?_,EB (by have e1:IntKind.i64.min= -9223372036854775808:=by decide
                         omega) (by have e1:IntKind.i64.max=9223372036854775807:=by decide
                                    have:=h.1;omega)⟩
  simp[lb,hts,run_underlying hu,goInt]
 ·exact h.elim
theorem tQ {H:Hp} {e:Ty} {ys:List C} {m:Nat} {news:List Value} (h1:ys.length=m) (hl:news.length=m*e.size) (hr:∀i c',ys[i]? =some c'->AU H e (chunk news (i*e.size) e.size) c'):Dx news:=by
 intro v hv;obtain⟨j,hj⟩:=List.getElem?_of_mem hv;have hjl:j<m*e.size:=by rw[<-hl];exact(cd.1 hj).1
 have hs:0<e.size:=by rcases Nat.eq_zero_or_pos e.size with h|h;· rw[h,Nat.mul_zero]at hjl;omega
                      ·exact h
 have hd:j / e.size<m:=Nat.div_lt_of_lt_mul (by rw[Nat.mul_comm];exact hjl);have hi:ys[j / e.size]? =some ys[j / e.size]:=bo (by omega);have:=(hr _ _ hi).one;refine this v ?_;have z8f:j%e.size<e.size:=Nat.mod_lt _ hs;have:(chunk news (j / e.size*e.size) e.size)[j%e.size]? =some v:=by simp only[chunk,fh,iz];rw[if_pos z8f,Nat.div_add_mod' j e.size];exact hj
 exact fa this
theorem q6u (hP:BS P=true) {o:Oper} {ρa:Operand->V} {K:V->Prop} (h:pv P o.op ρa K):∃r,K r/\ED P ρa o r:=by
 unfold pv at h;split at h;{rename_i x ho;refine⟨_,h,fun Γ w ρ hr=>⟨_,?_,hr x (by rw[ho];simp[cm])⟩⟩;unfold execOp;simp[ho]};{rename_i x ho;refine⟨_,h,fun Γ w ρ hr=>⟨_,?_,hr x (by rw[ho];simp[cm])⟩⟩;unfold execOp;simp[ho]}
 ·rename_i c a b ho;obtain⟨hb,h1,h2⟩:=h;obtain⟨cc,ec⟩:=V.VF hb;cases hc:(ρa c).toBool with
  |true=>
   refine⟨_,h1 hc,fun Γ w ρ hr=>⟨_,?_,hr a (by rw[ho];simp[cm])⟩⟩;have hcr:=hr c (by rw[ho];simp[cm]);rw[ec]at hcr hc;have hv:=(GL hcr).1;simp only[V.toBool]at hc;unfold execOp;simp[ho,hv,hc,asBool]
  |false=>
   refine⟨_,h2 hc,fun Γ w ρ hr=>⟨_,?_,hr b (by rw[ho];simp[cm])⟩⟩;have hcr:=hr c (by rw[ho];simp[cm]);rw[ec]at hcr hc;have hv:=(GL hcr).1;simp only[V.toBool]at hc;unfold execOp;simp[ho,hv,hc,asBool]
 ·rename_i x ho;obtain⟨h1,hK⟩:=h;refine⟨_,hK,fun Γ w ρ hr=>?_⟩;have hx:=hr x (by rw[ho];simp[cm]);obtain⟨a,hv,ha⟩:=SJ h1 hx;refine⟨_,?_,hx⟩;cases a with|none=>simp at ha|some a=>unfold execOp;simp[ho,hv]
 ·rename_i op T x y T2 ho;exact q6t hP ho h
 ·rename_i op T x ho;unfold Sg at h;split at h;{rename_i ht;obtain⟨hb,hK⟩:=h;obtain⟨cc,ec⟩:=V.VF hb;refine⟨_,hK,fun Γ w ρ hr=>?_⟩;have hx:=hr x (by rw[ho];simp[cm]);rw[ec]at hx;have hv:=(GL hx).1;refine⟨_,?_,Dn⟩;unfold execOp;simp[ho,hv,Op.unary,ec,V.toBool]};{rename_i k ht;obtain⟨hb,hK⟩:=h;obtain⟨cc,ec⟩:=V.PN hb;refine⟨_,hK,fun Γ w ρ hr=>?_⟩;have hx:=hr x (by rw[ho];simp[cm]);rw[ec]at hx;have hv:=(EU hx).1;refine⟨_,?_,EB (wrap_within _ _).1 (wrap_within _ _).2⟩;unfold execOp;simp[ho,hv,Op.unary,sy,ec,V.toInt]};{exact h.elim}
 ·rename_i src dst x ho;unfold NU at h;split at h;{rename_i k k2 h1 h2;obtain⟨hb,hK⟩:=h;obtain⟨cc,ec⟩:=V.PN hb;refine⟨_,hK,fun Γ w ρ hr=>?_⟩;have hx:=hr x (by rw[ho];simp[cm]);rw[ec]at hx;have hv:=(EU hx).1;refine⟨_,?_,EB (wrap_within _ _).1 (wrap_within _ _).2⟩;unfold execOp;simp[ho,hv,convert,run_underlying (zV h1),run_underlying (zV h2),Conv.intToInt,ec,V.toInt]};{rename_i h1 h2;obtain⟨hb,hK⟩:=h;obtain⟨cc,ec⟩:=V.Mv hb;refine⟨_,hK,fun Γ w ρ hr=>?_⟩;have hx:=hr x (by rw[ho];simp[cm]);have hx':=hx;rw[ec]at hx';have hv:=(IQ hx').1;refine⟨_,?_,hx⟩;unfold execOp;simp[ho,hv,convert,run_underlying (Kk h1),run_underlying (Kk h2)]};{exact h.elim}
 ·rename_i T x i ho;exact q9s hP ho h
 ·rename_i T x i ho;exact q9r hP ho h
 ·rename_i T x i ho;exact q9t hP ho h
 ·rename_i T x i ho;obtain⟨hi,h⟩:=h;split at h
  ·rename_i n e ht;obtain⟨e1,e5,e4,h0,h1,e6,hK⟩:=h;refine⟨_,hK,fun Γ w ρ hr=>?_⟩;have hx:=hr x (by rw[ho];simp[cm]);obtain⟨ki,hiv⟩:=Qk hi (hr i (by rw[ho];simp[cm]));obtain⟨g1,g2⟩:=(Ca e5).1 hx;rw[e1]at g2;cases hv:ρ x <;> simp[hv,Bi,Ty.isAgg]at g2;rename_i cs;rw[hv]at g1;simp only[ek]at g1;obtain⟨E,hu,hE⟩:=QY ht;have hT:T<P.types.size:=by rcases Nat.lt_or_ge T P.types.size with hh|hh;{exact hh};{unfold ty tyF at ht;rw[if_neg (Nat.not_lt.2 hh)]at ht;cases ht}
   have hok:=Iz hP hT;unfold okT at hok;simp only[hu]at hok;simp at hok;obtain⟨q1,q2,q3⟩:=g1.get (e1 ▸ Xp h0 h1) e6;have hpl:((ρa x).get (ρa i).toInt.toNat).plain=true:=by cases hgx:(ρa x).get (ρa i).toInt.toNat <;> simp_all[V.plain,AA]
   obtain⟨v,p1,p2,p3⟩:=Lx (f:=10) hP hok.2 hE.symm e4 (by simpa using q2) (g1.one e5) w;refine⟨v,?_,(Ca hpl).2 ⟨by rw[p2];exact q3.EZ,by rw[p3,q1]⟩⟩;have hz:=JD (f:=11) hP (w:=w) hok.2;rw[<-hE]at hz;unfold execOp;simp[ho,hv,hiv,xt,asIntOf,run_underlying hu,h0,h1,hz,p1]
  ·rename_i ht;obtain⟨hs,h0,h1,hK⟩:=h;obtain⟨cc,ec⟩:=V.Mv hs;refine⟨_,hK,fun Γ w ρ hr=>?_⟩;have hx:=hr x (by rw[ho];simp[cm]);obtain⟨ki,hiv⟩:=Qk hi (hr i (by rw[ho];simp[cm]));have hts:(ρa x).toStr=cc.toStr:=by rw[ec];rfl
   rw[ec]at hx;obtain⟨hv,_,_⟩:=IQ hx;rw[hts]at h1 ⊢;have hlt:(ρa i).toInt.toNat<cc.toStr.length:=by omega
   refine⟨_,?_,EB (k:=.u8) (n:=((cc.toStr.getD (ρa i).toInt.toNat 0).toNat:Int)) ?_ ?_⟩
   ·have hg:(⟨cc.toStr.toArray⟩:ByteArray)[(ρa i).toInt.toNat]? =some (cc.toStr.getD (ρa i).toInt.toNat 0):=by rw[getElem?_pos (⟨cc.toStr.toArray⟩:ByteArray) _ (show(ρa i).toInt.toNat<(⟨cc.toStr.toArray⟩:ByteArray).size by simpa[iw]using hlt)];have:(⟨cc.toStr.toArray⟩:ByteArray)[(ρa i).toInt.toNat]'(by simpa[iw]using hlt)=cc.toStr[(ρa i).toInt.toNat]:=rfl;rw[this];simp[bt,bo hlt]
    unfold execOp;simp only[ho,hv,hiv,xt,asIntOf,cz,ej,cu,run_underlying (Kk ht)];simp[h0,hg]
   ·have:IntKind.u8.min=0:=by decide
    omega
   ·have:IntKind.u8.max=255:=by decide
    have:=(cc.toStr.getD (ρa i).toInt.toNat 0).toNat_lt;omega
  ·exact h.elim
 ·rename_i T x lo hi mx ho;exact q9v hP ho h
 ·rename_i x i ho;split at h
  ·rename_i xs hx;split at h
   ·rename_i y hy;refine⟨_,h,fun Γ w ρ hr=>?_⟩;have hxr:=hr x (by rw[ho];simp[cm]);rw[hx]at hxr;simp only[AK]at hxr;obtain⟨vs,hv,hc⟩:=hxr;obtain⟨v,h1,h2,h3⟩:=hc.get hy;refine⟨v,?_,?_⟩
    ·have h1':vs[i]? =some v:=by simpa using h1
     unfold execOp;simp[ho,hv,Instr.extract,h1']
    ·cases hyc:y <;> first|(rw[hyc]at h2 h3;exact(Ca rfl).2 ⟨h2,h3⟩)|(simp[AK];done)|(rw[hyc]at h2;simp[AA]at h2)
   ·exact h.elim
  ·exact h.elim
 ·rename_i T x ho;split at h;{rename_i k q lo n cp eb e hx;split at h;{rename_i m e' ht;obtain⟨rfl,h0,hn,hK⟩:=h;refine⟨_,hK,fun Γ w ρ hr=>?_⟩;have hxr:=hr x (by rw[ho];simp[cm]);rw[hx]at hxr;obtain⟨E,hu,_⟩:=QY ht;rcases Hx hxr with⟨z,_⟩|⟨b,τ0,o,M,cap,a,a1,a2,a3,hv,a4,a5,_⟩;{cases z};{rcases a4 with a4|rfl;{omega};{refine⟨.pointer (some ⟨b,o+lo*e'.size,none⟩),?_,QK a1 (Th a2 (show(Ty.arr M e').child lo=some (lo*e'.size,e') by simp only[Ty.child];rw[if_pos (by omega)]))⟩;unfold execOp;simp only[ho,hv,wv,cz,run_underlying hu,cu];rw[if_neg (by omega)];simp}}};{exact h.elim}}
  ·split at h
   ·rename_i n e eb' e' cs ht hx;obtain⟨rfl,h0,hn,hK⟩:=h;refine⟨_,hK,fun Γ w ρ hr=>?_⟩;have hxr:=hr x (by rw[ho];simp[cm]);obtain⟨a,m,cap,hv,hl,_,_,_,hc⟩:=Kb hxr hx;obtain⟨E,hu,_⟩:=QY ht;obtain⟨a',n',z8r,z1,z2,z3,_,_,_,hd⟩:=JC hc;simp at z1;obtain⟨rfl,rfl,rfl⟩:=z1;simp only[C.elems]at z3 hd;rcases hd with hd|⟨b,off,l,rfl,hb,hs,hce⟩;{omega};have hns:n*e'.size<=m*e'.size:=cf _ (by omega);refine⟨.pointer (some ⟨b,off,none⟩),?_,Nc hb (by simp only[Ty.size];omega) ?_⟩;{unfold execOp;simp only[ho,hv,wv,cz,run_underlying hu,cu];rw[if_neg (by omega)];simp}
    ·simp only[AU,Ty.size];have hlen:(cs.take n).length=n:=by simp;omega
     have hcl:(chunk l off (n*e'.size)).length=n*e'.size:=Ek _ _ _ (by omega);have hel:∀i c,(cs.take n)[i]? =some c->AU Γ.H e' (chunk (chunk l off (n*e'.size)) (i*e'.size) e'.size) c:=by intro i c hi;rw[fh]at hi;split at hi;{rename_i hin;have hle:(i+1)*e'.size<=n*e'.size:=cf _ hin;rw[da]at hle;rw[FB _ _ _ _ _ (by omega)];exact hce i c hi};{cases hi}
     exact⟨_,rfl,hlen,hcl,tQ hlen hcl hel,hel⟩
   ·exact h.elim
 ·rename_i fn first yg ho
  split at h
  ·rename_i f z9I;obtain⟨hpl,hK⟩:=h;refine⟨_,hK,fun Γ w ρ hr=>?_⟩;have hf:first=#[]:=by simpa using z9I
   refine⟨.func (.func f) #[] (yg.map ρ),?_,(Ca rfl).2 ⟨?_,by simp[V.ty,Ty.isAgg,Bi]⟩⟩;{unfold execOp;simp[ho,Instr.makeFunc,hf]}
   ·simp only[AA,ek];refine⟨yg.map ρ,rfl,TB (by simp) fun i x v hx hv=>?_⟩;simp only[db,Array.toList_map]at hx hv;cases hc:yg.toList[i]? with
    |none=>simp[hc]at hx|some y=>
     simp[hc]at hx hv;subst hx;subst hv;have hm:y∈yg.toList:=fa hc;exact⟨dv.1 hpl _ (List.mem_map.2 ⟨y,hm,rfl⟩),hr y (by rw[ho];simp[cm,hf];simpa using hm)⟩
  ·exact h.elim
 ·rename_i c ho;split at h
  ·rename_i b hb;obtain⟨callee,args,ts⟩:=c;simp only at hb h;subst hb;unfold Sf at h;split at h
   ·rename_i xl yt;have z8e:∃x,args=#[x]/\ρa x=xl:=by
     cases args with
     |mk l=>cases l with|nil=>simp at yt|cons x l=>cases l with|nil=>simp at yt;exact⟨x,rfl,yt⟩|cons _ _=>simp at yt
    obtain⟨x,rfl,rfl⟩:=z8e;exact q9u hP ho h.1 h.2
   ·rename_i xl yl yt;have z9d:∃x y,args=#[x,y]/\ρa x=xl/\ρa y=yl:=by
     cases args with
     |mk l=>match l,yt with| [x,y],yt=>simp at yt;exact⟨x,y,rfl,yt.1,yt.2⟩
    obtain⟨x,y,rfl,rfl,rfl⟩:=z9d;split at h;{rename_i k c hx;obtain⟨hy,hK⟩:=h;obtain⟨cy,ey⟩:=V.PN hy;refine⟨_,hK,fun Γ w ρ hr=>?_⟩;have hxr:=hr x (by rw[ho];simp[cm,du]);have hyr:=hr y (by rw[ho];simp[cm,du]);rw[hx]at hxr;rw[ey]at hyr;obtain⟨hv,_,b1,b2⟩:=EU hxr;obtain⟨hv2,_,b3,b4⟩:=EU hyr;rw[hx,ey];simp only[V.toInt];refine⟨_,?_,EB (n:=if cy.toInt<c.toInt then cy.toInt else c.toInt) ?_ ?_⟩;{unfold execOp;simp[ho,resolve,invoke,builtin,Builtin.min_,Builtin.min2,hv,hv2]};{split <;> omega};{split <;> omega}};{exact h.elim}
   ·rename_i xl yl yt;have z9d:∃x y,args=#[x,y]/\ρa x=xl/\ρa y=yl:=by
     cases args with
     |mk l=>match l,yt with| [x,y],yt=>simp at yt;exact⟨x,y,rfl,yt.1,yt.2⟩
    obtain⟨x,y,rfl,rfl,rfl⟩:=z9d;split at h;{rename_i k c hx;obtain⟨hy,hK⟩:=h;obtain⟨cy,ey⟩:=V.PN hy;refine⟨_,hK,fun Γ w ρ hr=>?_⟩;have hxr:=hr x (by rw[ho];simp[cm,du]);have hyr:=hr y (by rw[ho];simp[cm,du]);rw[hx]at hxr;rw[ey]at hyr;obtain⟨hv,_,b1,b2⟩:=EU hxr;obtain⟨hv2,_,b3,b4⟩:=EU hyr;rw[hx,ey];simp only[V.toInt];refine⟨_,?_,EB (n:=if c.toInt<cy.toInt then cy.toInt else c.toInt) ?_ ?_⟩;{unfold execOp;simp[ho,resolve,invoke,builtin,Builtin.max_,Builtin.max2,hv,hv2]};{split <;> omega};{split <;> omega}};{exact h.elim}
   ·exact h.elim
  ·exact h.elim
 ·exact h.elim
end
end
end Go.E
