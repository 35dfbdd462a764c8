/-
 A framework for runs of Go code over abstract data: what it needs, and that it is sound, part 4.
 Conditions: none.
-/
import Derived.Test.YtgdonkaoajbclaaGreatDoorEc
set_option linter.all false
noncomputable section
set_option maxRecDepth 100000
set_option maxHeartbeats 4000000
open Array renaming eq_empty_of_size_eq_zero->ia,getD_eq_getD_getElem?->il,getElem?_eq_getElem->eh,getElem?_map->ux,mem_append_right->jg,mem_toList_iff->kx
open Bool renaming and_eq_true->bg,or_eq_true->tf
open Go.Act renaming put->si
open Go.Call renaming operands->ee
open Go.Deferred renaming ofValue->uj
open Go.E.S renaming known->yg,live->uu,obj->jj,start->kf
open Go.E.Ty renaming isAgg->jb,size->iy
open Go.E.V renaming oks->ry,plain->wo,ty->qa
open Go.Instr renaming loadAt->kz,sureAddr->jx
open Go.IntKind renaming u8->bt
open Go.Op renaming equal->lb,operands->cf
open Go.Region renaming wanted->jl
open Go.Result renaming andThen_ok->cu
open Go.Sem renaming run_bind->da,run_pure->fc
open Go.Value renaming cells->fe,int->wq
open Int renaming toNat_of_nonneg->gy
open List renaming getElem?_cons_succ->gh,getElem?_eq_getElem->bm,getElem?_eq_some_iff->bz,getElem?_map->di,getElem?_take->fv,mem_append->dy,mem_cons->gr,mem_map->nz,mem_of_getElem?->fg,mem_singleton->ft,mem_toArray->qu,replicate->bf
open Nat renaming add_mul->de,eq_zero_or_pos->oh,le_refl->ca,mul_le_mul_right->cd,zero_le->dx,zero_mul->gz
namespace Go.E
open Go
section
mutual
def Ty.DR:Ty->Bool
 | .int _| .bool| .str=>true
 | .arr _ e=>e.DR
 | .struct _ _ fs=>Ty.Ww fs
 |_=>false
def Ty.Ww:List Ty->Bool
 | []=>true
 |t::ts=>t.DR&&Ty.Ww ts
end
mutual
def AK.DR {H H'}:∀{τ:Ty} {vs:List Value} {c:C},τ.DR=true->AK H τ vs c->AK H' τ vs c
 | .int _,_,_,_,r=>by simpa[AK]using r
 | .bool,_,_,_,r=>by simpa[AK]using r
 | .str,_,_,_,r=>by simpa[AK]using r
 | .arr n e,vs,c,h,r=>by
  simp only[AK]at r ⊢;obtain⟨cs,rfl,h1,h2,h4,h3⟩:=r;exact⟨cs,rfl,h1,h2,h4,fun i c hi=>AK.DR (by simpa[Ty.DR]using h) (h3 i c hi)⟩
 | .struct sz os fs,vs,c,h,r=>by
  simp only[AK]at r ⊢;obtain⟨cs,rfl,h1,h4,h2⟩:=r;exact⟨cs,rfl,h1,h4,BP.DR (by simpa[Ty.DR]using h) h2⟩
 | .slice _ _,_,_,h,_| .ptr,_,_,h,_| .map,_,_,h,_| .func,_,_,h,_| .iface,_,_,h,_| .opq _,_,_,h,_=>by simp[Ty.DR]at h
def BP.DR {H H'}:∀{fs:List Ty} {os:List Nat} {vs:List Value} {cs:List C},Ty.Ww fs=true->BP H fs os vs cs->BP H' fs os vs cs
 | [],_,_,_,_,r=>by simpa[BP]using r
 |f::fs,o::os,vs,cs,h,r=>by
  simp only[Ty.Ww,bg]at h;simp only[BP]at r ⊢;obtain⟨c,cs',rfl,h1,h2,h3⟩:=r;exact⟨c,cs',rfl,h1,AK.DR h.1 h2,BP.DR h.2 h3⟩
 |_::_,[],_,_,_,r=>by simp[BP]at r
end
def V.Ow:List V->Bool
 | []=>true
 |x::xs=>(match x with| .d τ _=>τ.DR|_=>false)&&V.Ow xs
def V.DR:V->Bool
 | .d τ _=>τ.DR
 | .tup vs=>V.Ow vs
 |_=>false
def q0O {Γ Γ'}:∀{xs:List V} {vs:List Value},V.Ow xs=true->BC Γ xs vs->BC Γ' xs vs
 | [],vs,_,h=>by simpa[BC]using h
 |x::xs,vs,hx,h=>by
  simp only[V.Ow,bg]at hx;simp only[BC]at h ⊢;obtain⟨v,vs',rfl,h1,h2,h3⟩:=h;refine⟨v,vs',rfl,?_,h2,q0O hx.2 h3⟩;cases x <;> simp at hx;simp only[AA]at h1 ⊢;exact h1.DR hx.1
def z2V {Γ Γ'} {x:V} {v} (hx:x.DR=true) (h:AG Γ x v):AG Γ' x v:=by
 cases x <;> simp[V.DR]at hx
 ·rw[Ct]at h ⊢;exact⟨h.1.DR hx,h.2⟩
 ·simp only[AG]at h ⊢;obtain⟨vs,rfl,h⟩:=h;exact⟨vs,rfl,q0O hx h⟩
def z3Y {x:V} (hx:x.DR=true) (n:Nat):x.CV n=x:=by
 cases x <;> simp[V.DR]at hx
 ·rfl
 ·rename_i vs;simp only[V.CV];congr 1;have:∀(l:List V) (n:Nat),V.Ow l=true->CW n l=l:=by
   intro l
   induction l with
   |nil=>intros;rfl
   |cons x xs ih=>
    intro n h;simp only[V.Ow,bg]at h;simp only[CW];rw[ih _ h.2];cases x <;> simp at h <;> rfl
  exact this vs n hx
def G.HB (w:World) (gl:Nat->Option (Ty × C)):G where
 H b:=match w.heap[b]? with
  |some (.cells arr _ _)=>some arr.toList
  |_=>none
 Z b:=w.heap[b]?
 ι _:=none
 τ _:=none
 κ _:=none
 gl:=gl
 oo:=oof w
 σ _:=none
def FX:Nat->S->V->V
 |0,_,_=>.any
 |f+1,s,x=>match x with
  | .sr k q lo n _ eb e=>(match s.obj k with
   |some (.box y)=>(match FX f s (y.at q)with
    | .d _ c=>.d (.slice eb e) (.slice ((c.elems.drop lo).take n))
    |_=>.any)
   |_=>.any)
  | .agg τ vs=>(match Dn (vs.map (FX f s))with
   |some cs=>.d τ (.agg cs)
   |none=>.any)
  |x=>bif x.plain then(match Bl x with
   |some c=>.d x.ty c
   |none=>.any)else .any
def Fl (s:S) (x:V):V:=FX 5 s x
def q1F (s:S) (f:Nat) (x:V):FX f s x= .any\/∃τ c,FX f s x= .d τ c:=by
 cases f with
 |zero=>exact .inl rfl
 |succ f=>
  have other:∀x:V,(bif x.plain then(match Bl x with
   |some c=>V.d x.ty c
   |none=>.any)else .any)= .any\/∃τ c,(bif x.plain then(match Bl x with
   |some c=>V.d x.ty c
   |none=>.any)else .any)= .d τ c:=by
   intro x;cases x.plain with
   |false=>exact .inl rfl
   |true=>
    simp only[cond_true];split
    ·exact .inr ⟨_,_,rfl⟩
    ·exact .inl rfl
  cases x <;> first
   |exact other _
   |(simp only[FX]
     repeat' split
     all_goals first|exact .inl rfl|exact .inr ⟨_,_,rfl⟩)
def Fw:List V->Bool
 | []=>true
 |x::xs=>(match x with| .d _ _=>true|_=>false)&&Fw xs
section
variable {P:Program} {Γ:G} {w:World} {s:S}
def cI (c:AO Γ w s) (gl:Nat->Option (Ty × C)):Γ.H.le (G.HB w gl).H:=by
 intro b l h;obtain⟨arr,T,fr,r,h1,h2⟩:=c.hH b l h;exact⟨r,by simp only[G.HB,h1,h2]⟩
def AZ.snap {Γ':G} {hm g} (hg:∀(x:V) (p:List Nat) (vs:List Value) τ cc,AA Γ hm p x vs->g x= .d τ cc->x.ty=τ/\AK Γ'.H τ vs cc) (hd:∀x,g x= .any\/∃τ c,g x= .d τ c):
  ∀(xs:List V) (p:List Nat) (i:Nat) (τ:Ty) (vs:List Value) (cs:List C),AZ Γ hm p i τ xs vs->Dn (xs.map g)=some cs->AZ Γ' hm p i τ (xs.map g) vs
 | [],_,_,_,_,_,_,_=>by simp only[List.map_nil,AZ]
 |x::xs,p,i,τ,vs,cs,h,hc=>by
  simp only[AZ,List.map_cons,Dn]at h hc ⊢;obtain⟨⟨o,f,h1,h2,h3,h4⟩,h5⟩:=h;rcases hd x with e|⟨τ',c,e⟩
  ·rw[e]at hc;simp[Bl]at hc
  ·cases e2:Dn (xs.map g)with
   |none=>rw[e,e2]at hc;simp[Bl]at hc
   |some cs'=>
    obtain⟨rfl,q2⟩:=hg x _ _ _ _ h4 e;refine⟨⟨o,f,h1,by rw[e];exact h2,h3,?_⟩,AZ.snap hg hd xs p (i+1) τ vs cs' h5 e2⟩;rw[e,<-h2]at*;simpa only[AA]using q2
def mO {s0:S} (c:AO Γ w s) (hs:∀k o,Γ.ι k≠none->s0.obj k=some o->s.obj k=some o) (gl:Nat->Option (Ty × C)) {hm}:∀(f:Nat) (x:V) (p:List Nat) (vs:List Value) (τ:Ty) (cc:C),AA Γ hm p x vs->FX f s0 x= .d τ cc->x.ty=τ/\AK (G.HB w gl).H τ vs cc
 |0,_,_,_,_,_,_,h=>by cases h
 |f+1,x,p,vs,τ,cc,hr,h=>by
  have hle:=cI c gl
  have other:(bif x.plain then(match Bl x with
   |some c=>V.d x.ty c
   |none=>.any)else .any)= .d τ cc->x.ty=τ/\AK (G.HB w gl).H τ vs cc:=by
   intro h;cases hp:x.plain with
   |false=>rw[hp]at h;cases h
   |true=>
    rw[hp]at h;simp only[cond_true]at h;split at h
    ·rename_i c0 hc0;cases h;exact⟨rfl,(Kc x hr hc0).mono hle⟩
    ·cases h
  cases x <;> (try exact other h)
  case agg τ0 xs=>
   simp only[FX]at h;split at h
   ·rename_i cs hcs;cases h;refine⟨rfl,?_⟩;simp only[AA]at hr;obtain⟨a1,a2,a3,a4,a5⟩:=hr;have:AA (G.HB w gl) hm p (.agg τ (xs.map (FX f s0))) vs:=by
     simp only[AA];exact⟨a1,a2,by rw[List.length_map];exact a3,a4,a5.snap (fun x p vs τ cc=>mO c hs gl f x p vs τ cc) (q1F s0 f) xs p 0 τ vs cs hcs⟩
    exact Kc _ this (by simp only[Bl,hcs,Option.map_some])
   ·cases h
  case sr k q lo n cp eb e=>
   simp only[FX]at h;split at h
   ·rename_i y ho0;split at h
    ·rename_i τ1 c1 hy;cases h;refine⟨rfl,?_⟩;simp only[AA]at hr;rcases hr with⟨_,rfl,a,rfl⟩|⟨b,τ0,o0,m,cap,a1,a2,a3,⟨a,rfl,a4⟩,a5,a6,a7,_⟩
     ·exact Dh (by simp) (ca _) (dx _) (by rw[gz];exact dx _) (.inl rfl)
     obtain⟨b',cells,T,g1,g2,g3,g4,g5,g6,g7,_⟩:=c.own a1 (hs k _ (by rw[a1];simp) ho0);rw[a1]at g1;cases g1;obtain⟨q1,q2,q3⟩:=g6.at_ a2 (by intro e1;rw[e1]at hy;cases f <;> cases hy) g7;obtain⟨rfl,q3⟩:=mO c hs gl f _ _ _ _ _ q3 hy;rw[q1]at q3;simp only[AK]at q3;obtain⟨cs,rfl,r1,r2,r3,r4⟩:=q3;simp only[C.elems];rw[Dm _ _ _ (by simpa using g5)]at q2;have hlen:((cs.drop lo).take n).length=n:=by simp;omega
     have hmul:(lo+n)*e.size<=m*e.size:=cd _ a3;rw[de]at hmul;simp only[iy]at q2 r2 r4;have yx:o0+lo*e.size+n*e.size<=cells.toList.length:=by simp;omega
     refine Dh hlen a5 a6 a7 ?_;rcases oh n with h0|h0
     ·exact .inl h0
     ·have ha:a=some ⟨b,o0+lo*e.size,none⟩:=a4.resolve_left (by omega);refine .inr ⟨b,o0+lo*e.size,cells.toList,ha,by simp only[G.HB,g4],yx,fun i c' hi=>?_⟩;rw[fv]at hi;split at hi
      ·rename_i hin;rw[List.getElem?_drop]at hi;have:=r4 _ _ hi;have z6q:(lo+i+1)*e.size<=m*e.size:=cd _ (by omega);rw[de,de]at z6q;rw[de]at this;rw[Dy _ _ _ _ _ (by omega),Dy _ _ _ _ _ (by omega)]at this;rw[show 0+(o0+(lo*e.size+i*e.size))=o0+lo*e.size+i*e.size by omega]at this;exact this
      ·cases hi
    ·cases h
   ·cases h
def z33 {s0:S} (c:AO Γ w s) (hs:∀k o,Γ.ι k≠none->s0.obj k=some o->s.obj k=some o) (gl:Nat->Option (Ty × C)) {x v τ cc} (hr:AG Γ x v) (h:Fl s0 x= .d τ cc):AG (G.HB w gl) (.d τ cc) v:=by
 have hp:x.plain=true:=by cases x <;> first|rfl|cases h
 obtain⟨h1,h2⟩:=(BZ hp).1 hr;obtain⟨rfl,h3⟩:=mO c hs gl _ _ _ _ _ _ h1 h;exact Ct.2 ⟨h3,h2⟩
def q6o (hgl:∃gl0,Γ.gl=gl0) (c:AO Γ w s) {xs} (hx:Fw xs=true):AO (G.HB w Γ.gl) w (kf xs fun _=>none):=by
 have htk:∀(l:List V) (n:Nat),Fw l=true->Fs n l=[]:=by
  intro l
  induction l with
  |nil=>intros;rfl
  |cons x xs ih=>
   intro n h;simp only[Fw,bg]at h;simp only[Fs];rw[ih _ h.2];cases x <;> simp at h <;> rfl
 refine⟨fun b l h=>?_,fun b o h=>h,fun b o sz h=>(by cases h),fun k o h=>?_,fun k h=>absurd rfl h,fun k k' b τ τ' h _=>(by cases h),fun t L h=>?_,fun t h=>absurd rfl h,fun g τ cc h=>?_,rfl,fun b sz h=>(by cases h)⟩
 ·simp only[G.HB]at h;split at h
  ·rename_i arr T fr hw;cases h;exact⟨arr,T,fr,[],hw,by simp⟩
  ·cases h
 ·exfalso;cases k <;> simp[kf,jj,Bt,AR]at h
 ·exfalso;simp[kf,uu,Du,htk xs 1000 hx,look]at h
 ·obtain⟨l,h1,h2,h3⟩:=c.hgl g τ cc h;obtain⟨r,hr⟩:=cI c Γ.gl g l h1;refine⟨l++r,hr,by simp;omega,?_⟩;rw[Nn _ _ _ _ (by omega)];exact h3.mono (cI c Γ.gl)
def q3c:AOk fun _=>none:=fun _ _ h=>by cases h
def q6p {w' gl Γ' s'} (gle:GLe (G.HB w gl) Γ') (c':AO Γ' w' s'):Ext w w':=by
 have old:∀b,b<w.heap.size->w'.heap[b]? =w.heap[b]?:=fun b hb=>by
  have h1:w.heap[b]? =some w.heap[b]:=eh hb;rw[h1];exact c'.hZ b _ (by rw[gle.Z];exact h1)
 refine⟨?_,old,?_⟩
 ·rcases oh w.heap.size with h|h
  ·omega
  ·have h1:=old (w.heap.size-1) (by omega);rw[eh (show w.heap.size-1<w.heap.size by omega)]at h1;have:=Ht h1;omega
 ·rw[c'.hoo,gle.oo];rfl
def q5i {X:Cx} (hgl:Γ.gl=X.gl) (c:AO Γ w s) {o:Oper} {a fo f as ts xs v}
  (ho:o.op= .call {callee:=.value fo,args:=as,argTypes:=ts}) (z6u:Hh X.P f=true) (hf:AG Γ (.fn f []) (a.eval fo))
  (hlen:xs.length=as.toList.length) (hr:∀(i:Nat) x y,xs[i]? =some x->as.toList[i]? =some y->AG (G.HB w Γ.gl) x (a.eval y)) (hx:Fw xs=true) (D:Bg X f xs (fun _=>none) v []) (hv:v.DR=true):
  Au X.P o a w (BB Γ w s v):=by
 obtain⟨cv,hfv,hcl,_⟩:=YC hf;have hcv:cv=#[]:=by
  apply ia;simpa using hcl.symm
 subst hcv;have run:(execOp a.eval o).run X.P w= .ok (.enter f (as.map a.eval)) w:=by
  unfold execOp;simp[ho,resolve,hfv,uj,invoke,q1d z6u]
 have hsl:∀(l:List V) (n:Nat),Fw l=true->CW n l=l:=by
  intro l
  induction l with
  |nil=>intros;rfl
  |cons x xs ih=>
   intro n h;simp only[Fw,bg]at h;simp only[CW];rw[ih _ h.2];cases x <;> simp at h <;> rfl
 refine Au.enter run ?_;refine(D (fun _=>none) (G.HB w Γ.gl) w (as.map a.eval) (fun _ _ h=>h) hgl ⟨q6o ⟨_,rfl⟩ c hx,q3c⟩ (by simpa using hlen) fun i x u hx' hu=>?_).mono ?_
 ·rw[hsl xs 1000 hx]at hx';rw[ux]at hu;cases hy:as[i]? with
  |none=>rw[hy]at hu;cases hu
  |some y=>
   rw[hy]at hu;cases hu;exact hr i x y hx' (by simpa using hy)
 ·rintro e w' ⟨u,Γ',rfl,gle,c',hv'⟩;rw[z3Y hv]at hv';exact⟨u,rfl,BB.ext c (q6p gle c') (z2V hv hv')⟩
end
end
section
def aC:Value->V
 | .int k n=>.d (.int k) (.int n)
 | .bool b=>.d .bool (.bool b)
 | .string s=>.d .str (.str s.data.toList)
 | .pointer none=>.d .ptr .nil
 | .slice none 0 0=>.ym
 | .map none=>.d .map .nil
 | .nilFunc=>.d .func .nil
 | .nilIface=>.d .iface .nil
 |_=>.any
def aB:Value->Bool
 | .int k n=>decide (k.min<=n/\n<=k.max)
 | .string s=>decide (s.data.toList.length<=140737488355328)
 |_=>true
def XJ:Operand->Bool
 | .const v=>aB v
 |_=>true
def Hx (n:Nat) (o:Oper):Bool:=
 o.op.operands.all XJ&&(match o.dst with|some d=>decide (d<n)|none=>true)
def Ak (gl:Nat->Option (Ty × C)) (s:S):Operand->V
 | .tmp t=>s.get t
 | .const v=>aC v
 | .global g=>match gl g with
  |some (τ,c)=>.yn τ c
  |none=>.any
 | .func f=>.fn f []
def Br (md:List (Nat × Nat)) (d:Nat):Nat:=(look md d).getD 0
def S.add (s:S) (lo:List (Key × O)) (tn:List (Nat × Option Nat)):S:={s with loc:=lo++s.loc,tk:=tn++s.tk}
def HT:List (Key × O)->Bool
 | []=>true
 |(.l _,_)::l=>HT l
 |(.g _,_)::_=>false
def IG (P:Program) (s:S) (t':TypeId) (eb:Nat) (e:Ty) (Y:V) (K:List C->Prop):Prop:=
 match ty P t' with
 | .slice _ _=>(match Y with
  | .ym=>K []
  |Y=>match Dz s Y with
   |some (eb',e',ys)=>eb'=eb/\e'=e/\K ys
   |none=>False)
 | .str=>e= .int .u8/\eb=1/\Y.isStr/\K (Y.toStr.map fun b=>C.int b.toNat)
 |_=>False
def Uc {P} (hP:Aq P=true) {s} {t':TypeId} {eb:Nat} {e Y K} (h:IG P s t' eb e Y K):∃ys,K ys/\KQ P s t' eb e Y ys:=by
 unfold IG at h;split at h
 ·rename_i eb0 e0 ht;obtain⟨E,hu,_⟩:=Iw hP ht;split at h
  ·exact⟨[],h,.inl ⟨⟨E,hu⟩,.inr ⟨rfl,rfl⟩⟩⟩
  ·split at h
   ·rename_i eb' e' ys he;obtain⟨rfl,rfl,hK⟩:=h;exact⟨ys,hK,.inl ⟨⟨E,hu⟩,.inl he⟩⟩
   ·exact h.elim
 ·rename_i ht;obtain⟨h1,h2,h3,hK⟩:=h;exact⟨_,hK,.inr ⟨Lf ht,h3,h1,h2,rfl⟩⟩
 ·exact h.elim
def NR (X:Cx) (f:FuncId) (xs:List V) (v:V):Prop:=
 ∀(Γ:G) (w:World) (args:Array Value),xs.length=args.size->(∀(i:Nat) x u,xs[i]? =some x->args[i]? =some u->AG Γ x u)->∃u,(callFunc f args).run X.P w= .ok (.value u) w/\AG Γ v u
mutual
def V.pks:V->List Key
 | .ptr k _ _| .mp k=>[k]
 | .sr k _ _ _ (some _) _ _=>[k]
 | .agg _ vs=>V.Gf vs
 |_=>[]
def V.Gf:List V->List Key
 | []=>[]
 |x::xs=>x.pks++V.Gf xs
end
def JY:Nat->List (Key × O)->List Key->List (Key × O)
 |0,_,_=>[]
 |n+1,loc,ks=>ks.flatMap fun k=>match AR loc k with
  |some o=>(k,o)::(match o with| .box x=>JY n loc x.pks|_=>[])
  |none=>[]
def S.see (base s:S) (xs:List V):S:={base with loc:=JY 3 s.loc (V.Gf xs)++base.loc}
def mT (y:V) (q:List Nat) (t τ:Ty) (K:V->Prop):Prop:=
 match y,t with
 | .d (.arr M e) c,.arr m e'=>q≠[]/\e'=e/\τ=e/\(Ty.arr m e).known=true/\q.getLastD 0+m<=M/\K (.d (.arr m e) (.agg ((c.elems.drop (q.getLastD 0)).take m)))
 |_,_=>False
def iop (X:Cx) (md:List (Nat × Nat)) (base:S) (dst:Nat) (o:Oper) (ρ:Operand->V) (s:S) (K:V->List (Key × O)->List (Nat × Option Nat)->Prop):Prop:=
 match o.op with
 | .load T x=>if Br md dst=18 then(match ρ x with
   | .ptr k q τ=>(match s.obj k with
     |some (.box y)=>mT (y.at q.dropLast) q (ty X.P T) τ fun v=>K v [] []
     |_=>False)
   |_=>False)
  else(match ρ x with
   | .ptr k q τ=>(match s.obj k with
     |some (.box y)=>y.at q≠.any/\τ=ty X.P T/\τ.known=true/\K (view (y.at q)) [] []
     |_=>False)
   | .yn τ c=>τ=ty X.P T/\τ.known=true/\K (.d τ c) [] []
   |_=>False)
 | .alloc T=>Bz X.P T=true/\K (.ptr (.l dst) [] (ty X.P T)) [(.l dst,Si (ty X.P T) T)] []
 | .box _ x=>if Br md dst=5 then(ρ x).plain=true/\(match Bl (ρ x)with
    |some cc=>K (.yn (ρ x).ty cc) [] []
    |none=>False)
   else(ρ x).plain=true/\(ρ x).Aw=true/\K (.ptr (.l dst) [] (ρ x).ty) [(.l dst,.box (ρ x))] []
 | .buildSlice t len parts=>(match ty X.P t with
   | .slice eb e=>(match len with
    |0=>parts.toList.length=0/\K (.emp eb e) [] []
    |len+1=>Bz X.P (Al X.P t)=true/\e.size≠0/\(len+1)*e.size<=16777216/\(len+1)*eb<=140737488355328/\parts.toList.map (·.1)=List.range (len+1)/\
      (if Br md dst=20 then(∀x∈parts.toList.map (fun x=>ρ x.2),x.ty=e/\x.plain=true)/\V.CC (parts.toList.map fun x=>ρ x.2)=true/\K (.sr (.l dst) [] 0 (len+1) (some (len+1)) eb e) [(.l dst,.box (.agg (.arr (len+1) e) (parts.toList.map fun x=>ρ x.2)))] []else match Dn (parts.toList.map fun x=>ρ x.2)with
       |some cs=>(∀x∈parts.toList.map (fun x=>ρ x.2),x.ty=e/\x.plain=true)/\(if Br md dst=4 then K (.sl eb e cs dst) [] [(dst,some cs.length)]else K (.d (.slice eb e) (.slice cs)) [] [])
       |none=>False))
   |_=>False)
 | .build T parts=>Bz X.P T=true/\(ty X.P T).Ch=true/\(ty X.P T).isAgg=true/\MB (ty X.P T) (Bv (ty X.P T)) (parts.toList.map fun p=>(p.1,ρ p.2))/\
   K (Ji (ty X.P T) (Bv (ty X.P T)) (parts.toList.map fun p=>(p.1,ρ p.2))) [] []
 | .makeSlice t l c=>(match ty X.P t with
   | .slice eb e=>Bz X.P (Al X.P t)=true/\(ρ l).FA/\(ρ c).FA/\0<=(ρ l).toInt/\(ρ l).toInt<=(ρ c).toInt/\(ρ c).toInt<=9223372036854775807/\(ρ c).toInt.toNat*eb<=140737488355328/\e.size≠0/\
     K (.sr (.l dst) [] 0 (ρ l).toInt.toNat (if Br md dst=9 then none else some (ρ c).toInt.toNat) eb e) [(.l dst,.box (.d (.arr (ρ l).toInt.toNat e) (.agg (bf (ρ l).toInt.toNat (AI e)))))] []
   |_=>False)
 | .makeMap T r=>(match r,HQ X.P T with
   |none,some (kt,et)=>K (.mp (.l dst)) [(.l dst,.map (ty X.P kt) (ty X.P et) [])] []
   |_,_=>False)
 | .lookup T x i ok=>(match HQ X.P T,ρ x with
   |some (kt,et),.mp k=>(match s.obj k with
     |some (.map kτ _ es)=>kτ=ty X.P kt/\Cq X.P kt=true/\Bz X.P et=true/\(ρ i).DF kτ/\
       K (if ok then .tup [HM X.P et es (ρ i).toC,.d .bool (.bool (FE es (ρ i).toC).isSome)]else HM X.P et es (ρ i).toC) [] []
     |_=>False)
   |_,_=>False)
 | .call c=>(match c.callee with
   | .value fo=>(match ρ fo with
     | .fn f yp=>(Hh X.P f=true/\c.argTypes.toList.length=c.args.toList.length/\
      ∃b v L,(b=base\/b=base.see s (Dx (c.args.toList.map ρ) yp))/\Bg X f (CQ X.P false s (Jj c.argTypes.toList yp) (Dx (c.args.toList.map ρ) yp)) b.up v L/\HT L=true/\
       K ((v.CV 2000).ren (dn dst) (rk dst)) (dnL dst L) (dnT dst (v.tkR 2000)))\/
      (yp=[]/\∃v,NR X f (c.args.toList.map ρ) v/\K v [] [])\/
      (yp=[]/\Hh X.P f=true/\∃v,Fw (c.args.toList.map fun y=>Fl s (ρ y))=true/\Bg X f (c.args.toList.map fun y=>Fl s (ρ y)) (fun _=>none) v []/\v.DR=true/\K v [] [])
     |_=>False)
   | .builtin .append=>(match c.args.toList,c.argTypes.toList with
     | [x,y],[t,t']=>Bz X.P (Al X.P t)=true/\(match ty X.P t,ρ x with
       | .slice eb e,.emp _ _=>IG X.P s t' eb e (ρ y) fun ys=>if Br md dst=3 then ys≠[]/\K (.sr (.l dst) [] 0 ys.length none eb e) [(.l dst,.box (.d (.arr ys.length e) (.agg ys)))] []else K (.sl eb e ys dst) [] [(dst,some ys.length)]
       | .slice eb e,.ym=>IG X.P s t' eb e (ρ y) fun ys=>if Br md dst=3 then ys≠[]/\K (.sr (.l dst) [] 0 ys.length none eb e) [(.l dst,.box (.d (.arr ys.length e) (.agg ys)))] []else K (.sl eb e ys dst) [] [(dst,some ys.length)]
       |_,_=>False)
     |_,_=>False)
   | .builtin .len=>(match c.args.toList,c.argTypes.toList with
     | [x],[T]=>(match ρ x with
       | .mp k=>(match HQ X.P T,s.obj k with
         |some _,some (.map _ _ es)=>es.length<=9223372036854775807/\K (.d (.int .i64) (.int es.length)) [] []
         |_,_=>False)
       |_=>pv X.P o.op ρ fun y=>K y [] [])
     |_,_=>pv X.P o.op ρ fun y=>K y [] [])
   |_=>pv X.P o.op ρ fun y=>K y [] [])
 | .convert src z6c x=>(match strOf X.P s src z6c (ρ x)with
   |some ys=>K (.d .str (.str (ys.map Kb))) [] []
   |none=>pv X.P o.op ρ fun y=>K y [] [])
 |_=>pv X.P o.op ρ fun y=>K y [] []
structure Compat (s' s base:S):Prop where
 obj:∀k o,s.obj k=some o->s'.obj k≠none->s'.obj k=some o
 base:∀k o,base.obj k=some o->s'.obj k=some o
structure Uq (s:S) (lo:List (Key × O)) (tn:List (Nat × Option Nat)):Prop where
 l:∀k o,AR lo k=some o->s.obj k=none
 t:∀t x,look tn t=some x->s.known t=false
section
variable {X:Cx} {Γ:G} {w:World} {s:S}
def Compat.getObj {s' base:S} (h:Compat s' s base) (c:AO Γ w s') {k o} (hι:Γ.ι k≠none) (ho:s.obj k=some o):s'.obj k=some o:=h.obj k o ho (c.dom k hι)
def sW {s' base} (h:Compat s' s base) (c:AO Γ w s') {x v r} (hr:AG Γ x v) (he:Dz s x=some r):∃x',AG Γ x' v/\(x'= .ym->x= .ym)/\Dz s' x'=some r:=by
 cases x <;> (try exact⟨_,hr,id,he⟩)
 case sr k q lo n cp eb e=>
  rcases HW hr with⟨_,rfl,a,rfl⟩|⟨b,τ0,o,m,cap,a,hι,_⟩
  ·refine⟨.emp eb e,Pt,(fun h=>by cases h),?_⟩;simp only[Dz]at he;split at he
   ·split at he
    ·rw[<-he];simp[Dz,V.Ec]
    ·cases he
   ·cases he
  ·refine⟨_,hr,id,?_⟩;simp only[Dz]at he ⊢;cases ho:s.obj k with
   |none=>simp[ho]at he
   |some o=>
    rw[h.getObj c (by rw[hι];simp) ho];rw[ho]at he;exact he
def z4i {P s' base} (h:Compat s' s base) (c:AO Γ w s') {src dst:TypeId} {Y v ys} (hr:AG Γ Y v) (he:strOf P s src dst Y=some ys):∃Y',AG Γ Y' v/\strOf P s' src dst Y'=some ys:=by
 cases hel:Dz s Y with
 |some r=>
  obtain⟨Y',h1,h2,h3⟩:=sW h c hr hel;by_cases hY:Y= .ym
  ·subst hY;exact⟨_,hr,he⟩
  refine⟨Y',h1,?_⟩;rw[<-he];unfold strOf;have hY':Y'≠.ym:=fun e=>hY (h2 e);rw[hel,h3];cases Y <;> first|exact absurd rfl hY|(cases Y' <;> first|exact absurd rfl hY'|rfl)
 |none=>
  refine⟨_,hr,?_⟩;unfold strOf at he ⊢;rw[hel]at he;split at he
  ·split at he
   ·rename_i h0;rw[if_pos h0];split at he
    ·exact he
    ·cases he
   ·cases he
  ·cases he
def YV {P s' base} (h:Compat s' s base) (c:AO Γ w s') {t':TypeId} {eb:Nat} {e Y v ys} (hr:AG Γ Y v) (he:KQ P s t' eb e Y ys):∃Y',AG Γ Y' v/\KQ P s' t' eb e Y' ys:=by
 rcases he with⟨h1,h2|h2⟩|h1
 ·obtain⟨Y',a,_,b⟩:=sW h c hr h2;exact⟨Y',a,.inl ⟨h1,.inl b⟩⟩
 ·exact⟨_,hr,.inl ⟨h1,.inr h2⟩⟩
 ·exact⟨_,hr,.inr h1⟩
def q3f {P} (s s':S) (T:TypeId) (x:V):DP P false s T x=DP P false s' T x:=by cases x <;> simp[DP]
def VF {P} (s s':S):∀(Ts:List TypeId) (xs:List V),CQ P false s Ts xs=CQ P false s' Ts xs
 | [],_=>rfl
 |_::_,[]=>rfl
 |T::Ts,x::xs=>by simp only[CQ,q3f s s',VF s s' Ts xs]
def XV (s:S):∀(xs:List V),CN false s xs=[]
 | []=>rfl
 |x::xs=>by
  have:CE false s x=none:=by cases x <;> simp[CE]
  simp[CN,this,XV s xs]
def g9:∀{L:List (Key × O)} {k:Key} {o:O},HT L=true->AR L (.g k)=some o->False
 | [],_,_,_,h=>by simp[AR]at h
 |(.l n,_)::L,k,o,hl,h=>by simp[AR]at h;exact g9 (L:=L) (by simpa[HT]using hl) h
 |(.g _,_)::_,_,_,hl,_=>by simp[HT]at hl
def j9 (d:Nat):∀{L:List (Key × O)} {j:Nat} {o:O},HT L=true->AR L (.l j)=some o->AR (dnL d L) (.l (rk d j))=some (o.ren (dn d))
 | [],_,_,_,h=>by simp[AR]at h
 |(.l n,o')::L,j,o,hl,h=>by
  simp only[AR]at h;simp only[dnL,AR,dn];by_cases e:n=j
  ·subst e;simp at h;subst h;simp
  ·have e1:Key.l n≠.l j:=by intro h;cases h;exact e rfl
   have e2:Key.l (rk d n)≠.l (rk d j):=by intro h;simp[rk]at h;exact e h
   rw[if_neg e1]at h;rw[if_neg e2];exact j9 d (L:=L) (by simpa[HT]using hl) h
 |(.g _,_)::_,_,_,hl,_=>by simp[HT]at hl
def q8z (d:Nat) (l:List (Nat × Option Nat)) (m:Nat):look (dnT d l) (rk d m)=look l m:=by rw[Wk,Pz]
def Yw (X:Cx) (base:S) (o:Oper) (ρ:Operand->V) (s:S) (v:V) (lo:List (Key × O)) (tn:List (Nat × Option Nat)):Prop:=
 ∀(Γ:G) (w:World) (a:Act) (s':S),Γ.gl=X.gl->AO Γ w s'->Compat s' s base->Uq s' lo tn->(∀y∈o.op.operands,AG Γ (ρ y) (a.eval y))->Au X.P o a w (BB Γ w (s'.add lo tn) v)
def q5n (hP:Aq X.P=true) {o:Oper} {ρa K} (h:pv X.P o.op ρa K):
  ∃v,K v/\∀(Γ:G) (w:World) (a:Act) (s':S),AO Γ w s'->(∀y∈o.op.operands,AG Γ (ρa y) (a.eval y))->Au X.P o a w (BB Γ w s' v):=by
 obtain⟨v,hK,hs⟩:=z0V hP h;refine⟨v,hK,fun Γ w a s' c hr=>?_⟩;obtain⟨u,h1,h2⟩:=hs Γ w a.eval hr;exact Au.val h1 (BB.same c h2)
mutual
def iG {Γ:G}:∀{x:V} {hm:Option Key} {p:List Nat} {vs:List Value},AA Γ hm p x vs->∀k∈x.pks,Γ.ι k≠none
 | .ptr k0 q τ,_,_,_,h,k,hk=>by
  simp only[V.pks,ft]at hk;subst hk;simp only[AA]at h;obtain⟨b,τ0,o,h1,_⟩:=h;rw[h1];simp
 | .mp k0,_,_,_,h,k,hk=>by
  simp only[V.pks,ft]at hk;subst hk;simp only[AA]at h;obtain⟨b,h1,_⟩:=h;rw[h1];simp
 | .sr k0 q lo n (some c) eb e,_,_,_,h,k,hk=>by
  simp only[V.pks,ft]at hk;subst hk;simp only[AA]at h;rcases h with⟨h,_⟩|⟨b,τ0,o,m,cap,h1,_⟩
  ·cases h
  ·rw[h1];simp
 | .agg τ xs,_,_,_,h,k,hk=>by
  simp only[V.pks]at hk;simp only[AA]at h;exact X3 h.2.2.2.2 k hk
 | .sr _ _ _ _ none _ _,_,_,_,_,k,hk| .d _ _,_,_,_,_,k,hk| .sl _ _ _ _,_,_,_,_,k,hk| .ts _ _ _,_,_,_,_,k,hk| .emp _ _,_,_,_,_,k,hk| .ym,_,_,_,_,k,hk| .yn _ _,_,_,_,_,k,hk| .fn _ _,_,_,_,_,k,hk| .tup _,_,_,_,_,k,hk| .top _,_,_,_,_,k,hk| .any,_,_,_,_,k,hk=>by simp[V.pks]at hk
def X3 {Γ:G}:∀{xs:List V} {hm:Option Key} {p:List Nat} {i:Nat} {τ:Ty} {vs:List Value},AZ Γ hm p i τ xs vs->∀k∈V.Gf xs,Γ.ι k≠none
 | [],_,_,_,_,_,_,k,hk=>by simp[V.Gf]at hk
 |x::xs,_,_,_,_,_,h,k,hk=>by
  simp only[V.Gf,dy]at hk;simp only[AZ]at h;obtain⟨⟨o,f,_,_,_,h1⟩,h2⟩:=h;rcases hk with hk|hk
  ·exact iG h1 k hk
  ·exact X3 h2 k hk
end
def z0I {Γ:G} {x:V} {v} (h:AG Γ x v):∀k∈x.pks,Γ.ι k≠none:=by
 cases x with
 |any=>intro k hk;simp[V.pks]at hk
 |tup=>intro k hk;simp[V.pks]at hk
 |_=>exact iG h.1
def X2:∀{xs:List V} {k:Key},k∈V.Gf xs->∃x∈xs,k∈x.pks
 | [],_,h=>by simp[V.Gf]at h
 |x::xs,k,h=>by
  simp only[V.Gf,dy]at h;rcases h with h|h
  ·exact⟨x,by simp,h⟩
  ·obtain⟨y,h1,h2⟩:=X2 h;exact⟨y,by simp[h1],h2⟩
def yU {s:S} {k o} (h:AR s.loc k=some o):s.obj k=some o:=by unfold jj Bt;rw[h]
def eJ:∀{l:List (Key × O)} {k:Key} {o:O},AR l k=some o->(k,o)∈l
 | [],_,_,h=>by simp[AR]at h
 |(j,x)::l,k,o,h=>by
  simp only[AR]at h;split at h
  ·rename_i e;subst e;cases h;exact List.mem_cons_self ..
  ·exact List.mem_cons_of_mem _ (eJ h)
def U1 {s' base:S} (hc:Compat s' s base) (c:AO Γ w s'):∀(n:Nat) (ks:List Key),(∀k∈ks,Γ.ι k≠none)->∀p∈JY n s.loc ks,s'.obj p.1=some p.2
 |0,_,_,p,hp=>by simp[JY]at hp
 |n+1,ks,hk,p,hp=>by
  simp only[JY,List.mem_flatMap]at hp;obtain⟨k,h1,hp⟩:=hp;split at hp
  ·rename_i o ho;have hs:s'.obj k=some o:=hc.getObj c (hk k h1) (yU ho);rcases gr.1 hp with rfl|hp
   ·exact hs
   ·cases o with
    |box x=>
     have hks:∀k∈x.pks,Γ.ι k≠none:=by
      rcases c.obj k _ hs with⟨_,e,hv⟩|⟨b,cells,T,_,_,_,_,_,hr,_⟩
      ·subst hv;intro k hk;simp[V.pks]at hk
      ·exact iG hr
     exact U1 hc c n x.pks hks p hp
    |_=>simp at hp
  ·simp at hp
def z3K {s' base:S} (hc:Compat s' s base) (c:AO Γ w s') {xs} (hx:∀x∈xs,∃v,AG Γ x v) {k o} (h:(base.see s xs).obj k=some o):s'.obj k=some o:=by
 unfold jj S.see Bt at h;simp only[LB]at h;cases hl:AR (JY 3 s.loc (V.Gf xs)) k with
 |some o'=>
  rw[hl]at h;cases h;refine U1 hc c 3 (V.Gf xs) (fun k hk=>?_) (k,o) (eJ hl);obtain⟨x,h1,h2⟩:=X2 hk;obtain⟨v,hv⟩:=hx x h1;exact z0I hv k h2
 |none=>
  rw[hl]at h;exact hc.base k o h
def oV:∀{l:List V} {i:Nat} {x:V},Fw l=true->l[i]? =some x->∃τ c,x= .d τ c
 | [],i,x,_,h=>by simp at h
 |y::l,0,x,hl,h=>by
  simp only[Fw,bg]at hl;simp at h;subst h;cases y <;> simp at hl;exact⟨_,_,rfl⟩
 |y::l,i+1,x,hl,h=>by
  simp only[Fw,bg]at hl;exact oV hl.2 (by simpa using h)
def z31 {s' base} (hc:Compat s' s base) (c:AO Γ w s') {gl x v} (hr:AG Γ x v) (hd:∃τ cc,Fl s x= .d τ cc):AG (G.HB w gl) (Fl s x) v:=by
 obtain⟨τ,cc,hd⟩:=hd;rw[hd];exact z33 c (fun k o hι ho=>hc.getObj c hι ho) gl hr hd
def MR (hP:Aq X.P=true) {md base} {dst:Nat} {o ρa K} (h:iop X md base dst o ρa s K):
  ∃v lo tn,K v lo tn/\Yw X base o ρa s v lo tn:=by
 have z5Y:(pv X.P o.op ρa fun y=>K y [] [])->∃v lo tn,K v lo tn/\Yw X base o ρa s v lo tn:=by
  intro h;obtain⟨v,hK,hd⟩:=q5n hP h;exact⟨v,[],[],hK,fun Γ w a s' _ c _ _ hr=>hd Γ w a s' c hr⟩
 unfold iop at h;split at h
 · -- load
  rename_i T x ho;split at h
  ·split at h
   ·rename_i k q τ hx;split at h
    ·rename_i y yr;unfold mT at h;split at h
     ·rename_i y0 t0 M e cc m e' hat ht;obtain⟨hq,rfl,rfl,hk,hlo,hK⟩:=h;refine⟨_,_,_,hK,fun Γ w a s' _ c hc _ hr=>?_⟩;have hxr:=hr x (by rw[ho];simp[cf]);rw[hx]at hxr;obtain⟨b,τ0,o0,hι,_⟩:=Gj hxr;have hq2:q=q.dropLast++[q.getLastD 0]:=by
       rw[List.getLastD_eq_getLast?,List.getLast?_eq_some_getLast hq,Option.getD_some];exact(List.dropLast_concat_getLast hq).symm
      rw[hq2]at hxr;obtain⟨u,r1,r2⟩:=q8t (T:=T) hP c hxr (hc.getObj c (by rw[hι];simp) yr) hat ht hk hlo;exact Au.val (by unfold execOp;simp[ho,r1]) (BB.same c r2)
     ·exact h.elim
    ·exact h.elim
   ·exact h.elim
  split at h
  ·rename_i k q τ hx;split at h
   ·rename_i y yr;obtain⟨h1,h2,h3,hK⟩:=h;refine⟨_,_,_,hK,fun Γ w a s' _ c hc _ hr=>?_⟩;have hxr:=hr x (by rw[ho];simp[cf]);rw[hx]at hxr;obtain⟨b,τ0,o0,hι,_⟩:=Gj hxr;obtain⟨u,r1,r2⟩:=eF (T:=T) hP c hxr (hc.getObj c (by rw[hι];simp) yr) h1 h2 h3;exact Au.val (by unfold execOp;simp[ho,r1]) (BB.same c r2)
   ·exact h.elim
  ·rename_i τ cc hx;obtain⟨h2,h3,hK⟩:=h;refine⟨_,_,_,hK,fun Γ w a s' _ c hc _ hr=>?_⟩;have hxr:=hr x (by rw[ho];simp[cf]);rw[hx]at hxr;obtain⟨u,r1,r2⟩:=q8s (T:=T) hP c hxr h2 h3;exact Au.val (by unfold execOp;simp[ho,r1]) (BB.same c r2)
  ·exact h.elim
 ·rename_i T ho;obtain⟨h1,hK⟩:=h;exact⟨_,_,_,hK,fun Γ w a s' _ c _ hf _=>q40 c ho (hf.l _ _ (MX _ _ _)) h1⟩
 ·rename_i T x ho;split at h
  ·obtain⟨h1,h⟩:=h;split at h
   ·rename_i cc hcc;exact⟨_,_,_,h,fun Γ w a s' _ c _ hf hr=>q44 c ho (hr x (by rw[ho];simp[cf])) h1 hcc⟩
   ·exact h.elim
  ·obtain⟨h1,h2,hK⟩:=h;exact⟨_,_,_,hK,fun Γ w a s' _ c _ hf hr=>q43 c ho (hf.l _ _ (MX _ _ _)) (hr x (by rw[ho];simp[cf])) h1 h2⟩
 · -- buildSlice
  rename_i t len parts ho;split at h
  ·rename_i eb e ht;split at h
   ·obtain⟨h1,hK⟩:=h;have hp0:parts=#[]:=by apply ia;simpa using h1
    subst hp0;exact⟨_,_,_,hK,fun Γ w a s' _ c _ _ _=>q48 hP c ho ht⟩
   ·rename_i len;obtain⟨h1,h2,h3,h4,h5,h⟩:=h;split at h
    ·obtain⟨h6,h7,hK⟩:=h;refine⟨_,_,_,hK,fun Γ w a s' _ c _ hf hr=>q49 hP c (hf.l _ _ (MX _ _ _)) ho ht h1 (by omega) h2 h3 h4 h5 (by have:=congrArg List.length h5;simpa using this) (fun i x y hx hy=>?_) h6 h7⟩;rw[di,hx]at hy;cases hy;exact hr x.2 (by rw[ho];simp only[cf];exact qu.2 (nz.2 ⟨x,fg hx,rfl⟩))
    split at h
    ·rename_i cs hcs;obtain⟨h6,hK⟩:=h;obtain⟨l1,l2⟩:=Zo hcs;have hl:cs.length=len+1:=by rw[l1];have:=congrArg List.length h5;simpa using this
     have key:∀(Γ:G) (w:World) (a:Act) (s':S),Γ.gl=X.gl->AO Γ w s'->(∀y∈o.op.operands,AG Γ (ρa y) (a.eval y))->∀(i:Nat) (x:Nat × Operand) (cc:C),parts.toList[i]? =some x->cs[i]? =some cc->AG Γ (.d e cc) (a.eval x.2):=by
      intro Γ w a s' _ c hr i x cc hx hcc;have hxm:(parts.toList.map fun x=>ρa x.2)[i]? =some (ρa x.2):=by simp only[di,hx];rfl
      obtain⟨t1,t2⟩:=h6 _ (fg hxm);have z6x:x∈parts.toList:=fg hx;have hrx:=hr x.2 (by rw[ho];simp only[cf];exact qu.2 (nz.2 ⟨x,z6x,rfl⟩));obtain⟨q1,q2⟩:=(BZ t2).1 hrx;have:=Kc _ q1 (l2 i _ cc hxm hcc);rw[t1]at this q2;exact Ct.2 ⟨this,q2⟩
     split at hK
     ·exact⟨_,_,_,hK,fun Γ w a s' hg c _ hf hr=>q5a hP c (hf.t _ _ (Wi _ _ _)) ho ht h1 (by omega) h2 h3 h4 h5 hl (key Γ w a s' hg c hr)⟩
     ·exact⟨_,_,_,hK,fun Γ w a s' hg c _ _ hr=>q47 hP c ho ht h1 (by omega) h2 h3 h4 h5 hl (key Γ w a s' hg c hr)⟩
    ·exact h.elim
  ·exact h.elim
 · -- build
  rename_i T parts ho;obtain⟨h1,h2,h3,h4,hK⟩:=h;refine⟨_,_,_,hK,fun Γ w a s' _ c _ _ hr=>?_⟩;obtain⟨u,r1,r2⟩:=q46 (Γ:=Γ) (w:=w) (ev:=a.eval) hP h1 h2 h3 (fun p hp=>hr p.2 (by rw[ho];simp only[cf];exact qu.2 (nz.2 ⟨p,hp,rfl⟩))) h4;refine Au.val (v:=u) (w':=w) ?_ (BB.same c r2);unfold execOp;simp only[ho,da,r1,cu,fc]
 · -- makeSlice
  rename_i t l cp ho;split at h
  ·rename_i eb e ht;obtain⟨h1,h2,h3,h4,h5,h6,h7,h8,hK⟩:=h;refine⟨_,_,_,hK,fun Γ w a s' _ c _ hf hr=>?_⟩;obtain⟨k1,e1⟩:=QW h2 (hr l (by rw[ho];simp[cf]));obtain⟨k2,e2⟩:=QW h3 (hr cp (by rw[ho];simp[cf]));exact q5g (L:=ρa l) (Cp:=ρa cp) (k1:=k1) (k2:=k2) (nl:=(ρa l).toInt.toNat) (nc:=(ρa cp).toInt.toNat) hP c ho ht h1 (hf.l _ _ (MX _ _ _)) (by rw[e1,gy h4]) (by rw[e2,gy (by omega)]) (by omega) (by unfold maxLen;omega) h7 h8 (fun c h=>by split at h <;> cases h;rfl)
  ·exact h.elim
 · -- makeMap
  rename_i T r ho;split at h
  ·rename_i kt et hT;exact⟨_,_,_,h,fun Γ w a s' _ c _ hf _=>q5f c ho (hf.l _ _ (MX _ _ _))⟩
  ·exact h.elim
 · -- lookup
  rename_i T x i ok ho;split at h
  ·rename_i kt et k hT hx;split at h
   ·rename_i kτ vτ es yr;obtain⟨rfl,h1,h2,h3,hK⟩:=h;refine⟨_,_,_,hK,fun Γ w a s' _ c hc _ hr=>?_⟩;have hxr:=hr x (by rw[ho];simp[cf]);rw[hx]at hxr;obtain⟨b,hι,_⟩:=UI hxr;have hir:=hr i (by rw[ho];simp[cf]);have hd:ρa i= .d (ty X.P kt) (ρa i).toC:=by
     cases hi:ρa i <;> simp[hi,V.DF]at h3;subst h3;rfl
    rw[hd]at hir;have:=q5e hP c ho hT hxr hir (hc.getObj c (by rw[hι];simp) yr) h1 h2;exact this
   ·exact h.elim
  ·exact h.elim
 · -- calls
  rename_i cl ho;obtain⟨callee,args,ts⟩:=cl;split at h
  ·rename_i fo hfo;simp only at hfo h;subst hfo;split at h
   ·rename_i f yp hf;rcases h with⟨h1,h2,b,v,L,hB,D,hL,hK⟩|⟨rfl,v,E,hK⟩|⟨rfl,h1,v,hx,D,hv,hK⟩
    rotate_left
    ·refine⟨_,_,_,hK,fun Γ w a s' hgl c hc hfr hr=>?_⟩;have hrf:=hr fo (by rw[ho];simp[cf,ee]);rw[hf]at hrf;obtain⟨cv,hfv,hcl,_⟩:=YC hrf;have hcv:cv=#[]:=by apply ia;simpa using hcl.symm
     subst hcv;obtain⟨u,e1,e2⟩:=E Γ w (args.map a.eval) (by simp) fun i x u hx hu=>by
      simp only[di,ux]at hx hu;cases hy:args[i]? with
      |none=>rw[hy]at hu;cases hu
      |some y=>
       have hy':args.toList[i]? =some y:=by simpa using hy
       rw[hy]at hu;rw[hy']at hx;cases hu;cases hx;exact hr y (by rw[ho];simp only[cf,ee];exact jg _ (Array.mem_of_getElem? hy))
     refine Au.val (v:=u) (w':=w) ?_ (BB.same c e2);unfold execOp;simp[ho,resolve,hfv,uj,invoke,e1]
    ·refine⟨_,_,_,hK,fun Γ w a s' hgl c hc hfr hr=>?_⟩;have hrf:=hr fo (by rw[ho];simp[cf,ee]);rw[hf]at hrf;refine q5i hgl c ho h1 hrf (by simp) (fun i x y hx' hy=>?_) hx D hv;simp only[di]at hx';have hx2:=hx';rw[hy]at hx';cases hx';refine z31 hc c (hr y (by rw[ho];simp only[cf,ee];exact jg _ (kx.1 (fg hy)))) (oV hx (i:=i) ?_);simp only[di];exact hx2
    refine⟨_,_,_,hK,fun Γ w a s' hgl c hc hfr hr=>?_⟩;have hrf:=hr fo (by rw[ho];simp[cf,ee]);rw[hf]at hrf;rw[VF s s']at D;have hbb:∀k o,b.obj k=some o->s'.obj k=some o:=by
     intro k ob hk;rcases hB with rfl|rfl
     ·exact hc.base k ob hk
     ·refine z3K hc c (fun x hx=>?_) hk;simp only[Dx,dy,nz]at hx;rcases hx with⟨y,hy,rfl⟩|hx
      ·exact⟨_,hr y (by rw[ho];simp only[cf,ee];exact jg _ (kx.1 hy))⟩
      ·obtain⟨cv,_,q1,q2⟩:=YC hrf;obtain⟨i,hi⟩:=List.mem_iff_getElem?.1 hx;have hlt:i<cv.toList.length:=by rw[<-q1];exact(bz.1 hi).1
       exact⟨_,q2 i x _ hi (bm hlt)⟩
    have:=sH (tip:=false) (A:=b.up) (d:=dst) rfl hgl c ho h1 h2 hrf (fun y hy=>hr y (by rw[ho];simp only[cf,ee];exact jg _ (kx.1 hy))) (by rw[XV];rfl) D
     (fun k o hk=>by
      simp only[S.up]at hk ⊢;cases hb:b.obj k with
      |none=>simp[hb]at hk
      |some ob=>rw[hbb k ob hb];rw[hb]at hk;exact hk)
     (fun k o hk=>(g9 hL hk).elim) (fun j o hj=>hfr.l _ _ (j9 dst hL hj)) (fun m x hm=>hfr.t _ x (by rw[q8z];exact hm))
    have e:S.back s' false (Dx (args.toList.map ρa) yp) dst v L=s'.add (dnL dst L) (dnT dst (v.tkR 2000)):=by simp[S.back,S.add,XV,Gt]
    rw[<-e];exact this
   ·exact h.elim
  ·rename_i hb;simp only at hb h;subst hb;split at h
   ·rename_i x y t t' yz hts;have z5D:args=#[x,y]:=by cases args;simpa using yz
    have z5S:ts=#[t,t']:=by cases ts;simpa using hts
    subst z5D;subst z5S;obtain⟨h1,h⟩:=h;split at h
    ·rename_i eb e eb0 e0 ht hx;obtain⟨ys,hK,hs⟩:=Uc hP h;split at hK
     ·obtain⟨hne,hK⟩:=hK;refine⟨_,_,_,hK,fun Γ w a s' _ c hc hf hr=>?_⟩;have hyr:=hr y (by rw[ho];simp[cf,ee]);have hxr:=hr x (by rw[ho];simp[cf,ee]);obtain⟨Y',z5T,hs'⟩:=YV hc c hyr hs;exact sC hP c ho ht h1 (hf.l _ _ (MX _ _ _)) hxr (.inr ⟨_,_,hx⟩) z5T hs' hne
     ·refine⟨_,_,_,hK,fun Γ w a s' _ c hc hf hr=>?_⟩;have hyr:=hr y (by rw[ho];simp[cf,ee]);have hxr:=hr x (by rw[ho];simp[cf,ee]);obtain⟨Y',z5T,hs'⟩:=YV hc c hyr hs;exact sE hP c ho ht h1 (hf.t dst _ (Wi _ _ _)) hxr (.inr ⟨_,_,hx⟩) z5T hs'
    ·rename_i eb e ht hx;obtain⟨ys,hK,hs⟩:=Uc hP h;split at hK
     ·obtain⟨hne,hK⟩:=hK;refine⟨_,_,_,hK,fun Γ w a s' _ c hc hf hr=>?_⟩;have hyr:=hr y (by rw[ho];simp[cf,ee]);have hxr:=hr x (by rw[ho];simp[cf,ee]);obtain⟨Y',z5T,hs'⟩:=YV hc c hyr hs;exact sC hP c ho ht h1 (hf.l _ _ (MX _ _ _)) hxr (.inl hx) z5T hs' hne
     ·refine⟨_,_,_,hK,fun Γ w a s' _ c hc hf hr=>?_⟩;have hyr:=hr y (by rw[ho];simp[cf,ee]);have hxr:=hr x (by rw[ho];simp[cf,ee]);obtain⟨Y',z5T,hs'⟩:=YV hc c hyr hs;exact sE hP c ho ht h1 (hf.t dst _ (Wi _ _ _)) hxr (.inl hx) z5T hs'
    ·exact h.elim
   ·exact h.elim
  ·rename_i hb;simp only at hb h;subst hb;split at h
   ·rename_i x T yz hts;have z5D:args=#[x]:=by cases args;simpa using yz
    have z5S:ts=#[T]:=by cases ts;simpa using hts
    subst z5D;subst z5S;split at h
    ·rename_i k hx;split at h
     ·rename_i pr kτ vτ es hT yr;obtain⟨h1,hK⟩:=h;refine⟨_,_,_,hK,fun Γ w a s' _ c hc _ hr=>?_⟩;have hxr:=hr x (by rw[ho];simp[cf,ee]);rw[hx]at hxr;obtain⟨b,hι,_⟩:=UI hxr;exact q5d c ho (kt:=pr.1) (et:=pr.2) hT hxr (hc.getObj c (by rw[hι];simp) yr) h1
     ·exact h.elim
    ·exact z5Y h
   ·exact z5Y h
  ·exact z5Y h
 · -- a string of bytes
  rename_i src z6c x ho;split at h
  ·rename_i ys hys;refine⟨_,_,_,h,fun Γ w a s' _ c hc _ hr=>?_⟩;have hxr:=hr x (by rw[ho];simp[cf]);obtain⟨Y',z7M,z7N⟩:=z4i hc c hxr hys;exact q5k hP c ho z7N z7M
  ·exact z5Y h
 ·exact z5Y h
end
end
section
def C.isNil:C->Bool
 | .nil=>true
 |_=>false
def Kp:Operand->Bool
 | .const .nilIface=>true
 |_=>false
def Qf (P:Program) (src dst:TypeId) (x:V):Option (List C):=
 match ty P src,ty P dst with
 | .str,.slice eb e=>if e.Rd=true/\eb=1 then(match x with
  | .d .str c=>some (c.toStr.map fun b=>C.int b.toNat)
  |_=>none)else none
 |_,_=>none
def Qk (P:Program) (T:TypeId):Bool:=
 match ty P T with
 | .iface| .opq _=>false
 |_=>true
def fop (X:Cx) (o:Oper) (ρ:Operand->V) (K:V->Prop):Prop:=
 match o.op with
 | .convert src dst x=>(match Qf X.P src dst (ρ x)with
  |some ys=>K (.d (.slice 1 (.int .u8)) (.slice ys))
  |none=>False)
 | .makeInterface T _=>Qk X.P T=true/\K (.d .iface (.bool true))
 | .binOp op T x y _=>Kp y=true/\ty X.P T= .iface/\(match op,ρ x with
  | .eql,.d .iface c=>K (.d .bool (.bool c.isNil))
  | .neq,.d .iface c=>K (.d .bool (.bool (!c.isNil)))
  |_,_=>False)
 |_=>False
def sl3 (X:Cx) (md:List (Nat × Nat)) (dst:Nat) (o:Oper) (ρ:Operand->V) (s:S) (K:V->S->Prop):Prop:=
 match o.op with
 | .slice T x lo hi mx=>Br md dst=4/\s.known dst=false/\hi.isSome=true/\mx.isSome=true/\(match ty X.P T with
  | .slice eb e=>(match(ρ x).Ec with
   |some (eb',e',cs)=>eb'=eb/\e'=e/\(match CB (lo.map ρ) 0,CB (hi.map ρ) 0,CB (mx.map ρ) 0 with
    |some l,some h,some m=>l=0/\0<=h/\h=m/\m<=cs.length/\K (.sl eb e (cs.take h.toNat) dst) {s with tk:=(dst,some (cs.take h.toNat).length)::s.tk}
    |_,_,_=>False)
   |none=>False)
  |_=>False)
 |_=>False
section
variable {X:Cx} {Γ:G} {w:World} {s:S}
def z4B {P:Program} {f:Nat} {T:TypeId} (h:tyF P (f+1) T= .iface):∃ms,P.underlying T=some (.interface ms):=by
 unfold tyF at h;split at h
 ·cases hu:P.underlying T with
  |none=>simp[hu]at h
  |some d=>cases d <;> simp[hu]at h ⊢
 ·cases h
def z4A {P:Program} {T:TypeId} (h:Qk P T=true):∃d,P.underlying T=some d/\∀ms,d≠.interface ms:=by
 unfold Qk ty tyF at h;split at h
 ·cases h
 ·cases h
 ·rename_i h1 h2;split at h1
  ·cases hu:P.underlying T with
   |none=>simp[hu]at h2
   |some d=>exact⟨d,rfl,fun ms e=>by subst e;simp[hu]at h1⟩
  ·rename_i hn;simp[hn]at h2
def q0P {c v} (h:AG Γ (.d .iface c) v):(c= .nil/\v= .nilIface)\/(c= .bool true/\∃t u,v= .iface t u):=by
 obtain⟨h1,h2⟩:=Ct.1 h;rw[CT (by simpa[jb]using h2)]at h1;simp only[AK]at h1;rcases h1 with⟨rfl,h1⟩|⟨rfl,t,u,h1⟩
 ·simp at h1;exact .inl ⟨rfl,h1⟩
 ·simp at h1;exact .inr ⟨rfl,t,u,h1⟩
def z3w {P:Program} {T:TypeId} {ms} (hu:P.underlying T=some (.interface ms)) {v} (hv:v= .nilIface\/∃t u,v= .iface t u) (w:World):
  (lb T v .nilIface).run P w= .ok (match v with| .nilIface=>true|_=>false) w:=by
 unfold lb Op.maxDepth;rw[show(10000:Nat)=9999+1 from rfl,Op.equalIn,da,run_underlying hu];rcases hv with rfl|⟨t,u,rfl⟩ <;> rfl
def YM {P:Program} {T:TypeId} {ms} (hu:P.underlying T=some (.interface ms)) {x y} (hy:Kp y=true) {v} (hv:v= .nilIface\/∃t u,v= .iface t u) (w:World):
  ((do eqGuard .eql T x y v .nilIface;binOp .eql T v .nilIface):Sem Value).run P w= .ok (.bool (match v with| .nilIface=>true|_=>false)) w/\
  ((do eqGuard .neq T x y v .nilIface;binOp .neq T v .nilIface):Sem Value).run P w= .ok (.bool (!(match v with| .nilIface=>true|_=>false))) w:=by
 obtain⟨z,rfl⟩:∃z,y= .const z:=by
  cases y with
  |const z=>exact⟨z,rfl⟩
  |_=>simp[Kp]at hy
 have he:=z3w hu hv w;rcases hv with rfl|⟨t,u,rfl⟩
 ·constructor
  ·rw[eqGuard_nil_constR];show(do pure (.bool (<-lb T .nilIface .nilIface)):Sem Value).run P w=_;rw[da,he];rfl
  ·rw[eqGuard_nil_constR];show(do pure (.bool (!(<-lb T .nilIface .nilIface))):Sem Value).run P w=_;rw[da,he];rfl
 ·constructor
  ·show(do pure (.bool (<-lb T (.iface t u) .nilIface)):Sem Value).run P w=_;rw[da,he];rfl
  ·show(do pure (.bool (!(<-lb T (.iface t u) .nilIface))):Sem Value).run P w=_;rw[da,he];rfl
def q5b {P} (hP:Aq P=true) (c:AO Γ w s) {o:Oper} {a:Act} {src dst:TypeId} {x} (ho:o.op= .convert src dst x) {Y ys} (h:Qf P src dst Y=some ys)
  (hr:AG Γ Y (a.eval x)):Au P o a w (BB Γ w s (.d (.slice 1 (.int .u8)) (.slice ys))):=by
 unfold Qf at h;split at h
 ·rename_i eb e hs ht;obtain⟨E,hu,hE,_,_⟩:=Iw hP ht;have hs':=Lf hs;split at h
  ·rename_i hc0;obtain⟨h0,rfl⟩:=hc0;obtain rfl:=Ty.dA h0;have hEu:P.underlying E=some (.int .u8):=q2g hE.symm;split at h
   ·rename_i cc;cases h;obtain⟨hv,_,hl⟩:=Io hr;have run:=run_bytes_of_string (P:=P) w src dst E ⟨cc.toStr.toArray⟩ hs' hu hEu;have hsz:(⟨cc.toStr.toArray⟩:ByteArray).size=cc.toStr.length:=by simp[ByteArray.size]
    rw[hsz]at run;have hge:=grownCap_ge w cc.toStr.length 0 E;have hcm:=grownCap_le_maxLen w cc.toStr.length 0 E (by unfold maxLen;omega);generalize grownCap w cc.toStr.length 0 E=cap at run hge hcm;have z5Z:(bytesRow ⟨cc.toStr.toArray⟩ cap).toList=cc.toStr.map (fun b=>wq .u8 b.toNat)++(bf (cap-cc.toStr.length) (wq .u8 0)):=by simp[bytesRow,hsz]
    have z5R:Ext w (w.drew.alloc (.cells (bytesRow ⟨cc.toStr.toArray⟩ cap) E ((bytesRow ⟨cc.toStr.toArray⟩ cap).size,(bytesRow ⟨cc.toStr.toArray⟩ cap).size+1))):=(Ext.drew w).trans (Ext.alloc _ _);have zh:=heap_alloc_new w.drew (.cells (bytesRow ⟨cc.toStr.toArray⟩ cap) E ((bytesRow ⟨cc.toStr.toArray⟩ cap).size,(bytesRow ⟨cc.toStr.toArray⟩ cap).size+1));obtain⟨c1,p1,g1⟩:=c.Dl z5R zh z5Z;refine Au.val (v:=.slice (some ⟨w.heap.size,0,none⟩) cc.toStr.length cap) (w':=w.drew.alloc (.cells (bytesRow ⟨cc.toStr.toArray⟩ cap) E ((bytesRow ⟨cc.toStr.toArray⟩ cap).size,(bytesRow ⟨cc.toStr.toArray⟩ cap).size+1))) ?_ ⟨_,g1,p1,c1,?_⟩
    ·unfold execOp;simp only[ho,hv,da,run,cu,fc]
    ·refine Ct.2 ⟨Dh (by simp) hge hcm (by omega) (.inr ⟨w.heap.size,0,_,rfl,Cb _ _ _,by simp[iy],fun i c' hi=>?_⟩),rfl⟩;simp only[di]at hi;cases hb:cc.toStr[i]? with
     |none=>rw[hb]at hi;cases hi
     |some b=>
      rw[hb]at hi;cases hi;have:chunk (cc.toStr.map (fun b=>wq .u8 b.toNat)) (0+i*(Ty.int bt).size) (Ty.int bt).size=[.int .u8 b.toNat]:=by
       apply List.ext_getElem?;intro j;rw[DY];by_cases hj:j<1
       ·have:j=0:=by omega
        subst this;simp[iy,hb]
       ·simp[iy,hj]
      rw[this];simp only[AK];refine⟨_,rfl,rfl,?_,?_⟩
      ·have:IntKind.u8.min=0:=by decide
       omega
      ·have:IntKind.u8.max=255:=by decide
       have:=b.toNat_lt;omega
   ·cases h
  ·cases h
 ·cases h
def cB (hP:Aq X.P=true) {o:Oper} {ρ K} (h:fop X o ρ K):
  ∃v,K v/\∀(Γ:G) (w:World) (a:Act) (s:S),AO Γ w s->(∀y∈o.op.operands,AG Γ (ρ y) (a.eval y))->Au X.P o a w (BB Γ w s v):=by
 unfold fop at h;split at h
 ·rename_i src dst x ho;split at h
  ·rename_i ys hys;exact⟨_,h,fun Γ w a s c hr=>q5b hP c ho hys (hr x (by rw[ho];simp[cf]))⟩
  ·exact h.elim
 ·rename_i T x ho;obtain⟨h1,hK⟩:=h;obtain⟨d,hd,hni⟩:=z4A h1;refine⟨_,hK,fun Γ w a s c hr=>Au.val (v:=.iface T (a.eval x)) (w':=w) ?_ (BB.same c (Ct.2 ⟨?_,rfl⟩))⟩
  ·unfold execOp;simp only[ho,da,Instr.makeInterface,run_underlying hd]
   cases d <;> first
    |exact absurd rfl (hni _)
    |simp[fc,Result.andThen]
  ·simp only[fe,AK];exact .inr ⟨trivial,_,_,rfl⟩
 ·rename_i op T x y yT ho;obtain⟨hy,hT,h⟩:=h;obtain⟨ms,hu⟩:=z4B (f:=11) hT;have hyv:∀a:Act,a.eval y= .nilIface:=fun a=>by
   cases y with
   |const z=>cases z <;> simp[Kp]at hy;rfl
   |_=>simp[Kp]at hy
  split at h
  ·rename_i cc hx;refine⟨_,h,fun Γ w a s c hr=>?_⟩;have hxr:=hr x (by rw[ho];simp[cf]);rw[hx]at hxr;rcases q0P hxr with⟨rfl,hv⟩|⟨rfl,t,u,hv⟩
   ·refine Au.val (v:=.bool true) (w':=w) ?_ (BB.same c (Ce));unfold execOp;simp only[ho,hyv,hv];have:=(YM (P:=X.P) hu (x:=x) hy (v:=.nilIface) (.inl rfl) w).1;simp only[da]at this ⊢;rw[this];rfl
   ·refine Au.val (v:=.bool false) (w':=w) ?_ (BB.same c (Ce));unfold execOp;simp only[ho,hyv,hv];have:=(YM (P:=X.P) hu (x:=x) hy (v:=.iface t u) (.inr ⟨_,_,rfl⟩) w).1;simp only[da]at this ⊢;rw[this];rfl
  ·rename_i cc hx;refine⟨_,h,fun Γ w a s c hr=>?_⟩;have hxr:=hr x (by rw[ho];simp[cf]);rw[hx]at hxr;rcases q0P hxr with⟨rfl,hv⟩|⟨rfl,t,u,hv⟩
   ·refine Au.val (v:=.bool false) (w':=w) ?_ (BB.same c (Ce));unfold execOp;simp only[ho,hyv,hv];have:=(YM (P:=X.P) hu (x:=x) hy (v:=.nilIface) (.inl rfl) w).2;simp only[da]at this ⊢;rw[this];rfl
   ·refine Au.val (v:=.bool true) (w':=w) ?_ (BB.same c (Ce));unfold execOp;simp only[ho,hyv,hv];have:=(YM (P:=X.P) hu (x:=x) hy (v:=.iface t u) (.inr ⟨_,_,rfl⟩) w).2;simp only[da]at this ⊢;rw[this];rfl
  ·exact h.elim
 ·exact h.elim
def z3T (hP:Aq X.P=true) {md} {dst:Nat} {o:Oper} {ρa K} (h:sl3 X md dst o ρa s K):
  ∃v s1,K v s1/\s1.A=s.A/\s1.env=s.env/\∀(Γ:G) (w:World) (a:Act),AO Γ w s->(∀y∈o.op.operands,AG Γ (ρa y) (a.eval y))->Au X.P o a w (BB Γ w s1 v):=by
 unfold sl3 at h;split at h
 ·rename_i T x lo hi mx ho;obtain⟨_,hn,hhs,hms,h⟩:=h;split at h
  ·rename_i eb e ht;obtain⟨E,hu,rfl,_,hE⟩:=Iw hP ht;split at h
   ·rename_i eb' e' cs hx;obtain⟨rfl,rfl,h⟩:=h;split at h
    ·rename_i l hh m hl hhi hm;obtain⟨rfl,h0,rfl,h2,hK⟩:=h;refine⟨_,_,hK,rfl,rfl,fun Γ w a c hr=>?_⟩;rw[ho]at hr;have r1:=hr x (by simp[cf]);have r2:∀y,lo=some y->AG Γ (ρa y) (a.eval y):=fun y e=>hr y (by subst e;simp[cf]);have r3:∀y,hi=some y->AG Γ (ρa y) (a.eval y):=fun y e=>hr y (by subst e;simp[cf]);have r4:∀y,mx=some y->AG Γ (ρa y) (a.eval y):=fun y e=>hr y (by subst e;simp[cf]);obtain⟨ad,n,cap,hv,hcs,hnc,z6a,hb,za⟩:=KI r1 hx;have hhn:hh.toNat<=n:=by omega
     have b1:lo.map a.eval=none/\(0:Nat)=0\/∃k,lo.map a.eval=some (.int k ((0:Nat):Int)):=by
      rcases Nk hl r2 with⟨rfl,_⟩|⟨k,y,rfl,hy⟩
      ·exact .inl ⟨rfl,rfl⟩
      ·exact .inr ⟨k,hy⟩
     have b2:∃k,hi.map a.eval=some (.int k (hh.toNat:Int)):=by
      rcases Nk hhi r3 with⟨rfl,_⟩|⟨k,y,rfl,hy⟩
      ·cases hhs
      ·exact⟨k,by rw[hy,gy h0]⟩
     have b3:∃k,mx.map a.eval=some (.int k (hh.toNat:Int)):=by
      rcases Nk hm r4 with⟨rfl,_⟩|⟨k,y,rfl,hy⟩
      ·cases hms
      ·exact⟨k,by rw[hy,gy h0]⟩
     obtain⟨km,b3⟩:=b3;obtain⟨c1,p1,g1⟩:=c.DA hn (x:=none) (L:=(cs.take hh.toNat).length) (fun _ _ _ h=>by cases h);have hlen:(cs.take hh.toNat).length=hh.toNat:=by simp;omega
     have hcut:=lK za (dx hh.toNat) hhn;have z7l:AK Γ.H (.slice eb' (tyF X.P 11 E)) [.slice (if hh.toNat=0 then ad else ad.map (·.add (0*(tyF X.P 11 E).size))) hh.toNat hh.toNat] (.slice (cs.take hh.toNat)):=by
      obtain⟨a',n',z5P,e1,_,e2,e3,e4,e5,e6⟩:=Im za;simp at e1;obtain⟨rfl,rfl,rfl⟩:=e1;simp only[C.elems]at e2 e6;refine Dh hlen (ca _) (by omega) (Nat.le_trans (cd _ hhn) hb) ?_;by_cases hz:hh.toNat=0
      ·exact .inl hz
      ·rcases e6 with e6|⟨b,off,ll,rfl,hb',hs',hc⟩
       ·omega
       ·refine .inr ⟨b,off,ll,?_,hb',?_,fun i c' hi=>?_⟩
        ·rw[if_neg hz];simp[Addr.add]
        ·have:hh.toNat*(tyF X.P 11 E).size<=n*(tyF X.P 11 E).size:=cd _ hhn;omega
        ·rw[fv]at hi;split at hi
         ·exact hc _ _ hi
         ·cases hi
     refine Au.val (v:=.slice (if hh.toNat=0 then ad else ad.map (·.add (0*(tyF X.P 11 E).size))) hh.toNat hh.toNat) (w':=w) ?_ ⟨_,g1,p1,c1,(Bf rfl rfl).2 ⟨?_,rfl⟩⟩
     ·unfold execOp;simp only[ho,hv,Instr.sliceAt,da,run_underlying hu,cu,Instr.slice,b3];rw[q1m (n:=n) (l:=0) (h:=hh.toNat) (m:=hh.toNat) b1 b2 (dx _) (ca _) (by omega)];simp[Ip (f:=11) hP (w:=w) hE]
     ·simp only[AA];refine⟨_,hh.toNat,hh.toNat,rfl,z7l.mono p1.1,none,_,by simp[G.DA,BR],ca _,fun _=>rfl⟩
    ·exact h.elim
   ·exact h.elim
  ·exact h.elim
 ·exact h.elim
end
end
section
def Kn {α:Type}:List (Key × α)->Key->Bool
 | [],_=>false
 |(j,_)::l,k=>decide (j=k)||Kn l k
def UK {α:Type}:List (Key × α)->Key->α->List (Key × α)
 | [],_,_=>[]
 |(j,x)::l,k,y=>if j=k then(j,y)::l else(j,x)::UK l k y
def XZ {α:Type} (l:List (Key × α)) (k:Key) (y:α):List (Key × α):=bif Kn l k then UK l k y else(k,y)::l
def Ko {α:Type}:List (Nat × α)->Nat->Bool
 | [],_=>false
 |(j,_)::l,k=>decide (j=k)||Ko l k
def LU {α:Type}:List (Nat × α)->Nat->α->List (Nat × α)
 | [],_,_=>[]
 |(j,x)::l,k,y=>if j=k then(j,y)::l else(j,x)::LU l k y
def PT {α:Type} (l:List (Nat × α)) (k:Nat) (y:α):List (Nat × α):=bif Ko l k then LU l k y else(k,y)::l
def yV {α:Type}:∀(l:List (Key × α)) (k:Key) (y:α) (j:Key),Kn l k=true->AR (UK l k y) j=if k=j then some y else AR l j
 | [],_,_,_,h=>by simp[Kn]at h
 |(i,x)::l,k,y,j,h=>by
  simp only[UK];by_cases e:i=k
  ·subst e;simp only[if_true,AR];by_cases e2:i=j <;> simp[e2]
  ·rw[if_neg e];simp only[AR];have h':Kn l k=true:=by simpa[Kn,e]using h
   rw[yV l k y j h'];by_cases e2:i=j
   ·subst e2;simp[fun h:k=i=>e h.symm];intro h;exact absurd h.symm e
   ·simp[e2]
def q8y {α:Type} (l:List (Key × α)) (k:Key) (y:α) (j:Key):AR (XZ l k y) j=if k=j then some y else AR l j:=by
 unfold XZ;cases h:Kn l k with
 |true=>exact yV l k y j h
 |false=>rfl
def zF {α:Type}:∀(l:List (Nat × α)) (k:Nat) (y:α) (j:Nat),Ko l k=true->look (LU l k y) j=if k=j then some y else look l j
 | [],_,_,_,h=>by simp[Ko]at h
 |(i,x)::l,k,y,j,h=>by
  simp only[LU];by_cases e:i=k
  ·subst e;simp only[if_true,look];by_cases e2:i=j <;> simp[e2]
  ·rw[if_neg e];simp only[look];have h':Ko l k=true:=by simpa[Ko,e]using h
   rw[zF l k y j h'];by_cases e2:i=j
   ·subst e2;simp;intro h;exact absurd h.symm e
   ·simp[e2]
def SE {α:Type} (l:List (Nat × α)) (k:Nat) (y:α) (j:Nat):look (PT l k y) j=if k=j then some y else look l j:=by
 unfold PT;cases h:Ko l k with
 |true=>exact zF l k y j h
 |false=>rfl
def S.put (s:S) (k:Key) (o:O):S:={s with loc:=XZ s.loc k o}
def S.tok (s:S) (t:Nat) (L:Option Nat):S:={s with tk:=PT s.tk t L}
def Ds:List (Nat × List Nat)->S->S
 | [],s=>s
 |(t,_)::σ,s=>Ds σ (s.tok t none)
def DG (s:S) (k j:Key) (o:O):(s.put k o).obj j=if k=j then some o else s.obj j:=by
 simp only[S.put,jj,Bt,q8y];by_cases h:k=j
 ·simp only[h,if_true]
 ·simp only[if_neg h]
def eD (s:S) (t u:Nat) (L:Option Nat):(s.tok t L).live u=if t=u then L else s.live u:=by
 simp only[S.tok,uu,Du,SE];by_cases h:t=u
 ·subst h;simp only[if_true];cases L <;> rfl
 ·simp[h]
def WN (s:S) (t u:Nat) (L:Option Nat):(s.tok t L).known u=(decide (t=u)||s.known u):=by
 simp only[S.tok,yg,SE];by_cases h:t=u
 ·subst h;simp
 ·simp[h]
def v9:∀(σ:List (Nat × List Nat)) (s:S) (k:Key),(Ds σ s).obj k=s.obj k
 | [],_,_=>rfl
 |(t,_)::σ,s,k=>by simp only[Ds,v9 σ];rfl
def yM:∀(σ:List (Nat × List Nat)) (s:S) (u:Nat),(Ds σ s).live u=match look σ u with|some _=>none|none=>s.live u
 | [],_,_=>rfl
 |(t,p)::σ,s,u=>by
  simp only[Ds,yM σ,eD,look];by_cases h:t=u
  ·subst h;simp;cases look σ t <;> rfl
  ·simp[h]
def dC:∀(σ:List (Nat × List Nat)) (s:S) (u:Nat),s.known u=true->(Ds σ s).known u=true
 | [],_,_,h=>h
 |(t,p)::σ,s,u,h=>by
  simp only[Ds];exact dC σ _ u (by rw[WN,h];simp)
def wV:∀(σ:List (Nat × List Nat)) (s:S) (u:Nat),look σ u≠none->(Ds σ s).known u=true
 | [],_,_,h=>by simp[look]at h
 |(t,p)::σ,s,u,h=>by
  simp only[Ds];by_cases e:t=u
  ·subst e;exact dC σ _ t (by rw[WN];simp)
  ·exact wV σ _ u (by simpa[look,e]using h)
def Fk (d:Nat):List (Key × O)->S->S
 | [],s=>s
 |(k,o)::L,s=>(Fk d L s).put (dn d k) (o.ren (dn d))
def Gh (d:Nat):List (Nat × Option Nat)->S->S
 | [],s=>s
 |(m,x)::l,s=>(Gh d l s).tok (rk d m) x
def GA:List Nat->S->S
 | [],s=>s
 |t::l,s=>(GA l s).tok t none
def u3 (d:Nat):∀(L:List (Key × O)) (s:S) (k:Key),(Fk d L s).obj k=match AR (dnL d L) k with|some o=>some o|none=>s.obj k
 | [],_,_=>rfl
 |(j,o)::L,s,k=>by
  simp only[Fk,DG,dnL,AR,u3 d L s k];split <;> rfl
def q16 (d:Nat):∀(L:List (Key × O)) (s:S),(Fk d L s).tk=s.tk
 | [],_=>rfl
 |(j,o)::L,s=>by simp only[Fk,S.put,q16 d L s]
def zC (d:Nat):∀(l:List (Nat × Option Nat)) (s:S) (t:Nat),look (Gh d l s).tk t=match look (dnT d l) t with|some x=>some x|none=>look s.tk t
 | [],_,_=>rfl
 |(m,x)::l,s,t=>by
  simp only[Gh,S.tok,SE,dnT,look,zC d l s t];split <;> rfl
def eI (d:Nat):∀(l:List (Nat × Option Nat)) (s:S),(Gh d l s).loc=s.loc/\(Gh d l s).A=s.A
 | [],_=>⟨rfl,rfl⟩
 |(m,x)::l,s=>by simp only[Gh,S.tok];exact eI d l s
def yX:∀(l:List Nat) (s:S) (t:Nat),look (GA l s).tk t=match look (Gt l) t with|some x=>some x|none=>look s.tk t
 | [],_,_=>rfl
 |m::l,s,t=>by
  simp only[GA,S.tok,SE,Gt,look,yX l s t];split <;> rfl
def eH:∀(l:List Nat) (s:S),(GA l s).loc=s.loc/\(GA l s).A=s.A
 | [],_=>⟨rfl,rfl⟩
 |m::l,s=>by simp only[GA,S.tok];exact eH l s
def S.ret (s:S) (tip:Bool) (ys:List V) (d:Nat) (v:V) (L:List (Key × O)):S:=Gh d (v.tkR 2000) (GA (CN tip s ys) (Fk d L s))
def q0Z (s:S) (tip:Bool) (ys:List V) (d:Nat) (v:V) (L:List (Key × O)) (k:Key):(s.ret tip ys d v L).obj k=(s.back tip ys d v L).obj k:=by
 have h1:=eI d (v.tkR 2000) (GA (CN tip s ys) (Fk d L s));have h2:=eH (CN tip s ys) (Fk d L s);have h3:=u3 d L s k;unfold jj at h3 ⊢;simp only[S.ret,h1.1,h1.2,h2.1,h2.2,h3];unfold Bt S.back;simp only[LB];cases AR (dnL d L) k <;> rfl
def q00 (s:S) (tip:Bool) (ys:List V) (d:Nat) (v:V) (L:List (Key × O)) (t:Nat):look (s.ret tip ys d v L).tk t=look (s.back tip ys d v L).tk t:=by
 simp only[S.ret,zC,yX,q16,S.back,MZ];cases look (dnT d (v.tkR 2000)) t <;> cases look (Gt (CN tip s ys)) t <;> rfl
def gOk (s:S) (d:Nat):List (Key × O)->Prop
 | []=>True
 |(.g k,_)::L=>(s.obj k).isSome=true/\gOk s d L
 |(.l j,_)::L=>s.obj (.l (rk d j))=none/\gOk s d L
def tOk (s:S) (d:Nat):List (Nat × Option Nat)->Prop
 | []=>True
 |(m,_)::l=>s.known (rk d m)=false/\tOk s d l
def cL {s:S} {d:Nat}:∀{L:List (Key × O)} {k:Key} {o:O},gOk s d L->AR L (.g k)=some o->s.obj k≠none
 | [],_,_,_,h=>by simp[AR]at h
 |(.g j,o')::L,k,o,hg,h=>by
  simp only[AR]at h;split at h
  ·rename_i e;cases e;have:=hg.1;intro h';rw[h']at this;cases this
  ·exact cL hg.2 h
 |(.l j,o')::L,k,o,hg,h=>by simp[AR]at h;exact cL hg.2 h
def cM {s:S} {d:Nat}:∀{L:List (Key × O)} {j:Nat} {o:O},gOk s d L->AR L (.l j)=some o->s.obj (.l (rk d j))=none
 | [],_,_,_,h=>by simp[AR]at h
 |(.l i,o')::L,j,o,hg,h=>by
  simp only[AR]at h;split at h
  ·rename_i e;cases e;exact hg.1
  ·exact cM hg.2 h
 |(.g i,o')::L,j,o,hg,h=>by simp[AR]at h;exact cM hg.2 h
def q1W {s:S} {d:Nat}:∀{l:List (Nat × Option Nat)} {m:Nat} {x:Option Nat},tOk s d l->look l m=some x->s.known (rk d m)=false
 | [],_,_,_,h=>by simp[look]at h
 |(i,y)::l,m,x,hg,h=>by
  simp only[look]at h;split at h
  ·rename_i e;subst e;exact hg.1
  ·exact q1W hg.2 h
def top (X:Cx) (md:List (Nat × Nat)) (dst:Nat) (o:Oper) (ρ:Operand->V) (s:S) (K:V->S->Prop):Prop:=
 match o.op with
 | .store T p y=>(match ρ p with
   | .ptr k q τ=>(match s.obj k with
     |some (.box x)=>τ=ty X.P T/\τ.known=true/\(Bj τ (ρ y)).ty=τ/\(Bj τ (ρ y)).plain=true/\x.at q≠.any/\x.ty.Ch=true/\(Bj τ (ρ y)).okH=true/\
       K .any (Ds ((Bj τ (ρ y)).sites s.live q) (s.put k (.box (x.setAt q ((Bj τ (ρ y)).Bd ((Bj τ (ρ y)).sites s.live q) s.live q)))))
     |_=>False)
   |_=>False)
 | .box _ x=>(ρ x).plain=true/\(ρ x).okH=true/\s.obj (.l dst)=none/\
   K (.ptr (.l dst) [] (ρ x).ty) (Ds ((ρ x).sites s.live []) (s.put (.l dst) (.box ((ρ x).Bd ((ρ x).sites s.live []) s.live []))))
 | .load T x=>(match ρ x with
   | .ptr k q τ=>(match s.obj k with
     |some (.box y)=>(match y.at q with
      | .ts eb e cs=>Br md dst=1/\τ=ty X.P T/\τ= .slice eb e/\y.ty.Ch=true/\s.known dst=false/\K (.sl eb e cs dst) ((s.put k (.box (y.setAt q (.d (.slice eb e) (.slice cs))))).tok dst (some cs.length))
      |_=>False)
     |_=>False)
   |_=>False)
 | .mapUpdate T x i y=>(match HQ X.P T,ρ x with
   |some (kt,et),.mp k=>(match s.obj k with
     |some (.map kτ vτ es)=>kτ=ty X.P kt/\vτ=ty X.P et/\Cq X.P kt=true/\kτ.flat=true/\(ρ i).DF kτ/\(Bj vτ (ρ y).Bh).ty=vτ/\(Bj vτ (ρ y).Bh).plain=true/\(Bj vτ (ρ y).Bh).Aw=true/\
       K .any (s.put k (.map kτ vτ (EC es (ρ i).toC (Bj vτ (ρ y).Bh))))
     |_=>False)
   |_,_=>False)
 | .call c=>(match c.callee with
   | .value fo=>(match ρ fo with
     | .fn f yp=>Hh X.P f=true/\c.argTypes.toList.length=c.args.toList.length/\GP (CN (Br md dst==1) s (Dx (c.args.toList.map ρ) yp))=true/\
      ∃v L,Bg X f (CQ X.P (Br md dst==1) s (Jj c.argTypes.toList yp) (Dx (c.args.toList.map ρ) yp)) s.up v L/\gOk s dst L/\tOk s dst (v.tkR 2000)/\
       K ((v.CV 2000).ren (dn dst) (rk dst)) (s.ret (Br md dst==1) (Dx (c.args.toList.map ρ) yp) dst v L)
     |_=>False)
   | .builtin .append=>(match c.args.toList,c.argTypes.toList with
     | [x,y],[t,t']=>Bz X.P (Al X.P t)=true/\(match ty X.P t,ρ x with
       | .slice eb e,.sl eb' e' cs tk=>eb'=eb/\e'=e/\s.live tk=some cs.length/\
         IG X.P s t' eb e (ρ y) fun ys=>(cs.length+ys.length)*eb<=140737488355328/\cs.length+ys.length<=maxLen/\K (.sl eb e (cs++ys) tk) (s.tok tk (some (cs.length+ys.length)))
       | .slice eb e,.sr k [] 0 n none eb' e'=>(match s.obj k with
         |some (.box (.d (.arr M e2) cc))=>eb'=eb/\e'=e/\e2=e/\∃d,s.obj (.l d)=none/\
           IG X.P s t' eb e (ρ y) fun ys=>(n+ys.length)*eb<=140737488355328/\n+ys.length<=maxLen/\
            K (.sr (.l d) [] 0 (n+ys.length) none eb e) ((s.put k (.dead (.arr M e))).put (.l d) (.box (.d (.arr (n+ys.length) e) (.agg (cc.elems.take n++ys)))))
         |_=>False)
       |_,_=>False)
     |_,_=>False)
   | .builtin .copy=>(match c.args.toList,c.argTypes.toList with
     | [x,y],[t,t']=>Bz X.P (Al X.P t)=true/\(match ty X.P t,ρ x with
       | .slice eb e,.sr k q lo n (some _) eb' e'=>(match s.obj k with
         |some (.box Z)=>(match Z.at q with
          | .d (.arr m e2) cc=>eb'=eb/\e'=e/\e2=e/\Z.ty.Ch=true/\0<n/\
            IG X.P s t' eb e (ρ y) fun ys=>K (.d (.int .i64) (.int (min ys.length n:Nat))) (s.put k (.box (Z.setAt q (.d (.arr m e) (.agg (Cg cc.elems lo n ys))))))
          |_=>False)
         |_=>False)
       |_,_=>False)
     |_,_=>False)
   |_=>False)
 |_=>False
def oC (X:Cx) (o:Oper) (ρ:Operand->V) (s:S) (v:V) (s1:S):Prop:=
 s1.A=s.A/\s1.env=s.env/\∀(Γ:G) (w:World) (a:Act),Γ.gl=X.gl->AO Γ w s->(∀y∈o.op.operands,AG Γ (ρ y) (a.eval y))->Au X.P o a w (BB Γ w s1 v)
section
variable {X:Cx} {Γ:G} {w:World} {s:S}
def BB.congr {s1 s2:S} {x v w'} (h:BB Γ w s1 x v w') (h1:∀k,s2.obj k=s1.obj k) (h2:∀t,s2.live t=s1.live t) (h3:∀t,s1.known t=true->s2.known t=true):BB Γ w s2 x v w':=by
 obtain⟨Γ',a,b,c,d⟩:=h;exact⟨Γ',a,b,c.congr h1 h2 h3,d⟩
def RL:∀(σ:List (Nat × List Nat)) (s:S),(Ds σ s).env=s.env/\(Ds σ s).A=s.A
 | [],_=>⟨rfl,rfl⟩
 |(t,_)::σ,s=>by simp only[Ds];exact RL σ _
def bL (d:Nat):∀(L:List (Key × O)) (s:S),(Fk d L s).env=s.env/\(Fk d L s).A=s.A
 | [],_=>⟨rfl,rfl⟩
 |_::L,s=>by simp only[Fk,S.put];exact bL d L s
def tM (d:Nat):∀(l:List (Nat × Option Nat)) (s:S),(Gh d l s).env=s.env
 | [],_=>rfl
 |_::l,s=>by simp only[Gh,S.tok];exact tM d l s
def tL:∀(l:List Nat) (s:S),(GA l s).env=s.env
 | [],_=>rfl
 |_::l,s=>by simp only[GA,S.tok];exact tL l s
def q0Y (tip:Bool) (ys:List V) (d:Nat) (v:V) (L:List (Key × O)):(s.ret tip ys d v L).env=s.env/\(s.ret tip ys d v L).A=s.A:=by
 unfold S.ret;exact⟨by rw[tM,tL,(bL d L s).1],by rw[(eI _ _ _).2,(eH _ _).2,(bL d L s).2]⟩
def yN {s s':S} (h:∀t,look s.tk t=look s'.tk t) (t:Nat):s.live t=s'.live t:=by unfold uu Du;rw[h]
def wW {s s':S} (h:∀t,look s.tk t=look s'.tk t) (t:Nat):s.known t=s'.known t:=by unfold yg;rw[h]
def wT {σ:List (Nat × List Nat)} {k:Key} {o:O} {x:V} {v:Value} {w':World} (h:BB Γ w {s with loc:=(k,o)::s.loc,tk:=Jk σ++s.tk} x v w'):BB Γ w (Ds σ (s.put k o)) x v w':=by
 refine h.congr (fun j=>?_) (fun t=>?_) (fun t ht=>?_)
 ·rw[v9,DG];exact(CU {s with tk:=Jk σ++s.tk} k j o).symm
 ·rw[yM];unfold uu Du;simp only[Wj];cases look σ t <;> rfl
 ·unfold yg at ht;simp only[Wj]at ht;cases hs:look σ t with
  |none=>rw[hs]at ht;exact dC σ _ t ht
  |some p=>exact wV σ _ t (by rw[hs];simp)
def Ye (hP:Aq X.P=true) {md} {dst:Nat} {o ρ K} (h:top X md dst o ρ s K):∃v s1,K v s1/\oC X o ρ s v s1:=by
 unfold top at h;split at h
 ·rename_i T p y ho;split at h
  ·rename_i k q τ hp;split at h
   ·rename_i x yr;obtain⟨h1,h2,h3,h4,h5,h6,h7,hK⟩:=h;refine⟨_,_,hK,by rw[(RL _ _).2];rfl,by rw[(RL _ _).1];rfl,fun Γ w a _ c hr=>?_⟩;have hpr:=hr p (by rw[ho];simp[cf]);rw[hp]at hpr;have:=q5j (Y:=ρ y) hP c ho hpr (hr y (by rw[ho];simp[cf])) yr h1 h2 h3 h4 h5 h6 h7;exact this.mono fun v w' zm=>wT zm
   ·exact h.elim
  ·exact h.elim
 ·rename_i T x ho;obtain⟨h1,h2,h3,hK⟩:=h;refine⟨_,_,hK,by rw[(RL _ _).2];rfl,by rw[(RL _ _).1];rfl,fun Γ w a _ c hr=>?_⟩;exact(q45 c ho h3 (hr x (by rw[ho];simp[cf])) h1 h2).mono fun v w' zm=>wT zm
 ·rename_i T x ho;split at h
  ·rename_i k q τ hx;split at h
   ·rename_i y yr;split at h
    ·rename_i eb e cs hat;obtain⟨_,h2,h3,h4,h5,hK⟩:=h;refine⟨_,_,hK,rfl,rfl,fun Γ w a _ c hr=>?_⟩;have hxr:=hr x (by rw[ho];simp[cf]);rw[hx]at hxr;obtain⟨b,τ0,o0,hι,hw,hv⟩:=Gj hxr;obtain⟨u,r1,r2⟩:=eF (T:=T) hP c hxr yr (by rw[hat];simp) h2 (by rw[h3];rfl);rw[hat]at r2;simp only[view]at r2;obtain⟨aa,n,cap,e1,_⟩:=KI (eb:=eb) (e:=e) (cs:=cs) r2 (by simp[V.Ec,C.elems]);subst e1;rw[h3]at hw;have z5w:w.cell? ⟨b,o0,none⟩=some (.slice aa n cap):=by
      have r1':=r1;rw[hv]at r1';simp only[kz,jx,da,fc,cu]at r1';obtain⟨b2,cells,E,e1,_,_,e4,e5,e6,e7,_⟩:=c.own hι yr;rw[hι]at e1;cases e1;obtain⟨g1,g2,g3⟩:=e6.at_ hw (by rw[hat];simp) e7;have hcl:(chunk cells.toList 0 y.ty.size).length=y.ty.size:=Dm _ _ _ (by simpa using e5);rw[hcl]at g2;simp only[iy]at g2
      obtain⟨u',q1,q2,q3⟩:=YL (T:=T) (E:=E) (fr:=(0,0)) (off:=o0) hP (h2.symm.trans h3) rfl e4 (by simp only[iy];omega) (by
       have:=g3.one (by rw[hat];rfl);simp only[iy]at this ⊢
       rwa [Dy _ _ _ _ _ (by omega),Nat.zero_add]at this)
      rw[r1']at q1;cases q1;simp only[fe,iy]at q2;have:(chunk cells.toList o0 1)[0]? =some (.slice aa n cap):=by rw[<-q2];rfl
      rw[DY]at this;simp at this;simp[World.cell?,e4,this]
     obtain⟨Γ',t1,t2,t3,t4⟩:=c.take (t:=dst) yr hat h4 h5 hι hw z5w;refine Au.val (v:=.slice aa n cap) (w':=w) (by unfold execOp;simp[ho,r1]) ⟨Γ',t1,t2,t3.congr (fun j=>?_) (fun t=>?_) (fun t ht=>?_),t4⟩
     ·refine(DG s k j _).trans ?_;exact(CU {s with tk:=(dst,some cs.length)::s.tk} k j _).symm
     ·refine(eD _ dst t _).trans ?_;exact(MW {s with loc:=(k,.box (y.setAt q (.d (.slice eb e) (.slice cs))))::s.loc} dst t (some cs.length)).symm
     ·rw[WN];exact(MU {s with loc:=(k,.box (y.setAt q (.d (.slice eb e) (.slice cs))))::s.loc} dst t (some cs.length)).symm.trans ht
    ·exact h.elim
   ·exact h.elim
  ·exact h.elim
 ·rename_i T x i y ho;split at h
  ·rename_i kt et k hT hx;split at h
   ·rename_i kτ vτ es yr;obtain⟨rfl,rfl,h1,h2,h3,h4,h5,h6,hK⟩:=h;refine⟨_,_,hK,rfl,rfl,fun Γ w a _ c hr=>?_⟩;have hxr:=hr x (by rw[ho];simp[cf]);rw[hx]at hxr;have hir:=hr i (by rw[ho];simp[cf]);have hd:ρ i= .d (ty X.P kt) (ρ i).toC:=by
     cases hi:ρ i <;> simp[hi,V.DF]at h3;subst h3;rfl
    rw[hd]at hir;exact(q5h hP c ho hT hxr hir (ZN (hr y (by rw[ho];simp[cf])).Bh) yr h1 h2 h4 h5 h6).mono fun v w' zm=>zm.congr (fun j=>(DG s k j _).trans (CU s k j _).symm) (fun _=>rfl) (fun _ h=>h)
   ·exact h.elim
  ·exact h.elim
 ·rename_i cl ho;obtain⟨callee,args,ts⟩:=cl;split at h
  ·rename_i fo hfo;simp only at hfo h;subst hfo;split at h
   ·rename_i f yp hf;obtain⟨h1,h2,h3,v,L,D,hg,ht,hK⟩:=h;refine⟨_,_,hK,(q0Y ..).2,(q0Y ..).1,fun Γ w a hgl c hr=>?_⟩;have hrf:=hr fo (by rw[ho];simp[cf,ee]);rw[hf]at hrf
    have:=sH (A:=s.up) (d:=dst) rfl hgl c ho h1 h2 hrf (fun y hy=>hr y (by rw[ho];simp only[cf,ee];exact jg _ (kx.1 hy))) h3 D (fun _ _ h=>h)
     (fun k o hk=>cL hg hk) (fun j o hj=>cM hg hj) (fun m x hm=>q1W ht hm)
    exact this.mono fun v' w' zm=>zm.congr (fun k=>q0Z ..) (fun t=>yN (fun t=>q00 ..) t) (fun t hk=>by rw[wW (fun t=>q00 ..)];exact hk)
   ·exact h.elim
  ·rename_i hb;simp only at hb h;subst hb;split at h
   ·rename_i x y t t' yz hts;have z5D:args=#[x,y]:=by cases args;simpa using yz
    have z5S:ts=#[t,t']:=by cases ts;simpa using hts
    subst z5D;subst z5S;obtain⟨h1,h⟩:=h;split at h
    ·rename_i eb e eb' e' cs tk htt hx;obtain⟨rfl,rfl,hl,h⟩:=h;obtain⟨ys,⟨b1,b2,hK⟩,hs⟩:=Uc hP h;refine⟨_,_,hK,rfl,rfl,fun Γ w a _ c hr=>?_⟩;have hyr:=hr y (by rw[ho];simp[cf,ee]);have hxr:=hr x (by rw[ho];simp[cf,ee]);rw[hx]at hxr;exact(q41 hP c ho htt h1 hl hxr hyr hs b1 b2).mono fun v w' zm=>zm.congr (fun _=>rfl) (fun u=>(eD s tk u _).trans (MW s tk u _).symm) (fun u hu=>by rw[WN];exact(MU s tk u _).symm.trans hu)
    ·rename_i eb e k n eb' e' htt hx;split at h
     ·rename_i M e2 cc yr;obtain⟨rfl,rfl,rfl,d,hd,h⟩:=h;obtain⟨ys,⟨b1,b2,hK⟩,hs⟩:=Uc hP h;refine⟨_,_,hK,rfl,rfl,fun Γ w a _ c hr=>?_⟩;have hyr:=hr y (by rw[ho];simp[cf,ee]);have hxr:=hr x (by rw[ho];simp[cf,ee]);rw[hx]at hxr;exact(q42 hP c ho htt h1 hd yr hxr hyr hs b1 b2).mono fun v w' zm=>zm.congr (fun j=>by rw[DG,DG];rw[show jj {s with loc:=(Key.l d,O.box (.d (.arr (n+ys.length) _) (.agg (cc.elems.take n++ys))))::(k,O.dead _)::s.loc} j=jj {({s with loc:=(k,O.dead _)::s.loc}:S)with loc:=(Key.l d,_)::({s with loc:=(k,O.dead _)::s.loc}:S).loc} j from rfl,CU,CU]) (fun u=>rfl) (fun u hu=>hu)
     ·exact h.elim
    ·exact h.elim
   ·exact h.elim
  ·rename_i hb;simp only at hb h;subst hb;split at h
   ·rename_i x y t t' yz hts;have z5D:args=#[x,y]:=by cases args;simpa using yz
    have z5S:ts=#[t,t']:=by cases ts;simpa using hts
    subst z5D;subst z5S;obtain⟨h1,h⟩:=h;split at h
    ·rename_i eb e k q lo n cp eb' e' htt hx;split at h
     ·rename_i Z yr;split at h
      ·rename_i m e2 cc hZ;obtain⟨rfl,rfl,rfl,hd,h0,h⟩:=h;obtain⟨ys,hK,hs⟩:=Uc hP h;refine⟨_,_,hK,rfl,rfl,fun Γ w a _ c hr=>?_⟩;have hyr:=hr y (by rw[ho];simp[cf,ee]);have hxr:=hr x (by rw[ho];simp[cf,ee]);rw[hx]at hxr;exact(q5c hP c ho htt yr hZ hd h0 h1 hxr hyr hs).mono fun v w' zm=>zm.congr (fun j=>by rw[DG,CU]) (fun u=>rfl) (fun u hu=>hu)
      ·exact h.elim
     ·exact h.elim
    ·exact h.elim
   ·exact h.elim
  ·exact h.elim
 ·exact h.elim
end
end
section
def At (X:Cx) (n:Nat) (Γ0:G) (s:S) (a:Act) (w:World):Prop:=
 ∃Γ,GLe Γ0 Γ/\Γ.gl=X.gl/\AO Γ w s/\Fv Γ s a.tmps/\a.tmps.size=n/\a.defers=[]/\AOk s.A
def S.set (s:S) (d:Option Nat) (x:V):S:=
 match d with
 |some d=>{s with env:=PT s.env d x}
 |none=>s
def FK (s:S):List (Key × O)->Prop
 | []=>True
 |(k,_)::l=>s.obj k=none/\FK s l
def FL (s:S):List (Nat × Option Nat)->Prop
 | []=>True
 |(t,_)::l=>s.known t=false/\FL s l
def Vw {s lo tn} (h:FK s lo) (h':FL s tn):Uq s lo tn:=by
 constructor
 ·induction lo with
  |nil=>intro k o hk;simp[AR]at hk
  |cons x lo ih=>
   intro k o hk;simp only[AR]at hk;split at hk
   ·rename_i e;rw[<-e];exact h.1
   ·exact ih h.2 k o hk
 ·induction tn with
  |nil=>intro k o hk;simp[look]at hk
  |cons x tn ih=>
   intro k o hk;simp only[look]at hk;split at hk
   ·rename_i e;rw[<-e];exact h'.1
   ·exact ih h'.2 k o hk
def zL (X:Cx) (dst:Nat) (o:Oper) (s:S) (K:V->S->Prop):Prop:=
  (iop X [] (Db (GM (o.op.operands.toList.map (Ak X.gl s))) s) dst o (fun y=>CX s (Ak X.gl s y)) (Db (GM (o.op.operands.toList.map (Ak X.gl s))) s)
   (fun v lo tn=>FK (Db (GM (o.op.operands.toList.map (Ak X.gl s))) s) lo/\FL (Db (GM (o.op.operands.toList.map (Ak X.gl s))) s) tn/\K v ((Db (GM (o.op.operands.toList.map (Ak X.gl s))) s).add lo tn))\/
  top X [] dst o (fun y=>CX s (Ak X.gl s y)) (Db (GM (o.op.operands.toList.map (Ak X.gl s))) s) K)
def lop (X:Cx) (md:List (Nat × Nat)) (dst:Nat) (o:Oper) (s:S) (K:V->S->Prop):Prop:=Br md dst=100/\zL X dst o s K
def zP:∀{xs:List V} {x:V} {j:Nat},x∈xs->j∈Fi x->j∈GM xs
 |y::ys,x,j,hx,hj=>by
  simp only[GM,dy];rcases gr.1 hx with rfl|hx
  ·exact .inl hj
  ·exact .inr (zP hx hj)
def Ry:∀(js:List Nat) (s:S),(Db js s).env=s.env/\(Db js s).A=s.A
 | [],s=>⟨rfl,rfl⟩
 |j::l,s=>by
  simp only[Db]
  have:=Ry l (match s.obj (.l j)with
   |some (.box (.d τ _))=>(match τ with
    | .arr M e=>{s with loc:=(.l j,.dead (.arr M e))::s.loc}
    |_=>s)
   |_=>s)
  refine⟨this.1.trans ?_,this.2.trans ?_⟩ <;> (split <;> (try rfl);split <;> rfl)
def sop (X:Cx) (md:List (Nat × Nat)) (dst:Nat) (o:Oper) (s:S) (K:V->S->Prop):Prop:=
 lop X md dst o s K\/(Br md dst≠1/\iop X md s dst o (Ak X.gl s) s (fun v lo tn=>FK s lo/\FL s tn/\K v (s.add lo tn)))\/top X md dst o (Ak X.gl s) s K\/(fop X o (Ak X.gl s) fun v=>K v s)\/sl3 X md dst o (Ak X.gl s) s K
def GJ (ops:Array Oper) (j:Nat):Option Nat:=(ops[j]?).bind (·.dst)
def Aa (o:Oper):Nat:=o.dst.getD 0
def gk (b want:Bool) (p q:Prop):Prop:=(b=want->p)/\(b≠want->q)
def EJ (p q:Prop):gk true true p q=p:=by simp[gk]
def EG (p q:Prop):gk false false p q=p:=by simp[gk]
def EI (p q:Prop):gk true false p q=q:=by simp[gk]
def EH (p q:Prop):gk false true p q=q:=by simp[gk]
def gv (ops:Array Oper) (s:S) (j:Nat):V:=match GJ ops j with
 |none=>.any
 |some t=>s.get t
def gx (x:V) (want:Bool) (p q:Prop):Prop:=match x with
 | .d .bool c=>gk c.toBool want p q
 | .tup []=>q
 |_=>False
def vc (X:Cx) (md:List (Nat × Nat)) (ops:Array Oper) (Φ:S->Prop):List Oper->S->Prop
 | [],s=>Φ s
 |o::rest,s=>match o.guard with
  |none=>sop X md (Aa o) o s fun v s'=>vc X md ops Φ rest (s'.set o.dst v)
  |some (j,want)=>gx (gv ops s j) want (sop X md (Aa o) o s fun v s'=>vc X md ops Φ rest (s'.set o.dst v)) (vc X md ops Φ rest (s.set o.dst (.tup [])))
def q0S {Γ}:AG Γ (.tup []) undef:=⟨#[],rfl,by simp[BC]⟩
def Jq (s:S) (d:Option Nat) (v:V) (t:Nat):(s.set d v).get t=if d=some t then v else s.get t:=by
 cases d with
 |none=>simp[S.set]
 |some d=>
  simp only[S.set,S.get,SE];by_cases h:d=t
  ·simp[h]
  ·have:¬(some d=some t):=by intro e;cases e;exact h rfl
   simp[h]
section
variable {X:Cx} {n:Nat} {Γ0:G}
def z3Z {Γ} {s:S} {a:Act} {d:Option Nat} {x v} (hs:Fv Γ s a.tmps) (hd:∀t,d=some t->t<a.tmps.size) (hx:AG Γ x v):
  Fv Γ (s.set d x) (a.put d v).tmps:=by
 intro i;rw[Jq];cases d with
 |none=>simpa[si]using hs i
 |some t=>
  have:=hd t rfl;by_cases h:t=i
  ·subst h;simp only[si,if_true];simp[this];exact hx
  ·have h':¬(some t=some i):=by intro e;cases e;exact h rfl
   rw[if_neg h'];have:=hs i;simpa[si,Array.getElem?_setIfInBounds_ne h]using this
def Ql {Γ w} {s:S} (c:AO Γ w s) (d:Option Nat) (x:V):AO Γ w (s.set d x):=by
 cases d with
 |none=>exact c
 |some t=>exact c.env _
def Vn {Γ:G} {w} {s s':S} {a:Act} (hgl:Γ.gl=X.gl) (c:AO Γ w s') (hs:∀t,AG Γ (s.get t) (a.tmps.getD t undef)) {y} (hy:XJ y=true):AG Γ (Ak X.gl s y) (a.eval y):=by
 cases y with
 |tmp t=>exact hs t
 |func f=>
  show AG Γ (.fn f []) (.func (.func f) #[] #[]);exact(BZ rfl).2 ⟨by simp[AA,BC,fe],by simp[qa,jb,BJ]⟩
 |global g=>
  simp only[Ak];cases hg:X.gl g with
  |none=>simp[AG]
  |some x=>
   obtain⟨τ,cc⟩:=x;obtain⟨l,h1,h2,h3⟩:=c.hgl g τ cc (by rw[hgl];exact hg);exact Mv h1 (by simpa using h2) h3
 |const v=>
  simp only[Ak,Act.eval];unfold aC;simp only[XJ]at hy;split
  ·simp[aB]at hy;exact Cu hy.1 hy.2
  ·exact Ce
  ·simp[aB]at hy;rename_i str;exact UH (l:=str.data.toList) (by simpa using hy)
  ·exact(BZ rfl).2 ⟨by simp[AA,AK,fe],by simp[qa,jb,BJ]⟩
  ·exact(BZ rfl).2 ⟨by simp[AA,fe],by simp[qa,jb,BJ]⟩
  ·exact(BZ rfl).2 ⟨by simp[AA,AK,fe],by simp[qa,jb,BJ]⟩
  ·exact(BZ rfl).2 ⟨by simp[AA,AK,fe],by simp[qa,jb,BJ]⟩
  ·exact(BZ rfl).2 ⟨by simp[AA,AK,fe],by simp[qa,jb,BJ]⟩
  ·simp[AG]
def Lu {s:S} {a:Act} {w} {d:Option Nat} {x} (hd:match d with|some d=>decide (d<n)=true|none=>True) {Γ:G} (h1:GLe Γ0 Γ) (h3:Γ.gl=X.gl) (c:AO Γ w s) (hs:Fv Γ s a.tmps) (hn:a.tmps.size=n) (hf:a.defers=[]/\AOk s.A) {v} (hx:AG Γ x v):
  At X n Γ0 (s.set d x) (a.put d v) w:=by
 refine⟨Γ,h1,h3,Ql c d x,z3Z hs (fun t ht=>?_) hx,?_,?_,?_⟩
 ·subst ht;simp at hd;omega
 ·cases d <;> simp[si,hn]
 ·cases d <;> simp[si,hf.1]
 ·cases d <;> exact hf.2
def LZ {Γ} {s s':S} {t} (h:s'.env=s.env) (hs:Fv Γ s t):Fv Γ s' t:=fun i=>by
 have:=hs i;simp only[S.get]at this ⊢;rw[h];exact this
def z34 (hP:Aq X.P=true) {md} {o:Oper} {s K} (hok:Hx n o=true) (h:sop X md (Aa o) o s K) {a:Act} {w} (hat:At X n Γ0 s a w):
  Au X.P o a w fun u w'=>∃v s',K v s'/\At X n Γ0 (s'.set o.dst v) (a.put o.dst u) w':=by
 obtain⟨Γ,g1,g3,c,hs,hn,hf⟩:=hat;simp only[Hx,bg,Array.all_eq_true']at hok;have hd:match o.dst with|some d=>decide (d<n)=true|none=>True:=by
  cases ho:o.dst with
  |none=>trivial
  |some d=>have:=hok.2;rw[ho]at this;exact this
 have zj:∀y∈o.op.operands,AG Γ (Ak X.gl s y) (a.eval y):=fun y hy=>Vn g3 c hs (hok.1 y hy);rcases h with⟨_,h⟩|⟨_,h⟩|h|h|h
 ·obtain⟨Γ1,gl1,p1,c1,hcv⟩:=Wf (GM (o.op.operands.toList.map (Ak X.gl s))) s c
  have z6O:∀y∈o.op.operands,AG Γ1 (CX s (Ak X.gl s y)) (a.eval y):=fun y hy=>
   hcv _ _ (zj y hy) fun j hj=>zP (List.mem_map_of_mem (by simpa using hy)) hj
  have zq:=Ry (GM (o.op.operands.toList.map (Ak X.gl s))) s;have hs1:Fv Γ1 (Db (GM (o.op.operands.toList.map (Ak X.gl s))) s) a.tmps:=LZ zq.1 (hs.BL p1);have g31:Γ1.gl=X.gl:=gl1.gl.trans g3;rcases h with h|h
  ·obtain⟨v,lo,tn,⟨hf1,hf2,hK⟩,hI⟩:=MR hP h;refine(hI Γ1 w a _ g31 c1 ⟨fun _ _ h _=>h,fun _ _ h=>h⟩ (Vw hf1 hf2) z6O).mono ?_;rintro u w' ⟨Γ',gle,hp,c',hv⟩;exact⟨_,_,hK,Lu hd ((g1.trans gl1).trans gle) (gle.gl.trans g31) c' (LZ (s:=Db (GM (o.op.operands.toList.map (Ak X.gl s))) s) rfl (hs1.BL hp)) hn ⟨hf.1,by show AOk (Db _ s).A;rw[zq.2];exact hf.2⟩ hv⟩
  ·obtain⟨v,s1,hK,hsA,he,hT⟩:=Ye hP h;refine(hT Γ1 w a g31 c1 z6O).mono ?_;rintro u w' ⟨Γ',gle,hp,c',hv⟩;exact⟨_,_,hK,Lu hd ((g1.trans gl1).trans gle) (gle.gl.trans g31) c' (LZ he (hs1.BL hp)) hn ⟨hf.1,by rw[hsA,zq.2];exact hf.2⟩ hv⟩
 ·obtain⟨v,lo,tn,⟨hf1,hf2,hK⟩,hI⟩:=MR hP h;refine(hI Γ w a s g3 c ⟨fun _ _ h _=>h,fun _ _ h=>h⟩ (Vw hf1 hf2) zj).mono ?_;rintro u w' ⟨Γ',gle,hp,c',hv⟩;exact⟨_,_,hK,Lu hd (g1.trans gle) (gle.gl.trans g3) c' (LZ rfl (hs.BL hp)) hn hf hv⟩
 ·obtain⟨v,s1,hK,hsA,he,hT⟩:=Ye hP h;refine(hT Γ w a g3 c zj).mono ?_;rintro u w' ⟨Γ',gle,hp,c',hv⟩;exact⟨_,_,hK,Lu hd (g1.trans gle) (gle.gl.trans g3) c' (LZ he (hs.BL hp)) hn ⟨hf.1,by rw[hsA];exact hf.2⟩ hv⟩
 ·obtain⟨v,hK,hI⟩:=cB hP h;refine(hI Γ w a s c zj).mono ?_;rintro u w' ⟨Γ',gle,hp,c',hv⟩;exact⟨_,_,hK,Lu hd (g1.trans gle) (gle.gl.trans g3) c' (LZ rfl (hs.BL hp)) hn hf hv⟩
 ·obtain⟨v,s1,hK,hsA,he,hT⟩:=z3T hP h;refine(hT Γ w a c zj).mono ?_;rintro u w' ⟨Γ',gle,hp,c',hv⟩;exact⟨_,_,hK,Lu hd (g1.trans gle) (gle.gl.trans g3) c' (LZ he (hs.BL hp)) hn ⟨hf.1,by rw[hsA];exact hf.2⟩ hv⟩
end
def DC (X:Cx) (n:Nat) (c:Code) (s:S) (Ψ:Exit->S->Prop):Prop:=
 ∀(Γ0:G) (a:Act) (w:World),At X n Γ0 s a w->c.wp X.P (fun e a w=>∃s',Ψ e s'/\At X n Γ0 s' a w) a w
def DL (X:Cx) (n:Nat) (s s':S):Prop:=∀(Γ0:G) (a:Act) (w:World),At X n Γ0 s a w->At X n Γ0 s' a w
section
variable {X:Cx} {n:Nat} {s:S} {Ψ:Exit->S->Prop}
def q6D {Γ ops} {a:Act} {o:Oper} {j t:Nat} {want b:Bool} (hg:o.guard=some (j,want)) (ht:GJ ops j=some t)
  (hs:AG Γ (.d .bool (.bool b)) (a.tmps.getD t undef)):jl o (yielded ops a.tmps)=(b==want):=by
 have e2:a.tmps.getD t undef= .bool b:=(FU hs).1;have z7m:a.tmps[t]? =some (.bool b):=by
  rw[il]at e2;cases h:a.tmps[t]? with
  |none=>rw[h]at e2;simp[undef]at e2
  |some v=>rw[h]at e2;simp at e2;rw[e2]
 simp only[GJ]at ht;simp[jl,hg,yielded,ht,z7m]
def vS {Γ ops} {a:Act} {o:Oper} {j t:Nat} {want:Bool} {c:C} (hg:o.guard=some (j,want)) (ht:GJ ops j=some t)
  (hs:AG Γ (.d .bool c) (a.tmps.getD t undef)):jl o (yielded ops a.tmps)=(c.toBool==want):=by
 obtain⟨_,e⟩:=FU hs;rw[e]at hs;exact q6D hg ht hs
def vT {Γ ops} {a:Act} {o:Oper} {j t:Nat} {want:Bool} (hg:o.guard=some (j,want)) (ht:GJ ops j=some t)
  (hs:AG Γ (.tup []) (a.tmps.getD t undef)):jl o (yielded ops a.tmps)=false:=by
 obtain⟨vs,e,_⟩:=hs;have hnb:∀b,a.tmps[t]?≠some (.bool b):=by
  intro b h;rw[il,h]at e;simp at e
 simp only[GJ]at ht;simp only[jl,hg,yielded,ht,Option.bind_some];rfl
def nM (hP:Aq X.P=true) {Γ0 md ops Φ Q} (hQ:∀s a w,Φ s->At X n Γ0 s a w->Q .normal a w):
  ∀(rest:List Oper) (s:S) (a:Act) (w:World),(∀o∈rest,Hx n o=true)->vc X md ops Φ rest s->At X n Γ0 s a w->wpList X.P ops Q rest a w
 | [],s,a,w,_,h,hat=>hQ s a w h hat
 |o::rest,s,a,w,hok,h,hat=>by
  have run:(sop X md (Aa o) o s fun v s'=>vc X md ops Φ rest (s'.set o.dst v))->o.wp X.P a w (wpList X.P ops Q rest) Q:=by
   intro h;refine z34 hP (hok o (by simp)) h hat _ _ ?_;rintro u w' ⟨v,s',hv,z50⟩;exact nM hP hQ rest _ _ _ (fun o ho=>hok o (by simp[ho])) hv z50
  have skip:vc X md ops Φ rest (s.set o.dst (.tup []))->wpList X.P ops Q rest (a.put o.dst undef) w:=by
   intro h;obtain⟨Γ,g1,g3,c,hs,hn,hf⟩:=hat;have hd:match o.dst with|some d=>decide (d<n)=true|none=>True:=by
    have:=hok o (by simp);simp only[Hx,bg]at this;cases ho:o.dst with
    |none=>trivial
    |some d=>have:=this.2;rw[ho]at this;exact this
   exact nM hP hQ rest _ _ _ (fun o ho=>hok o (by simp[ho])) h (Lu hd g1 g3 c hs hn hf q0S)
  simp only[vc]at h;simp only[wpList];split at h
  ·rename_i hg;have:jl o (yielded ops a.tmps)=true:=by simp[jl,hg]
   rw[if_pos this];exact .inl (run h)
  ·rename_i j want hg;cases ht:GJ ops j with
   |none=>simp[gv,ht,gx]at h
   |some t=>
    simp only[gv,ht]at h;unfold gx at h;obtain⟨Γ,g1,g3,c,hs,hn,hf⟩:=id hat;have hst:=hs t;split at h
    ·rename_i cb hb;rw[hb]at hst;rw[vS hg ht hst];by_cases hbw:cb.toBool=want
     ·rw[if_pos (by simp[hbw])];exact .inl (run (h.1 hbw))
     ·rw[if_neg (by simp[hbw])];exact skip (h.2 hbw)
    ·rename_i hb;rw[hb]at hst;rw[if_neg (by rw[vT hg ht hst];simp)];exact skip h
    ·exact h.elim
def DC.mono {c Ψ'} (h:DC X n c s Ψ) (hq:∀e s,Ψ e s->Ψ' e s):DC X n c s Ψ':=
 fun Γ0 a w hat=>wp_mono (h Γ0 a w hat) fun e a w ⟨s',h1,h2⟩=>⟨s',hq _ _ h1,h2⟩
def DC.Li {c s'} (hw:DL X n s s') (h:DC X n c s' Ψ):DC X n c s Ψ:=
 fun Γ0 a w hat=>h Γ0 a w (hw Γ0 a w hat)
def DL.refl (s:S):DL X n s s:=fun _ _ _ h=>h
def DL.trans {s s' s''} (h:DL X n s s') (h':DL X n s' s''):DL X n s s'':=fun Γ0 a w hat=>h' Γ0 a w (h Γ0 a w hat)
def IY (hP:Aq X.P=true) (md:List (Nat × Nat)) {id:Nat} {l:List Oper} (hok:l.all (Hx n)=true) (h:vc X md l.toArray (fun s'=>Ψ .normal s') l s):DC X n (.region id l.toArray false) s Ψ:=by
 intro Γ0 a w hat;refine wp_region_lit (nM hP (fun s' a w hΨ hat=>⟨s',hΨ,hat⟩) l s a w (fun o ho=>List.all_eq_true.1 hok o ho) h hat)
def EU {c c':Code} (h:DC X n c s fun e s'=>match e with| .normal=>DC X n c' s' Ψ|e=>Ψ e s'):DC X n (c.seq c') s Ψ:=by
 intro Γ0 a w hat;refine wp_seq (wp_mono (h Γ0 a w hat) ?_);rintro e a w ⟨s',h1,h2⟩;cases e with
 |normal=>exact h1 Γ0 a w h2
 |exit _|goto _|ret|panic _|outgrown=>exact⟨s',h1,h2⟩
def Ns (h:Ψ .normal s):DC X n .skip s Ψ:=fun _ _ _ hat=>wp_skip ⟨s,h,hat⟩
def rK {l:Nat} (h:Ψ .normal s):DC X n (.label l) s Ψ:=fun _ _ _ hat=>wp_label ⟨s,h,hat⟩
def MG (h:Ψ .ret s):DC X n .ret s Ψ:=fun _ _ _ hat=>wp_ret ⟨s,h,hat⟩
def q4D {id:Nat} (h:Ψ (.exit id) s):DC X n (.exit id) s Ψ:=fun _ _ _ hat=>wp_exit ⟨s,h,hat⟩
def q4E {id:Nat} (h:Ψ (.goto id) s):DC X n (.goto id) s Ψ:=fun _ _ _ hat=>wp_goto ⟨s,h,hat⟩
def VY {id:Nat} {c} (h:DC X n c s fun e s'=>match e with| .exit id'=>if id'=id then Ψ .normal s' else Ψ (.exit id') s'|e=>Ψ e s'):DC X n (.block id c) s Ψ:=by
 intro Γ0 a w hat;refine wp_block (wp_mono (h Γ0 a w hat) ?_);rintro e a w ⟨s',h1,h2⟩;cases e with
 |exit id'=>
  simp only[Exit.inBlock]at h1 ⊢;split
  ·rename_i hid;rw[if_pos hid]at h1;exact⟨s',h1,h2⟩
  ·rename_i hid;rw[if_neg hid]at h1;exact⟨s',h1,h2⟩
 |normal|goto _|ret|panic _|outgrown=>exact⟨s',h1,h2⟩
def q3k {Γ0} {a:Act} {w} {t:Nat} {b:Bool} (hat:At X n Γ0 s a w) (h:s.get t= .d .bool (.bool b)):a.eval (.tmp t)= .bool b:=by
 obtain⟨Γ,g1,g3,c,hs,hn,hf⟩:=hat;have:=hs t;rw[h]at this;exact(FU this).1
def rH {t:Nat} {c c'} (b:Bool) (hb:s.get t= .d .bool (.bool b)) (h1:b=true->DC X n c s Ψ) (h2:b=false->DC X n c' s Ψ):DC X n (.cond (.tmp t) c c') s Ψ:=by
 intro Γ0 a w hat;refine wp_cond (t:=b) (q3k hat hb) ?_;cases b with
 |true=>exact h1 rfl Γ0 a w hat
 |false=>exact h2 rfl Γ0 a w hat
def rI {t:Nat} {c c'} {v:C} (hv:s.get t= .d .bool v) (h1:v.toBool=true->DC X n c s Ψ) (h2:v.toBool=false->DC X n c' s Ψ):DC X n (.cond (.tmp t) c c') s Ψ:=by
 intro Γ0 a w hat;have he:a.eval (.tmp t)= .bool v.toBool:=by
  obtain⟨Γ,g1,g3,c,hs,hn,hf⟩:=hat;have:=hs t;rw[hv]at this;exact(FU this).1
 refine wp_cond (t:=v.toBool) he ?_;cases hb:v.toBool with
 |true=>exact h1 hb Γ0 a w hat
 |false=>exact h2 hb Γ0 a w hat
end
end
section
mutual
def V.BA (x:V):V->Prop
 | .d τ c=>(match x with
  | .ym=>(∃eb e,τ= .slice eb e)/\c= .slice []
  |x=>Bl x=some c/\x.ty=τ)
 | .emp eb e=>x= .emp eb e\/x= .ym
 | .agg τ ws=>(match x with
  | .agg τ' vs=>τ'=τ/\V.Fg vs ws
  |x=>x= .agg τ ws)
 | .any=>True
 |y=>x=y
def V.Fg:List V->List V->Prop
 | [],[]=>True
 |x::xs,y::ys=>V.BA x y/\y.ty=x.ty/\V.Fg xs ys
 |_,_=>False
end
def O.BA:O->O->Prop
 | .box x,.box y=>V.BA x y/\y.ty=x.ty/\y.plain=true/\y.Aw=true
 | .map kτ vτ es,.map kτ' vτ' es'=>kτ=kτ'/\vτ=vτ'/\es=es'
 | .it l p,.it l' p'=>l=l'/\p=p'
 |o,.dead τ=>τ=o.ty
 |_,_=>False
def CS (tk:List (Nat × Option Nat)) (t:Nat):Bool:=(look tk t).isSome
def Bb (L:List (Key × O)) (n:Nat):Bool:=(AR L (.l n)).isSome
section
variable {Γ:G}
def V.wH:∀{xs ys:List V},V.Fg xs ys->xs.length=ys.length
 | [],[],_=>rfl
 |x::xs,y::ys,h=>by simp only[V.Fg]at h;simp[V.wH h.2.2]
 | [],_::_,h=>by simp[V.Fg]at h
 |_::_,[],h=>by simp[V.Fg]at h
mutual
def AA.BA {hm}:∀(y x:V) {p:List Nat} {vs:List Value},V.BA x y->AA Γ hm p x vs->AA Γ hm p y vs/\(y≠.any->y.ty.isAgg=x.ty.isAgg/\(x≠.ym->y.ty=x.ty))
 | .d τ c,x,p,vs,h,hr=>by
  cases x
  case ym=>
   simp only[V.BA]at h;obtain⟨⟨eb,e,rfl⟩,rfl⟩:=h;simp only[AA]at hr ⊢;subst hr;exact⟨Dh rfl (ca _) (dx _) (by rw[gz];exact dx _) (.inl rfl),fun _=>⟨rfl,fun h=>absurd rfl h⟩⟩
  all_goals
   simp only[V.BA]at h;obtain⟨h1,h2⟩:=h;have:=Kc _ hr h1;rw[h2]at this;exact⟨by simpa only[AA]using this,fun _=>⟨by simp only[qa]at h2 ⊢;rw[h2],fun _=>by simp only[qa]at h2 ⊢;rw[h2]⟩⟩
 | .emp eb e,x,p,vs,h,hr=>by
  simp only[V.BA]at h;rcases h with rfl|rfl
  ·exact⟨hr,fun _=>⟨rfl,fun _=>rfl⟩⟩
  ·simp only[AA]at hr ⊢;subst hr;exact⟨⟨none,rfl⟩,fun _=>⟨rfl,fun h=>absurd rfl h⟩⟩
 | .agg τ ws,x,p,vs,h,hr=>by
  cases x
  case agg τ' us=>
   simp only[V.BA]at h;obtain⟨rfl,h⟩:=h;simp only[AA]at hr ⊢;obtain⟨r1,r2,r3,r4,r5⟩:=hr;exact⟨⟨r1,r2,by rw[<-V.wH h];exact r3,r4,AZ.BA ws us h r5⟩,fun _=>⟨rfl,fun _=>rfl⟩⟩
  all_goals (simp only[V.BA]at h;cases h)
 | .any,x,p,vs,_,_=>⟨by simp only[AA],fun h=>absurd rfl h⟩
 | .sl eb e cs t,x,p,vs,h,hr=>by simp only[V.BA]at h;subst h;exact⟨hr,fun _=>⟨rfl,fun _=>rfl⟩⟩
 | .ts eb e cs,x,p,vs,h,hr=>by simp only[V.BA]at h;subst h;exact⟨hr,fun _=>⟨rfl,fun _=>rfl⟩⟩
 | .ym,x,p,vs,h,hr=>by simp only[V.BA]at h;subst h;exact⟨hr,fun _=>⟨rfl,fun _=>rfl⟩⟩
 | .ptr k q τ,x,p,vs,h,hr=>by simp only[V.BA]at h;subst h;exact⟨hr,fun _=>⟨rfl,fun _=>rfl⟩⟩
 | .yn τ c,x,p,vs,h,hr=>by simp only[V.BA]at h;subst h;exact⟨hr,fun _=>⟨rfl,fun _=>rfl⟩⟩
 | .sr k q lo n cp eb e,x,p,vs,h,hr=>by simp only[V.BA]at h;subst h;exact⟨hr,fun _=>⟨rfl,fun _=>rfl⟩⟩
 | .mp k,x,p,vs,h,hr=>by simp only[V.BA]at h;subst h;exact⟨hr,fun _=>⟨rfl,fun _=>rfl⟩⟩
 | .fn f yp,x,p,vs,h,hr=>by simp only[V.BA]at h;subst h;exact⟨hr,fun _=>⟨rfl,fun _=>rfl⟩⟩
 | .tup us,x,p,vs,h,hr=>by simp only[V.BA]at h;subst h;exact⟨hr,fun _=>⟨rfl,fun _=>rfl⟩⟩
 | .top τ,x,p,vs,h,hr=>by simp only[V.BA]at h;subst h;exact⟨hr,fun _=>⟨rfl,fun _=>rfl⟩⟩
def AZ.BA {hm}:∀(ys xs:List V) {p:List Nat} {i:Nat} {τ:Ty} {vs:List Value},V.Fg xs ys->AZ Γ hm p i τ xs vs->AZ Γ hm p i τ ys vs
 | [],[],_,_,_,_,_,h=>h
 |y::ys,x::xs,p,i,τ,vs,h,hr=>by
  simp only[V.Fg]at h;simp only[AZ]at hr ⊢;obtain⟨⟨o,f,h1,h2,h3,h4⟩,h5⟩:=hr;obtain⟨k1,k2⟩:=AA.BA y x h.1 h4;exact⟨⟨o,f,h1,h.2.1.trans h2,h3,k1⟩,AZ.BA ys xs h.2.2 h5⟩
 | [],_::_,_,_,_,_,h,_=>by simp[V.Fg]at h
 |_::_,[],_,_,_,_,h,_=>by simp[V.Fg]at h
end
mutual
def V.Sm {f g f' g'} (hf:∀n,f n=true->f' n=true) (hg:∀n,g n=true->g' n=true):∀x:V,x.ok f g=true->x.ok f' g'=true
 | .ptr (.l k) _ _,h| .mp (.l k),h| .sr (.l k) _ _ _ _ _ _,h=>by simp only[V.ok]at h ⊢;exact hf _ h
 | .sl _ _ _ t,h=>by simp only[V.ok]at h ⊢;exact hg _ h
 | .agg _ vs,h| .fn _ vs,h| .tup vs,h=>by simp only[V.ok]at h ⊢;exact V.o8 hf hg vs h
 | .ptr (.g _) _ _,_| .mp (.g _),_| .sr (.g _) _ _ _ _ _ _,_| .d _ _,_| .ts _ _ _,_| .emp _ _,_| .ym,_| .yn _ _,_| .top _,_| .any,_=>by simp[V.ok]
def V.o8 {f g f' g'} (hf:∀n,f n=true->f' n=true) (hg:∀n,g n=true->g' n=true):∀xs:List V,ry f g xs=true->ry f' g' xs=true
 | [],_=>rfl
 |x::xs,h=>by simp only[ry,bg]at h ⊢;exact⟨V.Sm hf hg x h.1,V.o8 hf hg xs h.2⟩
end
def V.o5 {f g f' g'} (hf:∀n,f n=true->f' n=true) (hg:∀n,g n=true->g' n=true):∀xs:List (C × V),V.DH f g xs=true->V.DH f' g' xs=true
 | [],_=>rfl
 |x::xs,h=>by simp only[V.DH,bg]at h ⊢;exact⟨V.Sm hf hg x.2 h.1,V.o5 hf hg xs h.2⟩
def O.Sm {f g f' g'} (hf:∀n,f n=true->f' n=true) (hg:∀n,g n=true->g' n=true) (o:O) (h:o.ok f g=true):o.ok f' g'=true:=by
 cases o with
 |box x=>exact V.Sm hf hg x h
 |map=>exact V.o5 hf hg _ h
 |it=>rfl
 |dead=>rfl
structure Sub (Γ Γ':G) (f g:Nat->Bool):Prop where
 oo:Γ'.oo=Γ.oo
 σ:Γ'.σ=Γ.σ
 H:Γ'.H=Γ.H
 Z:Γ'.Z=Γ.Z
 gl:Γ'.gl=Γ.gl
 ιg:∀k,Γ'.ι (.g k)=Γ.ι (.g k)
 ιl:∀n,f n=true->Γ'.ι (.l n)=Γ.ι (.l n)
 τ:∀t,g t=true->Γ'.τ t=Γ.τ t
 κ:∀b k p sz,Γ.κ b=some (.home k p,sz)->Γ'.κ b=Γ.κ b
variable {Γ':G} {f g:Nat->Bool}
mutual
def AA.sub (hs:Sub Γ Γ' f g) {hm}:∀(x:V) {p:List Nat} {vs:List Value},x.ok f g=true->AA Γ hm p x vs->AA Γ' hm p x vs
 | .d _ _,_,_,_,h=>by simp only[AA]at h ⊢;rw[hs.H];exact h
 | .sl eb e cs t,_,_,ho,h=>by
  simp only[AA]at h ⊢;obtain⟨a,n,cap,h1,h2,x,L,h3,h4⟩:=h;exact⟨a,n,cap,h1,by rw[hs.H];exact h2,x,L,by rw[hs.τ t (by simpa[V.ok]using ho)];exact h3,h4⟩
 | .ts eb e cs,_,_,_,h=>by
  simp only[AA]at h ⊢;obtain⟨a,n,cap,k,h0,h1,h2,h3⟩:=h;refine⟨a,n,cap,k,h0,h1,by rw[hs.H];exact h2,?_⟩;rcases h3 with h3|⟨b,l,sz,a1,a2,a3,a4,a5⟩
  ·exact .inl h3
  ·exact .inr ⟨b,l,sz,a1,by rw[hs.H];exact a2,a3,by rw[hs.κ b k _ sz a4];exact a4,a5⟩
 | .emp _ _,_,_,_,h=>by simpa only[AA]using h
 | .ym,_,_,_,h=>by simpa only[AA]using h
 | .ptr (.l k) q τ,_,_,ho,h=>by
  simp only[AA]at h ⊢;rw[hs.ιl k (by simpa[V.ok]using ho)];exact h
 | .ptr (.g k) q τ,_,_,_,h=>by
  simp only[AA]at h ⊢;rw[hs.ιg];exact h
 | .yn τ c,_,_,_,h=>by
  simp only[AA]at h ⊢;rw[hs.H];exact h
 | .sr (.l k) _ _ _ _ _ _,_,_,ho,h=>by
  simp only[AA]at h ⊢;rw[hs.ιl k (by simpa[V.ok]using ho),hs.σ];exact h
 | .sr (.g k) _ _ _ _ _ _,_,_,_,h=>by
  simp only[AA]at h ⊢;rw[hs.ιg,hs.σ];exact h
 | .mp (.l k),_,_,ho,h=>by
  simp only[AA]at h ⊢;rw[hs.ιl k (by simpa[V.ok]using ho)];exact h
 | .mp (.g k),_,_,_,h=>by
  simp only[AA]at h ⊢;rw[hs.ιg];exact h
 | .agg τ xs,_,_,ho,h=>by
  simp only[AA]at h ⊢;exact⟨h.1,h.2.1,h.2.2.1,h.2.2.2.1,AZ.sub hs xs (by simpa[V.ok]using ho) h.2.2.2.2⟩
 | .fn _ yp,_,_,ho,h=>by
  simp only[AA]at h ⊢;obtain⟨cv,h1,h2⟩:=h;exact⟨cv,h1,BC.sub hs yp (by simpa[V.ok]using ho) h2⟩
 | .tup _,_,_,_,h=>by simp only[AA]at h
 | .top _,_,_,_,h=>by simpa only[AA]using h
 | .any,_,_,_,_=>by simp only[AA]
def AZ.sub (hs:Sub Γ Γ' f g) {hm}:∀(xs:List V) {p:List Nat} {i:Nat} {τ:Ty} {vs:List Value},ry f g xs=true->AZ Γ hm p i τ xs vs->AZ Γ' hm p i τ xs vs
 | [],_,_,_,_,_,_=>by simp only[AZ]
 |x::xs,_,_,_,_,ho,h=>by
  simp only[AZ]at h ⊢;simp only[ry,bg]at ho;obtain⟨⟨o,ff,h1,h2,h3,h4⟩,h5⟩:=h;exact⟨⟨o,ff,h1,h2,h3,AA.sub hs x ho.1 h4⟩,AZ.sub hs xs ho.2 h5⟩
def BC.sub (hs:Sub Γ Γ' f g):∀(xs:List V) {vs:List Value},ry f g xs=true->BC Γ xs vs->BC Γ' xs vs
 | [],_,_,h=>by simpa only[BC]using h
 |x::xs,_,ho,h=>by
  simp only[BC]at h ⊢;simp only[ry,bg]at ho;obtain⟨v,vs',h1,h2,h3,h4⟩:=h;exact⟨v,vs',h1,AA.sub hs x ho.1 h2,h3,BC.sub hs xs ho.2 h4⟩
end
def AG.sub (hs:Sub Γ Γ' f g) {x:V} {v} (ho:x.ok f g=true) (h:AG Γ x v):AG Γ' x v:=by
 cases x
 case any=>trivial
 case tup us=>obtain⟨vs,h1,h2⟩:=h;exact⟨vs,h1,BC.sub hs _ (by simpa[V.ok]using ho) h2⟩
 all_goals exact⟨AA.sub hs _ ho h.1,h.2⟩
def p9 {f g}:∀{es:List (C × V)} {i:Nat} {c:C × V},V.DH f g es=true->es[i]? =some c->c.2.ok f g=true
 | [],_,_,_,h=>by simp at h
 |x::xs,0,c,h,hc=>by simp[V.DH]at h;simp at hc;subst hc;exact h.1
 |x::xs,i+1,c,h,hc=>by simp[V.DH]at h;exact p9 h.2 (by simpa using hc)
def X4:∀{l:List Ty} {i:Nat} {t:Ty},Ty.Sz l=true->l[i]? =some t->t.Dv=true
 | [],_,_,_,h=>by cases h
 |x::l,0,t,h,hi=>by
  simp only[Ty.Sz,bg]at h;simp at hi;subst hi;exact h.1
 |x::l,i+1,t,h,hi=>by
  simp only[Ty.Sz,bg]at h;exact X4 h.2 (by simpa using hi)
def z0J {τ f:Ty} {i o:Nat} (h:τ.Dv=true) (hc:τ.child i=some (o,f)):f.Dv=true:=by
 cases τ with
 |struct sz os fs=>
  simp only[Ty.child]at hc;split at hc
  ·rename_i o' f' h1 h2;cases hc;exact X4 (by simpa only[Ty.Dv]using h) h2
  ·cases hc
 |arr n e=>
  simp only[Ty.child]at hc;split at hc
  ·cases hc;simpa only[Ty.Dv]using h
  ·cases hc
 |_=>cases hc
mutual
def AA.plain (hH:Γ'.H=Γ.H) {hm}:∀(x:V) {p:List Nat} {vs:List Value},x.ty.Dv=true->AA Γ hm p x vs->AA Γ' hm p x vs
 | .d _ _,_,_,_,h=>by simp only[AA]at h ⊢;rw[hH];exact h
 | .top _,_,_,_,h=>by simpa only[AA]using h
 | .agg τ xs,p,vs,ht,h=>by
  simp only[AA]at h ⊢;exact⟨h.1,h.2.1,h.2.2.1,h.2.2.2.1,AZ.plain hH xs ht h.2.2.2.2⟩
 | .sl ..,_,_,ht,_=>by simp[qa,Ty.Dv]at ht
 | .ts ..,_,_,ht,_=>by simp[qa,Ty.Dv]at ht
 | .emp ..,_,_,ht,_=>by simp[qa,Ty.Dv]at ht
 | .ym,_,_,ht,_=>by simp[qa,Ty.Dv]at ht
 | .ptr ..,_,_,ht,_=>by simp[qa,Ty.Dv]at ht
 | .yn ..,_,_,ht,_=>by simp[qa,Ty.Dv]at ht
 | .sr ..,_,_,ht,_=>by simp[qa,Ty.Dv]at ht
 | .mp ..,_,_,ht,_=>by simp[qa,Ty.Dv]at ht
 | .fn ..,_,_,ht,_=>by simp[qa,Ty.Dv]at ht
 | .tup ..,_,_,ht,_=>by simp[qa,Ty.Dv]at ht
 | .any,_,_,ht,_=>by simp[qa,Ty.Dv]at ht
def AZ.plain (hH:Γ'.H=Γ.H) {hm} {p:List Nat}:∀(xs:List V) {i:Nat} {τ:Ty} {vs:List Value},τ.Dv=true->AZ Γ hm p i τ xs vs->AZ Γ' hm p i τ xs vs
 | [],_,_,_,_,_=>by simp[AZ]
 |x::xs,i,τ,vs,ht,h=>by
  simp only[AZ]at h ⊢;obtain⟨⟨o,f,h1,h2,h3,h4⟩,h5⟩:=h;exact⟨⟨o,f,h1,h2,h3,AA.plain hH x (by rw[h2];exact z0J ht h1) h4⟩,AZ.plain hH xs ht h5⟩
end
def O.okP (f g:Nat->Bool):O->Bool
 | .map _ vτ es=>vτ.Dv||V.DH f g es
 |o=>o.ok f g
def O.q99 {f g} {o:O} (h:o.ok f g=true):o.okP f g=true:=by
 cases o with
 |map=>exact Bool.or_eq_true_iff.2 (.inr h)
 |_=>exact h
def Own.sub (hs:Sub Γ Γ' f g) {w k} {o:O} (hk:Γ'.ι k=Γ.ι k) (ho:o.okP f g=true) (h:Own Γ w k o):Own Γ' w k o:=by
 cases o with
 |box x=>
  obtain⟨b,cells,T,h1,h2,h3,h4,h5,h6,h7⟩:=h;exact⟨b,cells,T,by rw[hk];exact h1,by rw[hs.H];exact h2,by rw[hs.Z];exact h3,h4,h5,AA.sub hs x ho h6,h7⟩
 |map kτ vτ es=>
  obtain⟨b,ms,clock,h1,h2,h3,h4,h5,h6,h7⟩:=h;refine⟨b,ms,clock,by rw[hk];exact h1,by rw[hs.H];exact h2,by rw[hs.Z];exact h3,h4,h5,fun i m c hm hc=>?_,h7⟩;obtain⟨a1,a2,a3,a4⟩:=h6 i m c hm hc;simp only[O.okP,tf]at ho;rcases ho with ho|ho
  ·exact⟨by rw[hs.H];exact a1,a2,AA.plain hs.H _ (by rw[a4.2.1];exact ho) a3,a4⟩
  ·exact⟨by rw[hs.H];exact a1,a2,AA.sub hs _ (p9 ho hc) a3,a4⟩
 |it l pos=>
  obtain⟨b,adr,v,h1,h2,h3,h4,h5,h6,h7⟩:=h;refine⟨b,adr,v,by rw[hk];exact h1,by rw[hs.H];exact h2,by rw[hs.Z];exact h3,h4,h5,h6,?_⟩;rcases h7 with h7|⟨g,cap,g1,g2,g3,g4⟩
  ·exact .inl h7
  ·exact .inr ⟨g,cap,g1,by rw[hs.H];exact g2,by rw[hs.κ g _ _ _ g3];exact g3,g4⟩
 |dead τ=>
  obtain⟨b,h1,h4⟩:=h;exact⟨b,by rw[hk];exact h1,h4⟩
def Own.BA {w k o o'} (hi:O.BA o o') (h:Own Γ w k o):Own Γ w k o':=by
 cases o' with
 |dead τ=>
  have e:τ=o.ty:=by cases o <;> exact hi
  obtain⟨b,τ',h1,_,h4,h5⟩:=h.block;exact⟨b,by rw[e,<-h5];exact h1,h4⟩
 |box y=>cases o with
  |box x=>
   obtain⟨b,cells,T,h1,h2,h3,h4,h5,h6,h7,h8⟩:=h;obtain⟨i1,ht,i2,i3⟩:=hi;obtain⟨r1,_⟩:=AA.BA y x i1 h6;exact⟨b,cells,T,by rw[ht];exact h1,h2,h3,h4,by rw[ht];exact h5,by rw[ht];exact r1,i2,i3⟩
  |_=>exact hi.elim
 |map kτ vτ es=>cases o with
  |map=>obtain⟨rfl,rfl,rfl⟩:=hi;exact h
  |_=>exact hi.elim
 |it l p=>cases o with
  |it=>obtain⟨rfl,rfl⟩:=hi;exact h
  |_=>exact hi.elim
def O.q6S {o o':O} (hi:O.BA o o') (h:o.Jf):o'.Jf:=by
 cases o' with
 |dead=>trivial
 |box y=>cases o with
  |box x=>
   obtain⟨e,rfl⟩:=h;obtain⟨i1,_,i2,_⟩:=hi;cases y <;> simp only[V.BA,wo,reduceCtorEq,or_self,Bool.false_eq_true]at i1 i2;obtain⟨h1,rfl⟩:=i1;simp only[Bl,Option.some.injEq]at h1;subst h1;exact⟨e,rfl⟩
  |_=>exact hi.elim
 |map kτ vτ es=>cases o with
  |map=>exact h.elim
  |_=>exact hi.elim
 |it l p=>cases o with
  |it=>exact h.elim
  |_=>exact hi.elim
def O.wG {o o':O} (hi:O.BA o o') (h:o.EK=true):o'.EK=true:=by
 cases o <;> simp[O.EK]at h;cases o' <;> first|rfl|exact hi.elim
end
end
section
def Fj (s:S):List (Key × O)->Prop
 | []=>True
 |(k,o)::l=>(match s.obj k with|some o0=>O.BA o0 o|none=>False)/\Fj s l
def DM (τ:Ty):List (C × V)->Bool
 | []=>true
 |(_,v)::l=>(match v with| .d τ' _=>Ty.beq τ' τ|_=>false)&&DM τ l
def oT {f g τ}:∀{es:List (C × V)},DM τ es=true->V.DH f g es=true
 | [],_=>rfl
 |(_,v)::l,h=>by
  simp only[DM,bg]at h;simp only[V.DH,bg];refine⟨?_,oT h.2⟩;cases v <;> simp at h;rfl
def O.okB (f g:Nat->Bool):O->Bool
 | .map _ vτ es=>vτ.Dv||DM vτ es
 |o=>o.ok f g
def O.q98 {f g} {o:O} (h:o.okB f g=true):o.okP f g=true:=by
 cases o with
 |map kτ vτ es=>
  simp only[O.okB,O.okP,tf]at h ⊢;exact h.imp id oT
 |_=>exact h
def FD (f g:Nat->Bool):List (Key × O)->Bool
 | []=>true
 |(_,o)::l=>o.okB f g&&FD f g l
def IU (L:List (Key × O)) (A:Key->Option O):List (Key × O)->Prop
 | []=>True
 |(.g k,o)::l=>((AR L (.g k)).isSome=true\/A k=some o)/\IU L A l
 |(.l _,_)::l=>IU L A l
def Hk (f g:Nat->Bool) (s:S):List (Nat × V)->Prop
 | []=>True
 |(i,x)::l=>V.BA (s.get i) x/\x.ok f g=true/\(x= .any\/x.ty.isAgg=(s.get i).ty.isAgg)/\Hk f g s l
def tkW (s:S):List (Nat × Option Nat)->Prop
 | []=>True
 |(t,x)::l=>(match x with|some L=>s.live t=some L|none=>s.known t=true)/\tkW s l
def Wh {s:S}:∀{l:List (Key × O)} {k:Key} {o:O},Fj s l->AR l k=some o->∃o0,s.obj k=some o0/\O.BA o0 o
 | [],_,_,_,h=>by simp[AR]at h
 |(j,p)::l,k,o,hw,h=>by
  simp only[AR]at h;split at h
  ·rename_i e;cases h;subst e;have:=hw.1;split at this
   ·rename_i o0 ho;exact⟨o0,ho,this⟩
   ·exact this.elim
  ·exact Wh hw.2 h
def yO {f g}:∀{l:List (Key × O)} {k:Key} {o:O},FD f g l=true->AR l k=some o->o.okP f g=true
 | [],_,_,_,h=>by simp[AR]at h
 |(j,p)::l,k,o,hw,h=>by
  simp only[AR]at h;simp only[FD,bg]at hw;split at h
  ·cases h;exact O.q98 hw.1
  ·exact yO hw.2 h
def ZF {L A}:∀{l:List (Key × O)} {k:Key} {o:O},IU L A l->AR l (.g k)=some o->(AR L (.g k)).isSome=true\/A k=some o
 | [],_,_,_,h=>by simp[AR]at h
 |(.l j,p)::l,k,o,hw,h=>by simp[AR]at h;exact ZF (l:=l) hw h
 |(.g j,p)::l,k,o,hw,h=>by
  simp only[AR]at h;split at h
  ·rename_i e;cases e;cases h;exact hw.1
  ·exact ZF hw.2 h
def bJ {f g} {s:S}:∀{l:List (Nat × V)} {i:Nat} {x:V},Hk f g s l->look l i=some x->V.BA (s.get i) x/\x.ok f g=true/\(x= .any\/x.ty.isAgg=(s.get i).ty.isAgg)
 | [],_,_,_,h=>by simp[look]at h
 |(j,y)::l,i,x,hw,h=>by
  simp only[look]at h;split at h
  ·rename_i e;cases h;subst e;exact⟨hw.1,hw.2.1,hw.2.2.1⟩
  ·exact bJ hw.2.2.2 h
def mZ {s:S}:∀{l:List (Nat × Option Nat)} {t:Nat} {x:Option Nat},tkW s l->look l t=some x->match x with|some L=>s.live t=some L|none=>s.known t=true
 | [],_,_,_,h=>by simp[look]at h
 |(j,y)::l,t,x,hw,h=>by
  simp only[look]at h;split at h
  ·rename_i e;cases h;subst e;exact hw.1
  ·exact mZ hw.2 h
section
variable {Γ:G} {w:World} {s:S}
def XA {s':S} (hA:s'.A=s.A) (hg:IU s'.loc s.A s.loc) {k} (h:AR s'.loc (.g k)=none):s'.obj (.g k)=s.obj (.g k):=by
 unfold jj Bt;rw[h];simp only;cases ho:AR s.loc (.g k)with
 |none=>rw[hA]
 |some o=>
  rcases ZF hg ho with h1|h1
  ·rw[h]at h1;cases h1
  ·rw[hA];exact h1
def AO.sub (c:AO Γ w s) {Γ':G} {f g} {s':S} (hs:Sub Γ Γ' f g) (hf:f=Bb s'.loc) (hι:∀n,f n=false->Γ'.ι (.l n)=none) (hA:s'.A=s.A) (zk:AOk s.A)
  (z5I:Fj s s'.loc) (z5U:FD f g s'.loc=true) (hg:IU s'.loc s.A s.loc)
  (hκ:∀b o sz,Γ'.κ b=some (o,sz)->∃o',Γ.κ b=some (o',sz)/\∀T,Lm o' T->Lm o T)
  (tok:∀t L,s'.live t=some L->∃x,Γ'.τ t=some (x,L)/\∀b pos sz,x=some (b,pos,sz)->(∃l,Γ.H b=some l/\l.length=pos)/\Γ'.κ b=some (.tok t,sz))
  (zc:∀t,Γ'.τ t≠none->s'.known t=true):AO Γ' w s':=by
 subst hf;have hfl:∀n,Bb s'.loc n=true↔AR s'.loc (.l n)≠none:=by intro n;unfold Bb;cases AR s'.loc (.l n) <;> simp
 have z7n:∀k o,s'.obj k=some o->Γ'.ι k=Γ.ι k:=by
  intro k o h;cases k with
  |g k=>exact hs.ιg k
  |l n=>
   refine hs.ιl n ?_;rw[hfl];unfold jj Bt at h;intro e;rw[e]at h;cases h
 refine⟨fun b l h=>c.hH b l (by rw[<-hs.H];exact h),fun b o h=>c.hZ b o (by rw[<-hs.Z];exact h),fun b o sz h=>?_,fun k o h=>?_,fun k h=>?_,fun k k' b τ τ' h1 h2=>?_,fun t L h=>?_,zc,fun gg τ cc h=>?_,by rw[hs.oo];exact c.hoo,fun b sz h=>c.hσ b sz (by rw[<-hs.σ];exact h)⟩
 ·obtain⟨o',h',hT⟩:=hκ b o sz h;obtain⟨a1,a2,arr,T,a3,a4,a5⟩:=c.hκ b o' sz h';exact⟨by rw[hs.Z];exact a1,by rw[hs.H];exact a2,arr,T,a3,a4,hT T a5⟩
 ·have hk:=z7n k o h;cases hl:AR s'.loc k with
  |some o1=>
   have:o1=o:=by unfold jj Bt at h;rw[hl]at h;cases h;rfl
   subst this;obtain⟨o0,ho,hi⟩:=Wh z5I hl;exact(c.obj k o0 ho).imp (fun h=>⟨hk.trans h.1,O.q6S hi h.2⟩) fun yw=>(yw.BA hi).sub hs hk (yO z5U hl)
  |none=>
   cases k with
   |l n=>unfold jj Bt at h;rw[hl]at h;cases h
   |g k=>
    have h':s.obj (.g k)=some o:=by rw[<-XA hA hg hl];exact h
    have hAk:s.A k=some o:=by
     have h2:s'.A k=some o:=by unfold jj Bt at h;rw[hl]at h;exact h
     rw[<-hA];exact h2
    exact(c.obj _ o h').imp (fun h=>⟨hk.trans h.1,h.2⟩) fun yw=>yw.sub hs hk (O.q99 (O.Sm (by simp[BQ]) (by simp[BQ]) o (zk k o hAk)))
 ·cases k with
  |l n=>
   cases hh:Bb s'.loc n with
   |false=>exact absurd (hι n hh) h
   |true=>
    have:=(hfl n).1 hh;unfold jj Bt;cases hl:AR s'.loc (.l n)with
    |none=>exact absurd hl this
    |some o=>simp
  |g k=>
   rw[hs.ιg]at h;have:=c.dom _ h;cases hl:AR s'.loc (.g k)with
   |some o=>unfold jj Bt;rw[hl];simp
   |none=>rw[XA hA hg hl];exact this
 ·have back:∀k x,Γ'.ι k=some x->Γ.ι k=some x:=by
   intro k x h;cases k with
   |g k=>rw[<-hs.ιg];exact h
   |l n=>
    cases hh:Bb s'.loc n with
    |false=>rw[hι n hh]at h;cases h
    |true=>rw[<-hs.ιl n hh];exact h
  have ze:∀k x,Γ'.ι k=some x->s.BW k=true->s'.BW k=true:=by
   intro k x hx h;cases hl:AR s'.loc k with
   |some o1=>
    obtain⟨o0,ho,hi⟩:=Wh z5I hl;rw[EV ho]at h;have e:s'.obj k=some o1:=by unfold jj Bt;rw[hl]
    rw[EV e];exact O.wG hi h
   |none=>
    cases k with
    |g k=>unfold S.BW at h ⊢;rw[XA hA hg hl];exact h
    |l n=>
     cases hh:Bb s'.loc n with
     |false=>rw[hι n hh]at hx;cases hx
     |true=>exact absurd hl ((hfl n).1 hh)
  exact(c.inj k k' b τ τ' (back _ _ h1) (back _ _ h2)).imp id (And.imp (Or.imp (ze _ _ h1) (ze _ _ h2)) id)
 ·obtain⟨x,a1,a2⟩:=tok t L h;refine⟨x,a1,fun b pos sz hx=>?_⟩;obtain⟨a3,a4⟩:=a2 b pos sz hx;exact⟨by rw[hs.H];exact a3,a4⟩
 ·rw[hs.H];exact c.hgl gg τ cc (by rw[<-hs.gl];exact h)
end
def G.part (Γ:G) (f g:Nat->Bool):G:=
 {Γ with ι:=fun k=>match k with| .l n=>if f n then Γ.ι (.l n)else none| .g k=>Γ.ι (.g k),τ:=fun t=>if g t then Γ.τ t else none}
def q2D {X} {n:Nat} {s s':S} (hA:s'.A=s.A) (z5I:Fj s s'.loc) (z5U:FD (Bb s'.loc) (CS s'.tk) s'.loc=true) (hg:IU s'.loc s.A s.loc)
  (htk:tkW s s'.tk) (zq:Hk (Bb s'.loc) (CS s'.tk) s s'.env):DL X n s s':=by
 rintro Γ0 a w ⟨Γ,g1,g3,c,hs,hn,hf,zk⟩
 have sub:Sub Γ (Γ.part (Bb s'.loc) (CS s'.tk)) (Bb s'.loc) (CS s'.tk):=
  ⟨rfl,rfl,rfl,rfl,rfl,fun _=>rfl,fun n h=>by simp[G.part,h],fun t h=>by simp[G.part,h],fun _ _ _ _ _=>rfl⟩
 refine⟨Γ.part (Bb s'.loc) (CS s'.tk),⟨g1.H,g1.Z,g1.ZH,g1.g,g1.gl,g1.oo,g1.σ,g1.gn⟩,g3,c.sub sub rfl (fun n h=>by simp[G.part,h]) hA zk z5I z5U hg (fun b o sz h=>⟨o,h,fun _ h=>h⟩) (fun t L h=>?_) (fun t h=>?_),fun i=>?_,hn,hf,by rw[hA];exact zk⟩
 ·unfold uu Du at h;cases hl:look s'.tk t with
  |none=>simp[hl]at h
  |some x=>
   cases x with
   |none=>simp[hl]at h
   |some M=>
    simp[hl]at h;subst h;have z5G:s.live t=some M:=mZ htk hl;obtain⟨x,a1,a2⟩:=c.tok t M z5G;exact⟨x,by simp[G.part,CS,hl,a1],fun b pos sz hx=>a2 b pos sz hx⟩
 ·cases hh:CS s'.tk t with
  |true=>exact hh
  |false=>simp[G.part,hh]at h
 ·cases hl:look s'.env i with
  |none=>simp[S.get,hl,AG]
  |some x=>
   obtain⟨e1,e2,e3⟩:=bJ zq hl;have z5H:s'.get i=x:=by simp[S.get,hl]
   rw[z5H];by_cases hx:x= .any
   ·subst hx;trivial
   ·have hr:=hs i;have e3:=e3.resolve_left hx;refine AG.sub sub e2 ?_;cases hsi:s.get i with
    |any=>
     rw[hsi]at e1;cases x <;> simp[V.BA,Bl]at e1 hx
    |tup us=>
     rw[hsi]at e1 hr;cases x <;> simp[V.BA,Bl]at e1 hx;subst e1;exact hr
    |_=>
     rw[hsi]at e1 hr e3;have hpl:AA Γ none [] _ (a.tmps.getD i undef).cells.toList/\_:=hr;obtain⟨r1,r2⟩:=AA.BA x _ e1 hpl.1;have hxp:=V.TA r1 hx;exact(BZ hxp).2 ⟨r1,by rw[e3];exact hpl.2⟩
end
section
def Mw (X:Cx) (s:S) (r:ResultVar):V:=
 match r with
 | .tmp t=>s.get t
 | .cell a t=>(match s.get a with
   | .ptr k q τ=>(match s.obj k with
     |some (.box y)=>view (y.at q)
     |_=>.any)
   |_=>.any)
def EZ (X:Cx) (s:S):List ResultVar->List V
 | []=>[]
 |r::rs=>Mw X s r::EZ X s rs
def Pw (X:Cx) (s:S) (r:ResultVar):Prop:=
 match r with
 | .tmp _=>True
 | .cell a t=>(match s.get a with
   | .ptr k q τ=>(match s.obj k with
     |some (.box y)=>τ=ty X.P t/\τ.known=true/\y.at q≠.any
     |_=>False)
   |_=>False)
def Py (X:Cx) (s:S):List ResultVar->Prop
 | []=>True
 |r::rs=>Pw X s r/\Py X s rs
def Gk (s:S) (f:Nat->Bool) (x:V) (v:V):Prop:=
 match v with
 | .ts eb e cs=>(match x with
  | .sl eb' e' cs' t=>eb'=eb/\e'=e/\cs'=cs/\s.live t=some cs.length
  | .emp eb' e'=>eb'=eb/\e'=e/\cs=[]
  | .ym=>cs=[]
  |_=>False)
 |v=>V.BA x v/\v.ok f BQ=true/\v.plain=true/\v.ty.isAgg=x.ty.isAgg
def IA (s:S) (f:Nat->Bool):List V->List V->Prop
 | [],[]=>True
 |x::xs,v::vs=>Gk s f x v/\IA s f xs vs
 |_,_=>False
def KJ:List V->V->Option (List V)
 | [_],v=>some [v]
 |_,.tup vs=>some vs
 |_,_=>none
def FW:Nat->List V->List V->List (Nat × Option Nat)
 |m,x::xs,v::vs=>(match v,x with
  | .ts _ _ _,.sl _ _ _ t=>[(m,some t)]
  | .ts _ _ _,_=>[(m,none)]
  |_,_=>[])++FW (m+1) xs vs
 |_,_,_=>[]
def Ir:List (Nat × Option Nat)->List Nat
 | []=>[]
 |(_,some t)::l=>t::Ir l
 |(_,none)::l=>Ir l
def Jb (X:Cx) (fn:Func) (A:Key->Option O) (v:V) (L:List (Key × O)) (s:S):Prop:=
 s.A=A/\Fj s L/\FD (Bb L) BQ L=true/\IU L A s.loc/\Py X s fn.results.toList/\
  (match KJ (EZ X s fn.results.toList) v with
   |some vs=>IA s (Bb L) (EZ X s fn.results.toList) vs/\GP (Ir (FW 2000 (EZ X s fn.results.toList) vs))=true
   |none=>False)
def PN:List (Nat × Option Nat)->Nat->Option Nat
 | [],_=>none
 |(m,some t)::l,u=>if t=u then some m else PN l u
 |(_,none)::l,u=>PN l u
def iA:∀{l:List (Nat × Option Nat)} {m t:Nat},GP (Ir l)=true->look l m=some (some t)->PN l t=some m
 | [],_,_,_,h=>by simp[look]at h
 |(j,y)::l,m,t,hn,h=>by
  simp only[look]at h;split at h
  ·rename_i e;cases h;subst e;simp[PN]
  ·cases y with
   |none=>exact iA (l:=l) hn h
   |some u=>
    simp only[Ir,GP,bg,Bool.not_eq_true']at hn;have ih:=iA hn.2 h;have hne:u≠t:=by
     intro e;subst e;have hm:∀{l:List (Nat × Option Nat)} {m:Nat},look l m=some (some u)->u∈Ir l:=by
      intro l
      induction l with
      |nil=>intro m h;simp[look]at h
      |cons z l ih=>
       obtain⟨j',y'⟩:=z;intro m h;simp only[look]at h;split at h
       ·cases h;simp[Ir]
       ·cases y' with
        |none=>exact ih h
        |some t'=>simp[Ir,ih h]
     have:=hm h;simp[this]at hn
    simp[PN,hne,ih]
def G.fin (Γ:G) (f:Nat->Bool) (z5x:List (Nat × Option Nat)):G:=
 {Γ with
  ι:=fun k=>match k with| .l n=>if f n then Γ.ι (.l n)else none| .g k=>Γ.ι (.g k)
  τ:=fun m=>match look z5x m with
   |some (some t)=>Γ.τ t
   |some none=>some (none,0)
   |none=>none
  κ:=fun b=>match Γ.κ b with
   |some (.tok t,sz)=>match PN z5x t with
    |some m=>some (.tok m,sz)
    |none=>none
   |x=>x}
def YG:∀{n:Nat} {xs vs} {m:Nat},look (FW n xs vs) m=if n<=m then(match xs[m-n]?,vs[m-n]? with
  |some (.sl _ _ _ t),some (.ts _ _ _)=>some (some t)
  |some _,some (.ts _ _ _)=>some none
  |_,_=>none)else none
 |n,[],vs,m=>by simp[FW,look]
 |n,x::xs,[],m=>by simp only[FW,look];split <;> simp
 |n,x::xs,v::vs,m=>by
  simp only[FW,MZ];have ih:=YG (n:=n+1) (xs:=xs) (vs:=vs) (m:=m);by_cases h1:n=m
  ·subst h1;have hr:look (FW (n+1) xs vs) n=none:=by rw[ih,if_neg (by omega)]
   cases v <;> cases x <;> simp[look,hr]
  ·have h0:look (match v,x with
     | .ts _ _ _,.sl _ _ _ t=>[(n,some t)]
     | .ts _ _ _,_=>[(n,none)]
     |_,_=>[]) m=none:=by
    cases v <;> cases x <;> simp[look,h1]
   rw[h0,ih];by_cases h2:n<=m
   ·rw[if_pos h2,if_pos (by omega),show m-n=(m-(n+1))+1 by omega];simp only[gh]
   ·rw[if_neg h2,if_neg (by omega)]
section
variable {X:Cx} {n:Nat} {s:S}
def UM (a:Act):ResultVar->Sem Value
 | .tmp t=>pure (a.tmps.getD t undef)
 | .cell b t=>do loadVar t (<-asAddr (a.tmps.getD b undef))
def z20 (fn:Func) (a:Act):results fn a.tmps=(do
  let vs <-fn.results.mapM (UM a)
  pure (if h:vs.size=1 then vs[0]else .tuple vs)):=by
 unfold results;congr 2
def z3A (hP:Aq X.P=true) {Γ w} {a:Act} (c:AO Γ w s) (hs:Fv Γ s a.tmps) {r} (hch:Pw X s r):
  ∃v,(UM a r).run X.P w= .ok v w/\AG Γ (Mw X s r) v:=by
 cases r with
 |tmp t=>exact⟨_,rfl,hs t⟩
 |cell b t=>
  have hb:=hs b;simp only[Pw]at hch;split at hch
  ·rename_i k q τ hk;rw[hk]at hb;split at hch
   ·rename_i y hy;obtain⟨u,h1,h2⟩:=eF hP c hb hy hch.2.2 hch.1 hch.2.1;obtain⟨b',τ0,o,_,_,hv⟩:=Gj hb;refine⟨u,?_,?_⟩
    ·rw[hv]at h1;simp only[UM,hv];simpa[kz,jx,asAddr]using h1
    ·simp only[Mw,hk,hy];exact h2
   ·exact hch.elim
  ·exact hch.elim
def q1l (hP:Aq X.P=true) {Γ w} {a:Act} (c:AO Γ w s) (hs:Fv Γ s a.tmps):∀(rs:List ResultVar),Py X s rs->
  ∃vs:List Value,(rs.mapM (UM a)).run X.P w= .ok vs w/\vs.length=rs.length/\
   ∀(i:Nat) x v,(EZ X s rs)[i]? =some x->vs[i]? =some v->AG Γ x v
 | [],_=>⟨[],by simp,rfl,by simp[EZ]⟩
 |r::rs,hpl=>by
  simp only[Py]at hpl;obtain⟨v,h1,h2⟩:=z3A hP c hs hpl.1;obtain⟨vs,h3,h4,h5⟩:=q1l hP c hs rs hpl.2;refine⟨v::vs,?_,by simp[h4],?_⟩
  ·rw[List.mapM_cons];simp only[da];rw[h1];simp only[cu,da];rw[h3];simp
  ·intro i x u hx hu;cases i with
   |zero=>simp[EZ]at hx hu;subst hx;subst hu;exact h2
   |succ i=>exact h5 i x u (by simpa[EZ]using hx) (by simpa using hu)
def q0X:∀(rs:List ResultVar),(EZ X s rs).length=rs.length
 | []=>rfl
 |r::rs=>by simp[EZ,q0X rs]
def Px {f}:∀{xs vs:List V} {i:Nat} {v:V},IA s f xs vs->vs[i]? =some v->∃x,xs[i]? =some x/\Gk s f x v
 | [],[],_,_,_,h=>by simp at h
 |x::xs,v::vs,0,v',hr,h=>by simp at h;subst h;exact⟨x,rfl,hr.1⟩
 |x::xs,v::vs,i+1,v',hr,h=>by
  obtain⟨y,h1,h2⟩:=Px hr.2 (show vs[i]? =some v' by simpa using h);exact⟨y,by simpa using h1,h2⟩
 | [],_::_,_,_,hr,_=>by simp[IA]at hr
 |_::_,[],_,_,hr,_=>by simp[IA]at hr
def q0V {f}:∀{xs vs:List V},IA s f xs vs->xs.length=vs.length
 | [],[],_=>rfl
 |x::xs,v::vs,h=>by simp[q0V h.2]
 | [],_::_,hr=>by simp[IA]at hr
 |_::_,[],hr=>by simp[IA]at hr
def z2Y {Γ:G} {w} (c:AO Γ w s) {f z5x} {m:Nat} {x v:V} {u} (z6d:Sub Γ (Γ.fin f z5x) f BQ) (hr:AG Γ x u) (hi:Gk s f x v)
  (hp:∀eb e cs,v= .ts eb e cs->match x with| .sl _ _ _ t=>look z5x m=some (some t)|_=>look z5x m=some none):AG (Γ.fin f z5x) (v.slot m) u:=by
 have other:v.LH=true->V.BA x v/\v.ok f BQ=true/\v.plain=true/\v.ty.isAgg=x.ty.isAgg->AG (Γ.fin f z5x) (v.slot m) u:=by
  intro hn ⟨h1,h2,h3,h4⟩;have hvs:v.slot m=v:=by cases v <;> simp[V.slot];simp[V.LH]at hn
  rw[hvs];refine AG.sub z6d h2 ?_;cases x with
  |any=>
   cases v <;> simp[V.BA,Bl,wo]at h1 h3
  |tup us=>
   cases v <;> simp[V.BA,Bl,wo]at h1 h3
  |_=>
   obtain⟨q1,q2⟩:=hr;obtain⟨r1,_⟩:=AA.BA v _ h1 q1;exact(BZ h3).2 ⟨r1,by rw[h4];exact q2⟩
 cases v
 case ts eb e cs=>
  have hp:=hp eb e cs rfl;simp only[Gk]at hi;cases x <;> simp only at hi hp
  case sl eb' e' cs' t=>
   obtain⟨rfl,rfl,rfl,hl⟩:=hi;obtain⟨h1,_⟩:=(Bf rfl rfl).1 hr;simp only[AA]at h1;obtain⟨a,n,cap,hv,hrc,y,L,h2,h3,h4⟩:=h1;simp at hv;subst hv;simp only[V.slot];refine(Bf rfl rfl).2 ⟨?_,rfl⟩;simp only[AA];exact⟨a,n,cap,rfl,hrc,y,L,by simp[G.fin,hp,h2],h3,h4⟩
  case emp eb' e'=>
   obtain⟨rfl,rfl,rfl⟩:=hi;obtain⟨h1,_⟩:=(Bf rfl rfl).1 hr;simp only[AA]at h1;obtain⟨a,hv⟩:=h1;simp at hv;subst hv;simp only[V.slot];refine(Bf rfl rfl).2 ⟨?_,rfl⟩;simp only[AA];exact⟨a,0,0,rfl,Dh rfl (ca _) (dx _) (by rw[gz];exact dx _) (.inl rfl),none,0,by simp[G.fin,hp],ca _,fun _=>rfl⟩
  case ym=>
   subst hi;have hp2:look z5x m=some none:=by assumption
   rw[FV hr];simp only[V.slot];refine(Bf rfl rfl).2 ⟨?_,rfl⟩;simp only[AA];exact⟨none,0,0,rfl,Dh rfl (ca _) (dx _) (by rw[gz];exact dx _) (.inl rfl),none,0,by simp[G.fin,hp2],ca _,fun _=>rfl⟩
 all_goals exact other rfl (by simpa only[Gk]using hi)
def q3S {Γ}:∀(xs:List V) (vs:List Value),xs.length=vs.length->(∀(i:Nat) x,xs[i]? =some x->x.plain=true)->(∀(i:Nat) x v,xs[i]? =some x->vs[i]? =some v->AG Γ x v)->BC Γ xs vs:=
 fun xs vs hl hp hr=>UF hl fun i x v hx hv=>⟨hp i x hx,hr i x v hx hv⟩
def yZ:∀(xs:List V) (i j:Nat),look (Ox i xs) j=if i<=j then xs[j-i]? else none
 | [],i,j=>by simp[Ox,look]
 |x::xs,i,j=>by
  simp only[Ox,look,yZ xs (i+1) j];by_cases h1:i=j
  ·subst h1;simp
  ·rw[if_neg h1];by_cases h2:i<=j
   ·rw[if_pos h2,if_pos (by omega),show j-i=(j-(i+1))+1 by omega,gh]
   ·rw[if_neg h2,if_neg (by omega)]
def aI (hP:Aq X.P=true) {f} {fn:Func} {c} {xs:List V} {A v L}
  (hf:X.P.funcs[f]? =some fn) (hb:fn.body=some c) (hn:fn.ntmps=n) (hlen:xs.length<=n)
  (h:∀A',(∀k o,A k=some o->A' k=some o)->DC X n c (kf xs A') fun e s'=>(e= .normal\/e= .ret)/\Jb X fn A' v L s'):Bg X f xs A v L:=by
 intro A' Γ w args hAA hgl ⟨c0,hA0⟩ yz za;subst hn;refine calls_of_wp hf hb ?_;refine wp_mono (h A' hAA Γ {tmps:=args++Array.replicate (fn.ntmps-args.size) undef,defers:=[]} w ⟨Γ,.refl Γ,hgl,c0,?_,by simp;omega,rfl,hA0⟩) ?_
 ·intro i;have z5H:(kf xs A').get i=((CW 1000 xs)[i]?).getD .any:=by simp only[S.get,kf,yZ,dx,if_true,Nat.sub_zero]
  rw[z5H];cases hx:(CW 1000 xs)[i]? with
  |none=>simp[AG]
  |some x=>
   have hi:i<args.size:=by rw[<-yz,<-mM 1000 xs];exact(bz.1 hx).1
   have hv:args[i]? =some args[i]:=eh hi;have:=za i x _ hx hv;rw[il,Array.getElem?_append_left hi,hv];simpa using this
 ·rintro e a w' ⟨s',⟨he,hA,hL,z7O,yx,hch,z51⟩,Γ',g1,g3,c',hs,hn,hfr,zk⟩;obtain⟨us,hvs,hvl,hvr⟩:=q1l hP c' hs _ hch;split at z51
  ·rename_i vs zp;obtain⟨hri,hnd⟩:=z51;generalize hxs:EZ X s' fn.results.toList=rs at*;have hrl:rs.length=fn.results.toList.length:=by rw[<-hxs];exact q0X _
   have z6d:Sub Γ' (Γ'.fin (Bb L) (FW 2000 rs vs)) (Bb L) BQ:=
    ⟨rfl,rfl,rfl,rfl,rfl,fun _=>rfl,fun n h=>by simp[G.fin,h],fun t h=>by simp[BQ]at h,fun b k p sz h=>by simp[G.fin,h]⟩
   have hvlen:=q0V hri;have hul:us.length=rs.length:=by rw[hvl,hrl]
   -- what the places of the result's tokens are
   have htk:∀m,look (v.tkR 2000) m=if 2000<=m then(match vs[m-2000]? with|some (.ts _ _ cs)=>some (some cs.length)|_=>none)else none:=by
    intro m;cases rs with
    |nil=>cases v <;> simp[KJ]at zp;subst zp;simp only[V.tkR,Uh] <;> rfl
    |cons x1 rs1=>cases rs1 with
     |nil=>
      simp only[KJ]at zp;cases zp;obtain⟨x',_,hi'⟩:=Px hri (i:=0) (v:=v) rfl;have hnt:v.tkR 2000=v.DK 2000:=by
       cases v <;> simp[V.tkR];simp[Gk,wo]at hi'
      rw[hnt,q13];by_cases hm:2000=m
      ·subst hm;simp;cases v <;> rfl
      ·rw[if_neg hm];by_cases hm2:2000<=m
       ·rw[if_pos hm2,show m-2000=(m-2001)+1 by omega];simp
       ·rw[if_neg hm2]
     |cons x2 rs2=>cases v <;> simp[KJ]at zp;subst zp;simp only[V.tkR,Uh] <;> rfl
   have z65:AO (Γ'.fin (Bb L) (FW 2000 rs vs)) w' (S.fin v L A'):=by
    refine c'.sub (s':=S.fin v L A') z6d rfl (fun n h=>by simp[G.fin,show Bb L n=false from h]) hA.symm zk hL z7O (hA ▸ yx) (fun b o sz h=>?_) (fun m M h=>?_) (fun m h=>?_)
    ·simp only[G.fin]at h;cases hk:Γ'.κ b with
     |none=>simp[hk]at h
     |some y=>
      obtain⟨o',sz'⟩:=y;cases o' with
      |home k p=>simp[hk]at h;exact⟨_,by rw[h.2],fun T hT=>by rw[<-h.1];exact hT⟩
      |tok t=>
       simp only[hk]at h;split at h
       ·simp at h;exact⟨_,by rw[h.2],fun T _=>by rw[<-h.1];trivial⟩
       ·cases h
    · -- a live token of the result
     have h:look (v.tkR 2000) m=some (some M):=by
      unfold uu Du at h;change (match look (v.tkR 2000) m with|some (some L)=>some L|_=>none)=some M at h;cases hl:look (v.tkR 2000) m with
      |none=>simp[hl]at h
      |some y=>cases y with
       |none=>simp[hl]at h
       |some M'=>simp[hl]at h;rw[h]
     rw[htk]at h;by_cases hm:2000<=m
     ·rw[if_pos hm]at h;cases hv:vs[m-2000]? with
      |none=>simp[hv]at h
      |some v1=>
       obtain⟨x1,hx1,hi1⟩:=Px hri hv;cases v1 <;> simp[hv]at h;rename_i eb e cs;subst h;have zw:=YG (n:=2000) (xs:=rs) (vs:=vs) (m:=m);rw[if_pos hm,hx1,hv]at zw;simp only[Gk]at hi1;cases x1 <;> simp only at hi1 zw
       ·obtain⟨rfl,rfl,rfl,z5G⟩:=hi1;rename_i cs' t;obtain⟨y,a1,a2⟩:=c'.tok t _ z5G;refine⟨y,by simp[G.fin,zw,a1],fun b pos sz hy=>?_⟩;obtain⟨a3,a4⟩:=a2 b pos sz hy;exact⟨a3,by simp[G.fin,a4,iA hnd zw]⟩
       ·obtain⟨rfl,rfl,rfl⟩:=hi1;exact⟨none,by simp[G.fin,zw],fun b pos sz h=>by cases h⟩
       ·subst hi1;exact⟨none,by simp[G.fin,zw],fun b pos sz h=>by cases h⟩
     ·rw[if_neg hm]at h;cases h
    · -- tokens known
     have:look (FW 2000 rs vs) m≠none:=by intro e;simp[G.fin,e]at h
     rw[YG]at this;unfold yg;change (look (v.tkR 2000) m).isSome=true;rw[htk];by_cases hm:2000<=m
     ·rw[if_pos hm]at this ⊢;cases hv:vs[m-2000]? with
      |none=>rw[hv]at this;cases hx1:rs[m-2000]? with
       |none=>simp[hx1]at this
       |some x1=>simp[hx1]at this
      |some v1=>
       rw[hv]at this;cases v1
       case ts=>rfl
       all_goals (exfalso;cases hx1:rs[m-2000]? with
        |none=>simp[hx1]at this
        |some x1=>simp[hx1]at this)
     ·rw[if_neg hm]at this;exact absurd rfl this
   have z6P:(results fn a.tmps).run X.P w'= .ok (if h:us.length=1 then us[0]else .tuple us.toArray) w':=by
    have z7P:(fn.results.mapM (UM a)).run X.P w'= .ok us.toArray w':=by
     rw[Array.mapM_eq_mapM_toList];simp only[Sem.run_map]at hvs ⊢;rw[hvs];rfl
    rw[z20];simp only[da];rw[z7P];simp only[cu,fc,List.size_toArray];split <;> simp
   have z5F:∀(i:Nat) (v1:V) (u:Value),vs[i]? =some v1->us[i]? =some u->AG (Γ'.fin (Bb L) (FW 2000 rs vs)) (v1.slot (2000+i)) u:=by
    intro i v1 u hv1 hu;obtain⟨x1,hx1,hi1⟩:=Px hri hv1;refine z2Y c' z6d (hvr i x1 u hx1 hu) hi1 fun eb e cs hts=>?_;subst hts;have zw:=YG (n:=2000) (xs:=rs) (vs:=vs) (m:=2000+i);rw[if_pos (by omega),show 2000+i-2000=i by omega,hx1,hv1]at zw;simp only[Gk]at hi1;cases x1 <;> simp only at hi1 zw ⊢ <;> exact zw
   have hpl:∀(i:Nat) (x:V),(CW 2000 vs)[i]? =some x->x.plain=true:=by
    intro i x hx;rw[Ub]at hx;cases hv1:vs[i]? with
    |none=>simp[hv1]at hx
    |some v1=>
     simp[hv1]at hx;subst hx;obtain⟨x1,_,hi1⟩:=Px hri hv1;cases v1 <;> simp only[Gk]at hi1 <;> first|rfl|(exact hi1.2.2.1)
   have hrv:AG (Γ'.fin (Bb L) (FW 2000 rs vs)) (v.CV 2000) (if h:us.length=1 then us[0]else .tuple us.toArray):=by
    by_cases h1:us.length=1
    ·rw[dif_pos h1];cases rs with
     |nil=>rw[hul]at h1;simp at h1
     |cons x1 rs1=>cases rs1 with
      |nil=>
       simp only[KJ]at zp;cases zp;have:=z5F 0 v us[0] rfl (bm (by omega));have hsr:v.CV 2000=v.slot 2000:=by
        cases v <;> simp[V.CV];obtain⟨x',_,hi'⟩:=Px hri (i:=0) rfl;simp[Gk,wo]at hi'
       rw[hsr];exact this
      |cons x2 rs2=>rw[hul]at h1;simp at h1
    ·rw[dif_neg h1];have z6a:BC (Γ'.fin (Bb L) (FW 2000 rs vs)) (CW 2000 vs) us:=q3S _ _ (by rw[mM];omega) hpl fun i x u hx hu=>by
      rw[Ub]at hx;cases hv1:vs[i]? with
      |none=>simp[hv1]at hx
      |some v1=>simp[hv1]at hx;subst hx;exact z5F i v1 u hv1 hu
     have hvt:v= .tup vs:=by
      cases rs with
      |nil=>cases v <;> simp[KJ]at zp;rw[zp]
      |cons x1 rs1=>cases rs1 with
       |nil=>exact absurd hul h1
       |cons x2 rs2=>cases v <;> simp[KJ]at zp;rw[zp]
     subst hvt;exact⟨_,rfl,by simpa using z6a⟩
   have z66:GLe Γ' (Γ'.fin (Bb L) (FW 2000 rs vs)):=⟨Hp.le_refl _,rfl,fun _ _=>rfl,fun _ _ h=>h,rfl,rfl,fun _ _ h=>h,fun _ h=>h⟩;rcases he with rfl|rfl
   ·exact⟨hfr,_,z6P,_,_,rfl,g1.trans z66,z65,hrv⟩
   ·exact⟨hfr,_,z6P,_,_,rfl,g1.trans z66,z65,hrv⟩
  ·exact z51.elim
end
end
end Go.E
