/-
Runs of Go code over abstract data are sound, part 4.
Conditions: none.
-/
import Derived.Test.YtgdonkaoajbclaaGreatDoorEc
set_option linter.all false
noncomputable section
set_option maxRecDepth 100000
set_option maxHeartbeats 4000000
open Array renaming eq_empty_of_size_eq_zero->gz,getD_eq_getD_getElem?->im,getElem?_eq_getElem->ee,getElem?_map->uv,mem_append_right->jg,mem_toList_iff->kv
open Bool renaming and_eq_true->az,or_eq_true->tc
open Go.Act renaming put->sg
open Go.Call renaming operands->dz
open Go.Deferred renaming ofValue->ui
open Go.E.S renaming known->yg,live->uq,obj->jj,start->kc
open Go.E.Ty renaming isAgg->jb,size->iy
open Go.E.V renaming oks->rv,plain->wj,ty->pz
open Go.Instr renaming loadAt->kx,sureAddr->jv
open Go.IntKind renaming u8->bp
open Go.Op renaming equal->kz,operands->ca
open Go.Region renaming wanted->jk
open Go.Result renaming andThen_ok->cr
open Go.Sem renaming run_bind->cu,run_pure->fb
open Go.Value renaming cells->fc,int->wo
open Int renaming toNat_of_nonneg->gr
open List renaming getElem?_cons_succ->gf,getElem?_eq_getElem->bg,getElem?_eq_some_iff->bu,getElem?_map->dg,getElem?_take->fu,mem_append->dw,mem_cons->fz,mem_map->ny,mem_of_getElem?->fg,mem_singleton->fq,mem_toArray->qt,replicate->ay
open Nat renaming add_mul->dc,eq_zero_or_pos->og,le_refl->bx,mul_le_mul_right->bz,zero_le->dv,zero_mul->gy
namespace Go.E
open Go
section
mutual
def Ty.DY:Ty->Bool
 | .int _| .bool| .str=>true| .arr _ e=>e.DY| .struct _ _ fs=>Ty.Wz fs|_=>false
def Ty.Wz:List Ty->Bool
 | []=>true|t::ts=>t.DY&&Ty.Wz ts
end
mutual
def AL.DY {H H'}:∀{τ:Ty} {vs:List Value} {c:C},τ.DY=true->AL H τ vs c->AL H' τ vs c
 | .int _,_,_,_,r=>by simpa[AL]using r
 | .bool,_,_,_,r=>by simpa[AL]using r
 | .str,_,_,_,r=>by simpa[AL]using r
 | .arr n e,vs,c,h,r=>by simp only[AL]at r ⊢;obtain⟨cs,rfl,h1,h2,h4,h3⟩:=r;exact⟨cs,rfl,h1,h2,h4,fun i c hi=>AL.DY (by simpa[Ty.DY]using h) (h3 i c hi)⟩
 | .struct sz os fs,vs,c,h,r=>by simp only[AL]at r ⊢;obtain⟨cs,rfl,h1,h4,h2⟩:=r;exact⟨cs,rfl,h1,h4,BR.DY (by simpa[Ty.DY]using h) h2⟩
 | .slice _ _,_,_,h,_| .ptr,_,_,h,_| .map,_,_,h,_| .func,_,_,h,_| .iface,_,_,h,_| .opq _,_,_,h,_=>by simp[Ty.DY]at h
def BR.DY {H H'}:∀{fs:List Ty} {os:List Nat} {vs:List Value} {cs:List C},Ty.Wz fs=true->BR H fs os vs cs->BR H' fs os vs cs
 | [],_,_,_,_,r=>by simpa[BR]using r
 |f::fs,o::os,vs,cs,h,r=>by simp only[Ty.Wz,az]at h;simp only[BR]at r ⊢;obtain⟨c,cs',rfl,h1,h2,h3⟩:=r;exact⟨c,cs',rfl,h1,AL.DY h.1 h2,BR.DY h.2 h3⟩
 |_::_,[],_,_,_,r=>by simp[BR]at r
end
def V.PB:List V->Bool
 | []=>true|x::xs=>(match x with| .d τ _=>τ.DY|_=>false)&&V.PB xs
def V.DY:V->Bool
 | .d τ _=>τ.DY| .tup vs=>V.PB vs|_=>false
def q04 {Γ Γ'}:∀{xs:List V} {vs:List Value},V.PB xs=true->BF Γ xs vs->BF Γ' xs vs
 | [],vs,_,h=>by simpa[BF]using h
 |x::xs,vs,hx,h=>by simp only[V.PB,az]at hx;simp only[BF]at h ⊢;obtain⟨v,vs',rfl,h1,h2,h3⟩:=h;refine⟨v,vs',rfl,?_,h2,q04 hx.2 h3⟩;cases x <;> simp at hx;simp only[AA]at h1 ⊢;exact h1.DY hx.1
def z3i {Γ Γ'} {x:V} {v} (hx:x.DY=true) (h:AG Γ x v):AG Γ' x v:=by cases x <;> simp[V.DY]at hx;{rw[Cz]at h ⊢;exact⟨h.1.DY hx,h.2⟩};{simp only[AG]at h ⊢;obtain⟨vs,rfl,h⟩:=h;exact⟨vs,rfl,q04 hx h⟩}
def z4m {x:V} (hx:x.DY=true) (n:Nat):x.CY n=x:=by
 cases x <;> simp[V.DY]at hx;{rfl}
 ·rename_i vs;simp only[V.CY];congr 1;have:∀(l:List V) (n:Nat),V.PB l=true->CZ n l=l:=by
   intro l
   induction l with
   |nil=>intros;rfl|cons x xs ih=>
    intro n h;simp only[V.PB,az]at h;simp only[CZ];rw[ih _ h.2];cases x <;> simp at h <;> rfl
  exact this vs n hx
def G.HH (w:World) (gl:Nat->Option (Ty × C)):G where
 H b:=match w.heap[b]? with|some (.cells arr _ _)=>some arr.toList|_=>none
 Z b:=w.heap[b]?
 ι _:=none
 τ _:=none
 κ _:=none
 gl:=gl
 oo:=oof w
 σ _:=none
def Fe:Nat->S->V->V
 |0,_,_=>.any|f+1,s,x=>match x with| .sr k q lo n _ eb e=>(match s.obj k with|some (.box y)=>(match Fe f s (y.at q)with| .d _ c=>.d (.slice eb e) (.slice ((c.elems.drop lo).take n))|_=>.any)|_=>.any)| .agg τ vs=>(match Du (vs.map (Fe f s))with|some cs=>.d τ (.agg cs)|none=>.any)|x=>bif x.plain then(match Bp x with|some c=>.d x.ty c|none=>.any)else .any
def Fw (s:S) (x:V):V:=Fe 5 s x
def q1V (s:S) (f:Nat) (x:V):Fe f s x= .any\/∃τ c,Fe f s x= .d τ c:=by
 cases f with
 |zero=>exact .inl rfl|succ f=>
  have other:∀x:V,(bif x.plain then(match Bp x with
   |some c=>V.d x.ty c|none=>.any)else .any)= .any\/∃τ c,(bif x.plain then(match Bp x with
   |some c=>V.d x.ty c|none=>.any)else .any)= .d τ c:=by
   intro x;cases x.plain with
   |false=>exact .inl rfl|true=>
    simp only[cond_true];split;{exact .inr ⟨_,_,rfl⟩};{exact .inl rfl}
  cases x <;> first
   |exact other _
   |(simp only[Fe]
     repeat' split
     all_goals first|exact .inl rfl|exact .inr ⟨_,_,rfl⟩)
def GG:List V->Bool
 | []=>true|x::xs=>(match x with| .d _ _=>true|_=>false)&&GG xs
section
variable {P:Program} {Γ:G} {w:World} {s:S}
def cP (c:AQ Γ w s) (gl:Nat->Option (Ty × C)):Γ.H.le (G.HH w gl).H:=by intro b l h;obtain⟨arr,T,fr,r,h1,h2⟩:=c.hH b l h;exact⟨r,by simp only[G.HH,h1,h2]⟩
def Aa.snap {Γ':G} {hm g} (hg:∀(x:V) (p:List Nat) (vs:List Value) τ cc,AA Γ hm p x vs->g x= .d τ cc->x.ty=τ/\AL Γ'.H τ vs cc) (hd:∀x,g x= .any\/∃τ c,g x= .d τ c):
  ∀(xs:List V) (p:List Nat) (i:Nat) (τ:Ty) (vs:List Value) (cs:List C),Aa Γ hm p i τ xs vs->Du (xs.map g)=some cs->Aa Γ' hm p i τ (xs.map g) vs
 | [],_,_,_,_,_,_,_=>by simp only[List.map_nil,Aa]
 |x::xs,p,i,τ,vs,cs,h,hc=>by
  simp only[Aa,List.map_cons,Du]at h hc ⊢;obtain⟨⟨o,f,h1,h2,h3,h4⟩,h5⟩:=h;rcases hd x with e|⟨τ',c,e⟩;{rw[e]at hc;simp[Bp]at hc}
  ·cases e2:Du (xs.map g)with
   |none=>rw[e,e2]at hc;simp[Bp]at hc|some cs'=>
    obtain⟨rfl,q2⟩:=hg x _ _ _ _ h4 e;refine⟨⟨o,f,h1,by rw[e];exact h2,h3,?_⟩,Aa.snap hg hd xs p (i+1) τ vs cs' h5 e2⟩;rw[e,<-h2]at*;simpa only[AA]using q2
def mX {s0:S} (c:AQ Γ w s) (hs:∀k o,Γ.ι k≠none->s0.obj k=some o->s.obj k=some o) (gl:Nat->Option (Ty × C)) {hm}:∀(f:Nat) (x:V) (p:List Nat) (vs:List Value) (τ:Ty) (cc:C),AA Γ hm p x vs->Fe f s0 x= .d τ cc->x.ty=τ/\AL (G.HH w gl).H τ vs cc
 |0,_,_,_,_,_,_,h=>by cases h
 |f+1,x,p,vs,τ,cc,hr,h=>by
  have hle:=cP c gl
  have other:(bif x.plain then(match Bp x with
   |some c=>V.d x.ty c|none=>.any)else .any)= .d τ cc->x.ty=τ/\AL (G.HH w gl).H τ vs cc:=by
   intro h;cases hp:x.plain with
   |false=>rw[hp]at h;cases h
   |true=>
    rw[hp]at h;simp only[cond_true]at h;split at h;{rename_i c0 hc0;cases h;exact⟨rfl,(Ki x hr hc0).mono hle⟩};{cases h}
  cases x <;> (try exact other h)
  case agg τ0 xs=>
   simp only[Fe]at h;split at h
   ·rename_i cs hcs;cases h;refine⟨rfl,?_⟩;simp only[AA]at hr;obtain⟨a1,a2,a3,a4,a5⟩:=hr;have:AA (G.HH w gl) hm p (.agg τ (xs.map (Fe f s0))) vs:=by simp only[AA];exact⟨a1,a2,by rw[List.length_map];exact a3,a4,a5.snap (fun x p vs τ cc=>mX c hs gl f x p vs τ cc) (q1V s0 f) xs p 0 τ vs cs hcs⟩
    exact Ki _ this (by simp only[Bp,hcs,Option.map_some])
   ·cases h
  case sr k q lo n cp eb e=>
   simp only[Fe]at h;split at h
   ·rename_i y ho0;split at h
    ·rename_i τ1 c1 hy;cases h;refine⟨rfl,?_⟩;simp only[AA]at hr;rcases hr with⟨_,rfl,a,rfl⟩|⟨b,τ0,o0,m,cap,a1,a2,a3,⟨a,rfl,a4⟩,a5,a6,a7,_⟩;{exact Dm (by simp) (bx _) (dv _) (by rw[gy];exact dv _) (.inl rfl)};obtain⟨b',cells,T,g1,g2,g3,g4,g5,g6,g7,_⟩:=c.own a1 (hs k _ (by rw[a1];simp) ho0);rw[a1]at g1;cases g1;obtain⟨q1,q2,q3⟩:=g6.at_ a2 (by intro e1;rw[e1]at hy;cases f <;> cases hy) g7;obtain⟨rfl,q3⟩:=mX c hs gl f _ _ _ _ _ q3 hy;rw[q1]at q3;simp only[AL]at q3;obtain⟨cs,rfl,r1,r2,r3,r4⟩:=q3;simp only[C.elems];rw[Dt _ _ _ (by simpa using g5)]at q2;have hlen:((cs.drop lo).take n).length=n:=by simp;omega
     have hmul:(lo+n)*e.size<=m*e.size:=bz _ a3;rw[dc]at hmul;simp only[iy]at q2 r2 r4;have yx:o0+lo*e.size+n*e.size<=cells.toList.length:=by simp;omega
     refine Dm hlen a5 a6 a7 ?_;rcases og n with h0|h0;{exact .inl h0};{have ha:a=some ⟨b,o0+lo*e.size,none⟩:=a4.resolve_left (by omega);refine .inr ⟨b,o0+lo*e.size,cells.toList,ha,by simp only[G.HH,g4],yx,fun i c' hi=>?_⟩;rw[fu]at hi;split at hi;{rename_i hin;rw[List.getElem?_drop]at hi;have:=r4 _ _ hi;have z6S:(lo+i+1)*e.size<=m*e.size:=bz _ (by omega);rw[dc,dc]at z6S;rw[dc]at this;rw[EG _ _ _ _ _ (by omega),EG _ _ _ _ _ (by omega)]at this;rw[show 0+(o0+(lo*e.size+i*e.size))=o0+lo*e.size+i*e.size by omega]at this;exact this};{cases hi}}
    ·cases h
   ·cases h
def z4q {s0:S} (c:AQ Γ w s) (hs:∀k o,Γ.ι k≠none->s0.obj k=some o->s.obj k=some o) (gl:Nat->Option (Ty × C)) {x v τ cc} (hr:AG Γ x v) (h:Fw s0 x= .d τ cc):AG (G.HH w gl) (.d τ cc) v:=by
 have hp:x.plain=true:=by cases x <;> first|rfl|cases h
 obtain⟨h1,h2⟩:=(Bd hp).1 hr;obtain⟨rfl,h3⟩:=mX c hs gl _ _ _ _ _ _ h1 h;exact Cz.2 ⟨h3,h2⟩
def q6M (hgl:∃gl0,Γ.gl=gl0) (c:AQ Γ w s) {xs} (hx:GG xs=true):AQ (G.HH w Γ.gl) w (kc xs fun _=>none):=by
 have htk:∀(l:List V) (n:Nat),GG l=true->GA n l=[]:=by
  intro l
  induction l with
  |nil=>intros;rfl|cons x xs ih=>
   intro n h;simp only[GG,az]at h;simp only[GA];rw[ih _ h.2];cases x <;> simp at h <;> rfl
 refine⟨fun b l h=>?_,fun b o h=>h,fun b o sz h=>(by cases h),fun k o h=>?_,fun k h=>absurd rfl h,fun k k' b τ τ' h _=>(by cases h),fun t L h=>?_,fun t h=>absurd rfl h,fun g τ cc h=>?_,rfl,fun b sz h=>(by cases h)⟩;{simp only[G.HH]at h;split at h;{rename_i arr T fr hw;cases h;exact⟨arr,T,fr,[],hw,by simp⟩};{cases h}};{exfalso;cases k <;> simp[kc,jj,Bx,AR]at h};{exfalso;simp[kc,uq,EA,htk xs 1000 hx,look]at h};{obtain⟨l,h1,h2,h3⟩:=c.hgl g τ cc h;obtain⟨r,hr⟩:=cP c Γ.gl g l h1;refine⟨l++r,hr,by simp;omega,?_⟩;rw[Nq _ _ _ _ (by omega)];exact h3.mono (cP c Γ.gl)}
def q3z:AOk fun _=>none:=fun _ _ h=>by cases h
def q6N {w' gl Γ' s'} (gle:GLe (G.HH w gl) Γ') (c':AQ Γ' w' s'):Ext w w':=by
 have old:∀b,b<w.heap.size->w'.heap[b]? =w.heap[b]?:=fun b hb=>by have h1:w.heap[b]? =some w.heap[b]:=ee hb;rw[h1];exact c'.hZ b _ (by rw[gle.Z];exact h1)
 refine⟨?_,old,?_⟩;{rcases og w.heap.size with h|h;{omega};{have h1:=old (w.heap.size-1) (by omega);rw[ee (show w.heap.size-1<w.heap.size by omega)]at h1;have:=IA h1;omega}};{rw[c'.hoo,gle.oo];rfl}
def q5H {X:Cx} (hgl:Γ.gl=X.gl) (c:AQ Γ w s) {o:Oper} {a fo f as ts xs v}
  (ho:o.op= .call {callee:=.value fo,args:=as,argTypes:=ts}) (z6W:Hn X.P f=true) (hf:AG Γ (.fn f []) (a.eval fo))
  (hlen:xs.length=as.toList.length) (hr:∀(i:Nat) x y,xs[i]? =some x->as.toList[i]? =some y->AG (G.HH w Γ.gl) x (a.eval y)) (hx:GG xs=true) (D:Bo X f xs (fun _=>none) v []) (hv:v.DY=true):
  Au X.P o a w (BC Γ w s v):=by
 obtain⟨cv,hfv,hcl,_⟩:=YH hf;have hcv:cv=#[]:=by apply gz;simpa using hcl.symm
 subst hcv;have run:(execOp a.eval o).run X.P w= .ok (.enter f (as.map a.eval)) w:=by unfold execOp;simp[ho,resolve,hfv,ui,invoke,q1t z6W]
 have hsl:∀(l:List V) (n:Nat),GG l=true->CZ n l=l:=by
  intro l
  induction l with
  |nil=>intros;rfl|cons x xs ih=>
   intro n h;simp only[GG,az]at h;simp only[CZ];rw[ih _ h.2];cases x <;> simp at h <;> rfl
 refine Au.enter run ?_;refine(D (fun _=>none) (G.HH w Γ.gl) w (as.map a.eval) (fun _ _ h=>h) hgl ⟨q6M ⟨_,rfl⟩ c hx,q3z⟩ (by simpa using hlen) fun i x u hx' hu=>?_).mono ?_
 ·rw[hsl xs 1000 hx]at hx';rw[uv]at hu;cases hy:as[i]? with
  |none=>rw[hy]at hu;cases hu
  |some y=>
   rw[hy]at hu;cases hu;exact hr i x y hx' (by simpa using hy)
 ·rintro e w' ⟨u,Γ',rfl,gle,c',hv'⟩;rw[z4m hv]at hv';exact⟨u,rfl,BC.ext c (q6N gle c') (z3i hv hv')⟩
end
end
section
def aL:Value->V
 | .int k n=>.d (.int k) (.int n)| .bool b=>.d .bool (.bool b)| .string s=>.d .str (.str s.data.toList)| .pointer none=>.d .ptr .nil| .slice none 0 0=>.ym| .map none=>.d .map .nil| .nilFunc=>.d .func .nil| .nilIface=>.d .iface .nil|_=>.any
def aK:Value->Bool
 | .int k n=>decide (k.min<=n/\n<=k.max)| .string s=>decide (s.data.toList.length<=140737488355328)|_=>true
def XM:Operand->Bool
 | .const v=>aK v|_=>true
def IG (n:Nat) (o:Oper):Bool:=
 o.op.operands.all XM&&(match o.dst with|some d=>decide (d<n)|none=>true)
def Ak (gl:Nat->Option (Ty × C)) (s:S):Operand->V
 | .tmp t=>s.get t| .const v=>aL v| .global g=>match gl g with|some (τ,c)=>.yn τ c|none=>.any
 | .func f=>.fn f []
def Bu (md:List (Nat × Nat)) (d:Nat):Nat:=(look md d).getD 0
def S.add (s:S) (lo:List (Key × O)) (tn:List (Nat × Option Nat)):S:={s with loc:=lo++s.loc,tk:=tn++s.tk}
def HY:List (Key × O)->Bool
 | []=>true|(.l _,_)::l=>HY l|(.g _,_)::_=>false
def IQ (P:Program) (s:S) (t':TypeId) (eb:Nat) (e:Ty) (Y:V) (K:List C->Prop):Prop:=
 match ty P t' with
 | .slice _ _=>(match Y with| .ym=>K []|Y=>match EH s Y with|some (eb',e',ys)=>eb'=eb/\e'=e/\K ys|none=>False)| .str=>e= .int .u8/\eb=1/\Y.isStr/\K (Y.toStr.map fun b=>C.int b.toNat)|_=>False
def Uf {P} (hP:Aq P=true) {s} {t':TypeId} {eb:Nat} {e Y K} (h:IQ P s t' eb e Y K):∃ys,K ys/\KW P s t' eb e Y ys:=by unfold IQ at h;split at h;{rename_i eb0 e0 ht;obtain⟨E,hu,_⟩:=JD hP ht;split at h;{exact⟨[],h,.inl ⟨⟨E,hu⟩,.inr ⟨rfl,rfl⟩⟩⟩};{split at h;{rename_i eb' e' ys he;obtain⟨rfl,rfl,hK⟩:=h;exact⟨ys,hK,.inl ⟨⟨E,hu⟩,.inl he⟩⟩};{exact h.elim}}};{rename_i ht;obtain⟨h1,h2,h3,hK⟩:=h;exact⟨_,hK,.inr ⟨Lk ht,h3,h1,h2,rfl⟩⟩};{exact h.elim}
def NT (X:Cx) (f:FuncId) (xs:List V) (v:V):Prop:=
 ∀(Γ:G) (w:World) (args:Array Value),xs.length=args.size->(∀(i:Nat) x u,xs[i]? =some x->args[i]? =some u->AG Γ x u)->∃u,(callFunc f args).run X.P w= .ok (.value u) w/\AG Γ v u
mutual
def V.pks:V->List Key
 | .ptr k _ _| .mp k=>[k]| .sr k _ _ _ (some _) _ _=>[k]| .agg _ vs=>V.Gm vs|_=>[]
def V.Gm:List V->List Key
 | []=>[]|x::xs=>x.pks++V.Gm xs
end
def Jf:Nat->List (Key × O)->List Key->List (Key × O)
 |0,_,_=>[]|n+1,loc,ks=>ks.flatMap fun k=>match AR loc k with|some o=>(k,o)::(match o with| .box x=>Jf n loc x.pks|_=>[])|none=>[]
def S.see (base s:S) (xs:List V):S:={base with loc:=Jf 3 s.loc (V.Gm xs)++base.loc}
def nD (y:V) (q:List Nat) (t τ:Ty) (K:V->Prop):Prop:=
 match y,t with
 | .d (.arr M e) c,.arr m e'=>q≠[]/\e'=e/\τ=e/\(Ty.arr m e).known=true/\q.getLastD 0+m<=M/\K (.d (.arr m e) (.agg ((c.elems.drop (q.getLastD 0)).take m)))|_,_=>False
def iop (X:Cx) (md:List (Nat × Nat)) (base:S) (dst:Nat) (o:Oper) (ρ:Operand->V) (s:S) (K:V->List (Key × O)->List (Nat × Option Nat)->Prop):Prop:=
 match o.op with
 | .load T x=>if Bu md dst=18 then(match ρ x with| .ptr k q τ=>(match s.obj k with|some (.box y)=>nD (y.at q.dropLast) q (ty X.P T) τ fun v=>K v [] []|_=>False)|_=>False)
  else(match ρ x with| .ptr k q τ=>(match s.obj k with|some (.box y)=>y.at q≠.any/\τ=ty X.P T/\τ.known=true/\K (view (y.at q)) [] []|_=>False)| .yn τ c=>τ=ty X.P T/\τ.known=true/\K (.d τ c) [] []|_=>False)
 | .alloc T=>CB X.P T=true/\K (.ptr (.l dst) [] (ty X.P T)) [(.l dst,Sn (ty X.P T) T)] []
 | .box _ x=>if Bu md dst=5 then(ρ x).plain=true/\(match Bp (ρ x)with|some cc=>K (.yn (ρ x).ty cc) [] []|none=>False)
   else(ρ x).plain=true/\(ρ x).Ay=true/\K (.ptr (.l dst) [] (ρ x).ty) [(.l dst,.box (ρ x))] []
 | .buildSlice t len parts=>(match ty X.P t with
   | .slice eb e=>(match len with
    |0=>parts.toList.length=0/\K (.emp eb e) [] []
    |len+1=>CB X.P (Al X.P t)=true/\e.size≠0/\(len+1)*e.size<=16777216/\(len+1)*eb<=140737488355328/\parts.toList.map (·.1)=List.range (len+1)/\
      (if Bu md dst=20 then(∀x∈parts.toList.map (fun x=>ρ x.2),x.ty=e/\x.plain=true)/\V.CF (parts.toList.map fun x=>ρ x.2)=true/\K (.sr (.l dst) [] 0 (len+1) (some (len+1)) eb e) [(.l dst,.box (.agg (.arr (len+1) e) (parts.toList.map fun x=>ρ x.2)))] []else match Du (parts.toList.map fun x=>ρ x.2)with|some cs=>(∀x∈parts.toList.map (fun x=>ρ x.2),x.ty=e/\x.plain=true)/\(if Bu md dst=4 then K (.sl eb e cs dst) [] [(dst,some cs.length)]else K (.d (.slice eb e) (.slice cs)) [] [])|none=>False))
   |_=>False)
 | .build T parts=>CB X.P T=true/\(ty X.P T).Cl=true/\(ty X.P T).isAgg=true/\MH (ty X.P T) (Bz (ty X.P T)) (parts.toList.map fun p=>(p.1,ρ p.2))/\
   K (Jo (ty X.P T) (Bz (ty X.P T)) (parts.toList.map fun p=>(p.1,ρ p.2))) [] []
 | .makeSlice t l c=>(match ty X.P t with
   | .slice eb e=>CB X.P (Al X.P t)=true/\(ρ l).FH/\(ρ c).FH/\0<=(ρ l).toInt/\(ρ l).toInt<=(ρ c).toInt/\(ρ c).toInt<=9223372036854775807/\(ρ c).toInt.toNat*eb<=140737488355328/\e.size≠0/\
     K (.sr (.l dst) [] 0 (ρ l).toInt.toNat (if Bu md dst=9 then none else some (ρ c).toInt.toNat) eb e) [(.l dst,.box (.d (.arr (ρ l).toInt.toNat e) (.agg (ay (ρ l).toInt.toNat (AJ e)))))] []
   |_=>False)
 | .makeMap T r=>(match r,HV X.P T with|none,some (kt,et)=>K (.mp (.l dst)) [(.l dst,.map (ty X.P kt) (ty X.P et) [])] []|_,_=>False)
 | .lookup T x i ok=>(match HV X.P T,ρ x with
   |some (kt,et),.mp k=>(match s.obj k with
     |some (.map kτ _ es)=>kτ=ty X.P kt/\Cw X.P kt=true/\CB X.P et=true/\(ρ i).DM kτ/\
       K (if ok then .tup [HT X.P et es (ρ i).toC,.d .bool (.bool (FL es (ρ i).toC).isSome)]else HT X.P et es (ρ i).toC) [] []
     |_=>False)
   |_,_=>False)
 | .call c=>(match c.callee with
   | .value fo=>(match ρ fo with
     | .fn f yp=>(Hn X.P f=true/\c.argTypes.toList.length=c.args.toList.length/\
      ∃b v L,(b=base\/b=base.see s (EF (c.args.toList.map ρ) yp))/\Bo X f (CU X.P false s (Jp c.argTypes.toList yp) (EF (c.args.toList.map ρ) yp)) b.up v L/\HY L=true/\
       K ((v.CY 2000).ren (dn dst) (rk dst)) (dnL dst L) (dnT dst (v.tkR 2000)))\/
      (yp=[]/\∃v,NT X f (c.args.toList.map ρ) v/\K v [] [])\/
      (yp=[]/\Hn X.P f=true/\∃v,GG (c.args.toList.map fun y=>Fw s (ρ y))=true/\Bo X f (c.args.toList.map fun y=>Fw s (ρ y)) (fun _=>none) v []/\v.DY=true/\K v [] [])
     |_=>False)
   | .builtin .append=>(match c.args.toList,c.argTypes.toList with| [x,y],[t,t']=>CB X.P (Al X.P t)=true/\(match ty X.P t,ρ x with| .slice eb e,.emp _ _=>IQ X.P s t' eb e (ρ y) fun ys=>if Bu md dst=3 then ys≠[]/\K (.sr (.l dst) [] 0 ys.length none eb e) [(.l dst,.box (.d (.arr ys.length e) (.agg ys)))] []else K (.sl eb e ys dst) [] [(dst,some ys.length)]| .slice eb e,.ym=>IQ X.P s t' eb e (ρ y) fun ys=>if Bu md dst=3 then ys≠[]/\K (.sr (.l dst) [] 0 ys.length none eb e) [(.l dst,.box (.d (.arr ys.length e) (.agg ys)))] []else K (.sl eb e ys dst) [] [(dst,some ys.length)]|_,_=>False)|_,_=>False)| .builtin .len=>(match c.args.toList,c.argTypes.toList with| [x],[T]=>(match ρ x with| .mp k=>(match HV X.P T,s.obj k with|some _,some (.map _ _ es)=>es.length<=9223372036854775807/\K (.d (.int .i64) (.int es.length)) [] []|_,_=>False)|_=>pv X.P o.op ρ fun y=>K y [] [])|_,_=>pv X.P o.op ρ fun y=>K y [] [])|_=>pv X.P o.op ρ fun y=>K y [] [])
 | .convert src z6E x=>(match strOf X.P s src z6E (ρ x)with|some ys=>K (.d .str (.str (ys.map Kh))) [] []|none=>pv X.P o.op ρ fun y=>K y [] [])|_=>pv X.P o.op ρ fun y=>K y [] []
structure Compat (s' s base:S):Prop where
 obj:∀k o,s.obj k=some o->s'.obj k≠none->s'.obj k=some o
 base:∀k o,base.obj k=some o->s'.obj k=some o
structure Uw (s:S) (lo:List (Key × O)) (tn:List (Nat × Option Nat)):Prop where
 l:∀k o,AR lo k=some o->s.obj k=none
 t:∀t x,look tn t=some x->s.known t=false
section
variable {X:Cx} {Γ:G} {w:World} {s:S}
def Compat.getObj {s' base:S} (h:Compat s' s base) (c:AQ Γ w s') {k o} (hι:Γ.ι k≠none) (ho:s.obj k=some o):s'.obj k=some o:=h.obj k o ho (c.dom k hι)
def tJ {s' base} (h:Compat s' s base) (c:AQ Γ w s') {x v r} (hr:AG Γ x v) (he:EH s x=some r):∃x',AG Γ x' v/\(x'= .ym->x= .ym)/\EH s' x'=some r:=by
 cases x <;> (try exact⟨_,hr,id,he⟩)
 case sr k q lo n cp eb e=>
  rcases Hc hr with⟨_,rfl,a,rfl⟩|⟨b,τ0,o,m,cap,a,hι,_⟩;{refine⟨.emp eb e,Px,(fun h=>by cases h),?_⟩;simp only[EH]at he;split at he;{split at he;{rw[<-he];simp[EH,V.Ej]};{cases he}};{cases he}}
  ·refine⟨_,hr,id,?_⟩;simp only[EH]at he ⊢;cases ho:s.obj k with
   |none=>simp[ho]at he|some o=>
    rw[h.getObj c (by rw[hι];simp) ho];rw[ho]at he;exact he
def z4H {P s' base} (h:Compat s' s base) (c:AQ Γ w s') {src dst:TypeId} {Y v ys} (hr:AG Γ Y v) (he:strOf P s src dst Y=some ys):∃Y',AG Γ Y' v/\strOf P s' src dst Y'=some ys:=by
 cases hel:EH s Y with
 |some r=>
  obtain⟨Y',h1,h2,h3⟩:=tJ h c hr hel;by_cases hY:Y= .ym;{subst hY;exact⟨_,hr,he⟩};refine⟨Y',h1,?_⟩;rw[<-he];unfold strOf;have hY':Y'≠.ym:=fun e=>hY (h2 e);rw[hel,h3];cases Y <;> first|exact absurd rfl hY|(cases Y' <;> first|exact absurd rfl hY'|rfl)
 |none=>
  refine⟨_,hr,?_⟩;unfold strOf at he ⊢;rw[hel]at he;split at he;{split at he;{rename_i h0;rw[if_pos h0];split at he;{exact he};{cases he}};{cases he}};{cases he}
def Ya {P s' base} (h:Compat s' s base) (c:AQ Γ w s') {t':TypeId} {eb:Nat} {e Y v ys} (hr:AG Γ Y v) (he:KW P s t' eb e Y ys):∃Y',AG Γ Y' v/\KW P s' t' eb e Y' ys:=by rcases he with⟨h1,h2|h2⟩|h1;{obtain⟨Y',a,_,b⟩:=tJ h c hr h2;exact⟨Y',a,.inl ⟨h1,.inl b⟩⟩};{exact⟨_,hr,.inl ⟨h1,.inr h2⟩⟩};{exact⟨_,hr,.inr h1⟩}
def q3C {P} (s s':S) (T:TypeId) (x:V):DU P false s T x=DU P false s' T x:=by cases x <;> simp[DU]
def VJ {P} (s s':S):∀(Ts:List TypeId) (xs:List V),CU P false s Ts xs=CU P false s' Ts xs
 | [],_=>rfl|_::_,[]=>rfl|T::Ts,x::xs=>by simp only[CU,q3C s s',VJ s s' Ts xs]
def XY (s:S):∀(xs:List V),CR false s xs=[]
 | []=>rfl|x::xs=>by
  have:CH false s x=none:=by cases x <;> simp[CH]
  simp[CR,this,XY s xs]
def Z1:∀{L:List (Key × O)} {k:Key} {o:O},HY L=true->AR L (.g k)=some o->False
 | [],_,_,_,h=>by simp[AR]at h
 |(.l n,_)::L,k,o,hl,h=>by simp[AR]at h;exact Z1 (L:=L) (by simpa[HY]using hl) h
 |(.g _,_)::_,_,_,hl,_=>by simp[HY]at hl
def Z0 (d:Nat):∀{L:List (Key × O)} {j:Nat} {o:O},HY L=true->AR L (.l j)=some o->AR (dnL d L) (.l (rk d j))=some (o.ren (dn d))
 | [],_,_,_,h=>by simp[AR]at h
 |(.l n,o')::L,j,o,hl,h=>by
  simp only[AR]at h;simp only[dnL,AR,dn];by_cases e:n=j;{subst e;simp at h;subst h;simp}
  ·have e1:Key.l n≠.l j:=by intro h;cases h;exact e rfl
   have e2:Key.l (rk d n)≠.l (rk d j):=by intro h;simp[rk]at h;exact e h
   rw[if_neg e1]at h;rw[if_neg e2];exact Z0 d (L:=L) (by simpa[HY]using hl) h
 |(.g _,_)::_,_,_,hl,_=>by simp[HY]at hl
def q8X (d:Nat) (l:List (Nat × Option Nat)) (m:Nat):look (dnT d l) (rk d m)=look l m:=by rw[Wm,QE]
def ZB (X:Cx) (base:S) (o:Oper) (ρ:Operand->V) (s:S) (v:V) (lo:List (Key × O)) (tn:List (Nat × Option Nat)):Prop:=
 ∀(Γ:G) (w:World) (a:Act) (s':S),Γ.gl=X.gl->AQ Γ w s'->Compat s' s base->Uw s' lo tn->(∀y∈o.op.operands,AG Γ (ρ y) (a.eval y))->Au X.P o a w (BC Γ w (s'.add lo tn) v)
def q5L (hP:Aq X.P=true) {o:Oper} {ρa K} (h:pv X.P o.op ρa K):
  ∃v,K v/\∀(Γ:G) (w:World) (a:Act) (s':S),AQ Γ w s'->(∀y∈o.op.operands,AG Γ (ρa y) (a.eval y))->Au X.P o a w (BC Γ w s' v):=by
 obtain⟨v,hK,hs⟩:=z1i hP h;refine⟨v,hK,fun Γ w a s' c hr=>?_⟩;obtain⟨u,h1,h2⟩:=hs Γ w a.eval hr;exact Au.val h1 (BC.same c h2)
mutual
def iQ {Γ:G}:∀{x:V} {hm:Option Key} {p:List Nat} {vs:List Value},AA Γ hm p x vs->∀k∈x.pks,Γ.ι k≠none
 | .ptr k0 q τ,_,_,_,h,k,hk=>by simp only[V.pks,fq]at hk;subst hk;simp only[AA]at h;obtain⟨b,τ0,o,h1,_⟩:=h;rw[h1];simp
 | .mp k0,_,_,_,h,k,hk=>by simp only[V.pks,fq]at hk;subst hk;simp only[AA]at h;obtain⟨b,h1,_⟩:=h;rw[h1];simp
 | .sr k0 q lo n (some c) eb e,_,_,_,h,k,hk=>by simp only[V.pks,fq]at hk;subst hk;simp only[AA]at h;rcases h with⟨h,_⟩|⟨b,τ0,o,m,cap,h1,_⟩;{cases h};{rw[h1];simp}
 | .agg τ xs,_,_,_,h,k,hk=>by simp only[V.pks]at hk;simp only[AA]at h;exact W9 h.2.2.2.2 k hk
 | .sr _ _ _ _ none _ _,_,_,_,_,k,hk| .d _ _,_,_,_,_,k,hk| .sl _ _ _ _,_,_,_,_,k,hk| .ts _ _ _,_,_,_,_,k,hk| .emp _ _,_,_,_,_,k,hk| .ym,_,_,_,_,k,hk| .yn _ _,_,_,_,_,k,hk| .fn _ _,_,_,_,_,k,hk| .tup _,_,_,_,_,k,hk| .top _,_,_,_,_,k,hk| .any,_,_,_,_,k,hk=>by simp[V.pks]at hk
def W9 {Γ:G}:∀{xs:List V} {hm:Option Key} {p:List Nat} {i:Nat} {τ:Ty} {vs:List Value},Aa Γ hm p i τ xs vs->∀k∈V.Gm xs,Γ.ι k≠none
 | [],_,_,_,_,_,_,k,hk=>by simp[V.Gm]at hk
 |x::xs,_,_,_,_,_,h,k,hk=>by simp only[V.Gm,dw]at hk;simp only[Aa]at h;obtain⟨⟨o,f,_,_,_,h1⟩,h2⟩:=h;rcases hk with hk|hk;{exact iQ h1 k hk};{exact W9 h2 k hk}
end
def z06 {Γ:G} {x:V} {v} (h:AG Γ x v):∀k∈x.pks,Γ.ι k≠none:=by
 cases x with
 |any=>intro k hk;simp[V.pks]at hk|tup=>intro k hk;simp[V.pks]at hk|_=>exact iQ h.1
def W8:∀{xs:List V} {k:Key},k∈V.Gm xs->∃x∈xs,k∈x.pks
 | [],_,h=>by simp[V.Gm]at h
 |x::xs,k,h=>by simp only[V.Gm,dw]at h;rcases h with h|h;{exact⟨x,by simp,h⟩};{obtain⟨y,h1,h2⟩:=W8 h;exact⟨y,by simp[h1],h2⟩}
def zI {s:S} {k o} (h:AR s.loc k=some o):s.obj k=some o:=by unfold jj Bx;rw[h]
def eY:∀{l:List (Key × O)} {k:Key} {o:O},AR l k=some o->(k,o)∈l
 | [],_,_,h=>by simp[AR]at h
 |(j,x)::l,k,o,h=>by simp only[AR]at h;split at h;{rename_i e;subst e;cases h;exact List.mem_cons_self ..};{exact List.mem_cons_of_mem _ (eY h)}
def J7 {s' base:S} (hc:Compat s' s base) (c:AQ Γ w s'):∀(n:Nat) (ks:List Key),(∀k∈ks,Γ.ι k≠none)->∀p∈Jf n s.loc ks,s'.obj p.1=some p.2
 |0,_,_,p,hp=>by simp[Jf]at hp
 |n+1,ks,hk,p,hp=>by
  simp only[Jf,List.mem_flatMap]at hp;obtain⟨k,h1,hp⟩:=hp;split at hp
  ·rename_i o ho;have hs:s'.obj k=some o:=hc.getObj c (hk k h1) (zI ho);rcases fz.1 hp with rfl|hp;{exact hs}
   ·cases o with
    |box x=>
     have hks:∀k∈x.pks,Γ.ι k≠none:=by rcases c.obj k _ hs with⟨_,e,hv⟩|⟨b,cells,T,_,_,_,_,_,hr,_⟩;{subst hv;intro k hk;simp[V.pks]at hk};{exact iQ hr}
     exact J7 hc c n x.pks hks p hp
    |_=>simp at hp
  ·simp at hp
def z38 {s' base:S} (hc:Compat s' s base) (c:AQ Γ w s') {xs} (hx:∀x∈xs,∃v,AG Γ x v) {k o} (h:(base.see s xs).obj k=some o):s'.obj k=some o:=by
 unfold jj S.see Bx at h;simp only[LH]at h;cases hl:AR (Jf 3 s.loc (V.Gm xs)) k with
 |some o'=>
  rw[hl]at h;cases h;refine J7 hc c 3 (V.Gm xs) (fun k hk=>?_) (k,o) (eY hl);obtain⟨x,h1,h2⟩:=W8 hk;obtain⟨v,hv⟩:=hx x h1;exact z06 hv k h2
 |none=>
  rw[hl]at h;exact hc.base k o h
def pM:∀{l:List V} {i:Nat} {x:V},GG l=true->l[i]? =some x->∃τ c,x= .d τ c
 | [],i,x,_,h=>by simp at h
 |y::l,0,x,hl,h=>by simp only[GG,az]at hl;simp at h;subst h;cases y <;> simp at hl;exact⟨_,_,rfl⟩
 |y::l,i+1,x,hl,h=>by simp only[GG,az]at hl;exact pM hl.2 (by simpa using h)
def z4p {s' base} (hc:Compat s' s base) (c:AQ Γ w s') {gl x v} (hr:AG Γ x v) (hd:∃τ cc,Fw s x= .d τ cc):AG (G.HH w gl) (Fw s x) v:=by obtain⟨τ,cc,hd⟩:=hd;rw[hd];exact z4q c (fun k o hι ho=>hc.getObj c hι ho) gl hr hd
def MV (hP:Aq X.P=true) {md base} {dst:Nat} {o ρa K} (h:iop X md base dst o ρa s K):
  ∃v lo tn,K v lo tn/\ZB X base o ρa s v lo tn:=by
 have z6p:(pv X.P o.op ρa fun y=>K y [] [])->∃v lo tn,K v lo tn/\ZB X base o ρa s v lo tn:=by intro h;obtain⟨v,hK,hd⟩:=q5L hP h;exact⟨v,[],[],hK,fun Γ w a s' _ c _ _ hr=>hd Γ w a s' c hr⟩
 unfold iop at h;split at h
 · -- load
  rename_i T x ho;split at h
  ·split at h
   ·rename_i k q τ hx;split at h
    ·rename_i y yr;unfold nD at h;split at h
     ·rename_i y0 t0 M e cc m e' hat ht;obtain⟨hq,rfl,rfl,hk,hlo,hK⟩:=h;refine⟨_,_,_,hK,fun Γ w a s' _ c hc _ hr=>?_⟩;have hxr:=hr x (by rw[ho];simp[ca]);rw[hx]at hxr;obtain⟨b,τ0,o0,hι,_⟩:=Gr hxr;have hq2:q=q.dropLast++[q.getLastD 0]:=by rw[List.getLastD_eq_getLast?,List.getLast?_eq_some_getLast hq,Option.getD_some];exact(List.dropLast_concat_getLast hq).symm
      rw[hq2]at hxr;obtain⟨u,r1,r2⟩:=q8R (T:=T) hP c hxr (hc.getObj c (by rw[hι];simp) yr) hat ht hk hlo;exact Au.val (by unfold execOp;simp[ho,r1]) (BC.same c r2)
     ·exact h.elim
    ·exact h.elim
   ·exact h.elim
  split at h;{rename_i k q τ hx;split at h;{rename_i y yr;obtain⟨h1,h2,h3,hK⟩:=h;refine⟨_,_,_,hK,fun Γ w a s' _ c hc _ hr=>?_⟩;have hxr:=hr x (by rw[ho];simp[ca]);rw[hx]at hxr;obtain⟨b,τ0,o0,hι,_⟩:=Gr hxr;obtain⟨u,r1,r2⟩:=eS (T:=T) hP c hxr (hc.getObj c (by rw[hι];simp) yr) h1 h2 h3;exact Au.val (by unfold execOp;simp[ho,r1]) (BC.same c r2)};{exact h.elim}};{rename_i τ cc hx;obtain⟨h2,h3,hK⟩:=h;refine⟨_,_,_,hK,fun Γ w a s' _ c hc _ hr=>?_⟩;have hxr:=hr x (by rw[ho];simp[ca]);rw[hx]at hxr;obtain⟨u,r1,r2⟩:=q8Q (T:=T) hP c hxr h2 h3;exact Au.val (by unfold execOp;simp[ho,r1]) (BC.same c r2)};{exact h.elim}
 ·rename_i T ho;obtain⟨h1,hK⟩:=h;exact⟨_,_,_,hK,fun Γ w a s' _ c _ hf _=>q5p c ho (hf.l _ _ (Mc _ _ _)) h1⟩
 ·rename_i T x ho;split at h;{obtain⟨h1,h⟩:=h;split at h;{rename_i cc hcc;exact⟨_,_,_,h,fun Γ w a s' _ c _ hf hr=>q5t c ho (hr x (by rw[ho];simp[ca])) h1 hcc⟩};{exact h.elim}};{obtain⟨h1,h2,hK⟩:=h;exact⟨_,_,_,hK,fun Γ w a s' _ c _ hf hr=>q5s c ho (hf.l _ _ (Mc _ _ _)) (hr x (by rw[ho];simp[ca])) h1 h2⟩}
 · -- buildSlice
  rename_i t len parts ho;split at h
  ·rename_i eb e ht;split at h
   ·obtain⟨h1,hK⟩:=h;have hp0:parts=#[]:=by apply gz;simpa using h1
    subst hp0;exact⟨_,_,_,hK,fun Γ w a s' _ c _ _ _=>q5x hP c ho ht⟩
   ·rename_i len;obtain⟨h1,h2,h3,h4,h5,h⟩:=h;split at h;{obtain⟨h6,h7,hK⟩:=h;refine⟨_,_,_,hK,fun Γ w a s' _ c _ hf hr=>q5y hP c (hf.l _ _ (Mc _ _ _)) ho ht h1 (by omega) h2 h3 h4 h5 (by have:=congrArg List.length h5;simpa using this) (fun i x y hx hy=>?_) h6 h7⟩;rw[dg,hx]at hy;cases hy;exact hr x.2 (by rw[ho];simp only[ca];exact qt.2 (ny.2 ⟨x,fg hx,rfl⟩))};split at h
    ·rename_i cs hcs;obtain⟨h6,hK⟩:=h;obtain⟨l1,l2⟩:=Zv hcs;have hl:cs.length=len+1:=by rw[l1];have:=congrArg List.length h5;simpa using this
     have key:∀(Γ:G) (w:World) (a:Act) (s':S),Γ.gl=X.gl->AQ Γ w s'->(∀y∈o.op.operands,AG Γ (ρa y) (a.eval y))->∀(i:Nat) (x:Nat × Operand) (cc:C),parts.toList[i]? =some x->cs[i]? =some cc->AG Γ (.d e cc) (a.eval x.2):=by
      intro Γ w a s' _ c hr i x cc hx hcc;have hxm:(parts.toList.map fun x=>ρa x.2)[i]? =some (ρa x.2):=by simp only[dg,hx];rfl
      obtain⟨t1,t2⟩:=h6 _ (fg hxm);have z6Z:x∈parts.toList:=fg hx;have hrx:=hr x.2 (by rw[ho];simp only[ca];exact qt.2 (ny.2 ⟨x,z6Z,rfl⟩));obtain⟨q1,q2⟩:=(Bd t2).1 hrx;have:=Ki _ q1 (l2 i _ cc hxm hcc);rw[t1]at this q2;exact Cz.2 ⟨this,q2⟩
     split at hK;{exact⟨_,_,_,hK,fun Γ w a s' hg c _ hf hr=>q5z hP c (hf.t _ _ (Wk _ _ _)) ho ht h1 (by omega) h2 h3 h4 h5 hl (key Γ w a s' hg c hr)⟩};{exact⟨_,_,_,hK,fun Γ w a s' hg c _ _ hr=>q5w hP c ho ht h1 (by omega) h2 h3 h4 h5 hl (key Γ w a s' hg c hr)⟩}
    ·exact h.elim
  ·exact h.elim
 · -- build
  rename_i T parts ho;obtain⟨h1,h2,h3,h4,hK⟩:=h;refine⟨_,_,_,hK,fun Γ w a s' _ c _ _ hr=>?_⟩;obtain⟨u,r1,r2⟩:=q5v (Γ:=Γ) (w:=w) (ev:=a.eval) hP h1 h2 h3 (fun p hp=>hr p.2 (by rw[ho];simp only[ca];exact qt.2 (ny.2 ⟨p,hp,rfl⟩))) h4;refine Au.val (v:=u) (w':=w) ?_ (BC.same c r2);unfold execOp;simp only[ho,cu,r1,cr,fb]
 · -- makeSlice
  rename_i t l cp ho;split at h;{rename_i eb e ht;obtain⟨h1,h2,h3,h4,h5,h6,h7,h8,hK⟩:=h;refine⟨_,_,_,hK,fun Γ w a s' _ c _ hf hr=>?_⟩;obtain⟨k1,e1⟩:=Qb h2 (hr l (by rw[ho];simp[ca]));obtain⟨k2,e2⟩:=Qb h3 (hr cp (by rw[ho];simp[ca]));exact q5F (L:=ρa l) (Cp:=ρa cp) (k1:=k1) (k2:=k2) (nl:=(ρa l).toInt.toNat) (nc:=(ρa cp).toInt.toNat) hP c ho ht h1 (hf.l _ _ (Mc _ _ _)) (by rw[e1,gr h4]) (by rw[e2,gr (by omega)]) (by omega) (by unfold maxLen;omega) h7 h8 (fun c h=>by split at h <;> cases h;rfl)};{exact h.elim}
 · -- makeMap
  rename_i T r ho;split at h;{rename_i kt et hT;exact⟨_,_,_,h,fun Γ w a s' _ c _ hf _=>q5E c ho (hf.l _ _ (Mc _ _ _))⟩};{exact h.elim}
 · -- lookup
  rename_i T x i ok ho;split at h
  ·rename_i kt et k hT hx;split at h
   ·rename_i kτ vτ es yr;obtain⟨rfl,h1,h2,h3,hK⟩:=h;refine⟨_,_,_,hK,fun Γ w a s' _ c hc _ hr=>?_⟩;have hxr:=hr x (by rw[ho];simp[ca]);rw[hx]at hxr;obtain⟨b,hι,_⟩:=UL hxr;have hir:=hr i (by rw[ho];simp[ca]);have hd:ρa i= .d (ty X.P kt) (ρa i).toC:=by cases hi:ρa i <;> simp[hi,V.DM]at h3;subst h3;rfl
    rw[hd]at hir;have:=q5D hP c ho hT hxr hir (hc.getObj c (by rw[hι];simp) yr) h1 h2;exact this
   ·exact h.elim
  ·exact h.elim
 · -- calls
  rename_i cl ho;obtain⟨callee,args,ts⟩:=cl;split at h
  ·rename_i fo hfo;simp only at hfo h;subst hfo;split at h
   ·rename_i f yp hf;rcases h with⟨h1,h2,b,v,L,hB,D,hL,hK⟩|⟨rfl,v,E,hK⟩|⟨rfl,h1,v,hx,D,hv,hK⟩
    rotate_left
    ·refine⟨_,_,_,hK,fun Γ w a s' hgl c hc hfr hr=>?_⟩;have hrf:=hr fo (by rw[ho];simp[ca,dz]);rw[hf]at hrf;obtain⟨cv,hfv,hcl,_⟩:=YH hrf;have hcv:cv=#[]:=by apply gz;simpa using hcl.symm
     subst hcv;obtain⟨u,e1,e2⟩:=E Γ w (args.map a.eval) (by simp) fun i x u hx hu=>by
      simp only[dg,uv]at hx hu;cases hy:args[i]? with
      |none=>rw[hy]at hu;cases hu
      |some y=>
       have hy':args.toList[i]? =some y:=by simpa using hy
       rw[hy]at hu;rw[hy']at hx;cases hu;cases hx;exact hr y (by rw[ho];simp only[ca,dz];exact jg _ (Array.mem_of_getElem? hy))
     refine Au.val (v:=u) (w':=w) ?_ (BC.same c e2);unfold execOp;simp[ho,resolve,hfv,ui,invoke,e1]
    ·refine⟨_,_,_,hK,fun Γ w a s' hgl c hc hfr hr=>?_⟩;have hrf:=hr fo (by rw[ho];simp[ca,dz]);rw[hf]at hrf;refine q5H hgl c ho h1 hrf (by simp) (fun i x y hx' hy=>?_) hx D hv;simp only[dg]at hx';have hx2:=hx';rw[hy]at hx';cases hx';refine z4p hc c (hr y (by rw[ho];simp only[ca,dz];exact jg _ (kv.1 (fg hy)))) (pM hx (i:=i) ?_);simp only[dg];exact hx2
    refine⟨_,_,_,hK,fun Γ w a s' hgl c hc hfr hr=>?_⟩;have hrf:=hr fo (by rw[ho];simp[ca,dz]);rw[hf]at hrf;rw[VJ s s']at D;have hbb:∀k o,b.obj k=some o->s'.obj k=some o:=by
     intro k ob hk;rcases hB with rfl|rfl;{exact hc.base k ob hk}
     ·refine z38 hc c (fun x hx=>?_) hk;simp only[EF,dw,ny]at hx;rcases hx with⟨y,hy,rfl⟩|hx;{exact⟨_,hr y (by rw[ho];simp only[ca,dz];exact jg _ (kv.1 hy))⟩}
      ·obtain⟨cv,_,q1,q2⟩:=YH hrf;obtain⟨i,hi⟩:=List.mem_iff_getElem?.1 hx;have hlt:i<cv.toList.length:=by rw[<-q1];exact(bu.1 hi).1
       exact⟨_,q2 i x _ hi (bg hlt)⟩
    have:=sV (tip:=false) (A:=b.up) (d:=dst) rfl hgl c ho h1 h2 hrf (fun y hy=>hr y (by rw[ho];simp only[ca,dz];exact jg _ (kv.1 hy))) (by rw[XY];rfl) D
     (fun k o hk=>by
      simp only[S.up]at hk ⊢;cases hb:b.obj k with
      |none=>simp[hb]at hk|some ob=>rw[hbb k ob hb];rw[hb]at hk;exact hk)
     (fun k o hk=>(Z1 hL hk).elim) (fun j o hj=>hfr.l _ _ (Z0 dst hL hj)) (fun m x hm=>hfr.t _ x (by rw[q8X];exact hm))
    have e:S.back s' false (EF (args.toList.map ρa) yp) dst v L=s'.add (dnL dst L) (dnT dst (v.tkR 2000)):=by simp[S.back,S.add,XY,HB]
    rw[<-e];exact this
   ·exact h.elim
  ·rename_i hb;simp only at hb h;subst hb;split at h
   ·rename_i x y t t' yz hts;have z55:args=#[x,y]:=by cases args;simpa using yz
    have z6j:ts=#[t,t']:=by cases ts;simpa using hts
    subst z55;subst z6j;obtain⟨h1,h⟩:=h;split at h;{rename_i eb e eb0 e0 ht hx;obtain⟨ys,hK,hs⟩:=Uf hP h;split at hK;{obtain⟨hne,hK⟩:=hK;refine⟨_,_,_,hK,fun Γ w a s' _ c hc hf hr=>?_⟩;have hyr:=hr y (by rw[ho];simp[ca,dz]);have hxr:=hr x (by rw[ho];simp[ca,dz]);obtain⟨Y',z6k,hs'⟩:=Ya hc c hyr hs;exact sS hP c ho ht h1 (hf.l _ _ (Mc _ _ _)) hxr (.inr ⟨_,_,hx⟩) z6k hs' hne};{refine⟨_,_,_,hK,fun Γ w a s' _ c hc hf hr=>?_⟩;have hyr:=hr y (by rw[ho];simp[ca,dz]);have hxr:=hr x (by rw[ho];simp[ca,dz]);obtain⟨Y',z6k,hs'⟩:=Ya hc c hyr hs;exact sT hP c ho ht h1 (hf.t dst _ (Wk _ _ _)) hxr (.inr ⟨_,_,hx⟩) z6k hs'}};{rename_i eb e ht hx;obtain⟨ys,hK,hs⟩:=Uf hP h;split at hK;{obtain⟨hne,hK⟩:=hK;refine⟨_,_,_,hK,fun Γ w a s' _ c hc hf hr=>?_⟩;have hyr:=hr y (by rw[ho];simp[ca,dz]);have hxr:=hr x (by rw[ho];simp[ca,dz]);obtain⟨Y',z6k,hs'⟩:=Ya hc c hyr hs;exact sS hP c ho ht h1 (hf.l _ _ (Mc _ _ _)) hxr (.inl hx) z6k hs' hne};{refine⟨_,_,_,hK,fun Γ w a s' _ c hc hf hr=>?_⟩;have hyr:=hr y (by rw[ho];simp[ca,dz]);have hxr:=hr x (by rw[ho];simp[ca,dz]);obtain⟨Y',z6k,hs'⟩:=Ya hc c hyr hs;exact sT hP c ho ht h1 (hf.t dst _ (Wk _ _ _)) hxr (.inl hx) z6k hs'}};{exact h.elim}
   ·exact h.elim
  ·rename_i hb;simp only at hb h;subst hb;split at h
   ·rename_i x T yz hts;have z55:args=#[x]:=by cases args;simpa using yz
    have z6j:ts=#[T]:=by cases ts;simpa using hts
    subst z55;subst z6j;split at h;{rename_i k hx;split at h;{rename_i pr kτ vτ es hT yr;obtain⟨h1,hK⟩:=h;refine⟨_,_,_,hK,fun Γ w a s' _ c hc _ hr=>?_⟩;have hxr:=hr x (by rw[ho];simp[ca,dz]);rw[hx]at hxr;obtain⟨b,hι,_⟩:=UL hxr;exact q5C c ho (kt:=pr.1) (et:=pr.2) hT hxr (hc.getObj c (by rw[hι];simp) yr) h1};{exact h.elim}};{exact z6p h}
   ·exact z6p h
  ·exact z6p h
 · -- a string of bytes
  rename_i src z6E x ho;split at h;{rename_i ys hys;refine⟨_,_,_,h,fun Γ w a s' _ c hc _ hr=>?_⟩;have hxr:=hr x (by rw[ho];simp[ca]);obtain⟨Y',z8e,z8f⟩:=z4H hc c hxr hys;exact q5J hP c ho z8f z8e};{exact z6p h}
 ·exact z6p h
end
end
section
def C.isNil:C->Bool
 | .nil=>true|_=>false
def Kw:Operand->Bool
 | .const .nilIface=>true|_=>false
def Ql (P:Program) (src dst:TypeId) (x:V):Option (List C):=
 match ty P src,ty P dst with
 | .str,.slice eb e=>if e.Rj=true/\eb=1 then(match x with| .d .str c=>some (c.toStr.map fun b=>C.int b.toNat)|_=>none)else none|_,_=>none
def Qq (P:Program) (T:TypeId):Bool:=
 match ty P T with
 | .iface| .opq _=>false|_=>true
def fop (X:Cx) (o:Oper) (ρ:Operand->V) (K:V->Prop):Prop:=
 match o.op with
 | .convert src dst x=>(match Ql X.P src dst (ρ x)with|some ys=>K (.d (.slice 1 (.int .u8)) (.slice ys))|none=>False)| .makeInterface T _=>Qq X.P T=true/\K (.d .iface (.bool true))| .binOp op T x y _=>Kw y=true/\ty X.P T= .iface/\(match op,ρ x with| .eql,.d .iface c=>K (.d .bool (.bool c.isNil))| .neq,.d .iface c=>K (.d .bool (.bool (!c.isNil)))|_,_=>False)|_=>False
def sl3 (X:Cx) (md:List (Nat × Nat)) (dst:Nat) (o:Oper) (ρ:Operand->V) (s:S) (K:V->S->Prop):Prop:=
 match o.op with
 | .slice T x lo hi mx=>Bu md dst=4/\s.known dst=false/\hi.isSome=true/\mx.isSome=true/\(match ty X.P T with| .slice eb e=>(match(ρ x).Ej with|some (eb',e',cs)=>eb'=eb/\e'=e/\(match CD (lo.map ρ) 0,CD (hi.map ρ) 0,CD (mx.map ρ) 0 with|some l,some h,some m=>l=0/\0<=h/\h=m/\m<=cs.length/\K (.sl eb e (cs.take h.toNat) dst) {s with tk:=(dst,some (cs.take h.toNat).length)::s.tk}|_,_,_=>False)|none=>False)|_=>False)|_=>False
section
variable {X:Cx} {Γ:G} {w:World} {s:S}
def z40 {P:Program} {f:Nat} {T:TypeId} (h:tyF P (f+1) T= .iface):∃ms,P.underlying T=some (.interface ms):=by unfold tyF at h;split at h;{cases hu:P.underlying T with|none=>simp[hu]at h|some d=>cases d <;> simp[hu]at h ⊢};{cases h}
def z4Z {P:Program} {T:TypeId} (h:Qq P T=true):∃d,P.underlying T=some d/\∀ms,d≠.interface ms:=by unfold Qq ty tyF at h;split at h;{cases h};{cases h};{rename_i h1 h2;split at h1;{cases hu:P.underlying T with|none=>simp[hu]at h2|some d=>exact⟨d,rfl,fun ms e=>by subst e;simp[hu]at h1⟩};{rename_i hn;simp[hn]at h2}}
def q05 {c v} (h:AG Γ (.d .iface c) v):(c= .nil/\v= .nilIface)\/(c= .bool true/\∃t u,v= .iface t u):=by obtain⟨h1,h2⟩:=Cz.1 h;rw[CW (by simpa[jb]using h2)]at h1;simp only[AL]at h1;rcases h1 with⟨rfl,h1⟩|⟨rfl,t,u,h1⟩;{simp at h1;exact .inl ⟨rfl,h1⟩};{simp at h1;exact .inr ⟨rfl,t,u,h1⟩}
def z3T {P:Program} {T:TypeId} {ms} (hu:P.underlying T=some (.interface ms)) {v} (hv:v= .nilIface\/∃t u,v= .iface t u) (w:World):
  (kz T v .nilIface).run P w= .ok (match v with| .nilIface=>true|_=>false) w:=by
 unfold kz Op.maxDepth;rw[show(10000:Nat)=9999+1 from rfl,Op.equalIn,cu,run_underlying hu];rcases hv with rfl|⟨t,u,rfl⟩ <;> rfl
def YR {P:Program} {T:TypeId} {ms} (hu:P.underlying T=some (.interface ms)) {x y} (hy:Kw y=true) {v} (hv:v= .nilIface\/∃t u,v= .iface t u) (w:World):
  ((do eqGuard .eql T x y v .nilIface;binOp .eql T v .nilIface):Sem Value).run P w= .ok (.bool (match v with| .nilIface=>true|_=>false)) w/\
  ((do eqGuard .neq T x y v .nilIface;binOp .neq T v .nilIface):Sem Value).run P w= .ok (.bool (!(match v with| .nilIface=>true|_=>false))) w:=by
 obtain⟨z,rfl⟩:∃z,y= .const z:=by
  cases y with
  |const z=>exact⟨z,rfl⟩|_=>simp[Kw]at hy
 have he:=z3T hu hv w;rcases hv with rfl|⟨t,u,rfl⟩;{constructor;{rw[eqGuard_nil_constR];show(do pure (.bool (<-kz T .nilIface .nilIface)):Sem Value).run P w=_;rw[cu,he];rfl};{rw[eqGuard_nil_constR];show(do pure (.bool (!(<-kz T .nilIface .nilIface))):Sem Value).run P w=_;rw[cu,he];rfl}};{constructor;{show(do pure (.bool (<-kz T (.iface t u) .nilIface)):Sem Value).run P w=_;rw[cu,he];rfl};{show(do pure (.bool (!(<-kz T (.iface t u) .nilIface))):Sem Value).run P w=_;rw[cu,he];rfl}}
def q5A {P} (hP:Aq P=true) (c:AQ Γ w s) {o:Oper} {a:Act} {src dst:TypeId} {x} (ho:o.op= .convert src dst x) {Y ys} (h:Ql P src dst Y=some ys)
  (hr:AG Γ Y (a.eval x)):Au P o a w (BC Γ w s (.d (.slice 1 (.int .u8)) (.slice ys))):=by
 unfold Ql at h;split at h
 ·rename_i eb e hs ht;obtain⟨E,hu,hE,_,_⟩:=JD hP ht;have hs':=Lk hs;split at h
  ·rename_i hc0;obtain⟨h0,rfl⟩:=hc0;obtain rfl:=Ty.dK h0;have hEu:P.underlying E=some (.int .u8):=q2z hE.symm;split at h
   ·rename_i cc;cases h;obtain⟨hv,_,hl⟩:=Iw hr;have run:=run_bytes_of_string (P:=P) w src dst E ⟨cc.toStr.toArray⟩ hs' hu hEu;have hsz:(⟨cc.toStr.toArray⟩:ByteArray).size=cc.toStr.length:=by simp[ByteArray.size]
    rw[hsz]at run;have hge:=grownCap_ge w cc.toStr.length 0 E;have hcm:=grownCap_le_maxLen w cc.toStr.length 0 E (by unfold maxLen;omega);generalize grownCap w cc.toStr.length 0 E=cap at run hge hcm;have z6q:(bytesRow ⟨cc.toStr.toArray⟩ cap).toList=cc.toStr.map (fun b=>wo .u8 b.toNat)++(ay (cap-cc.toStr.length) (wo .u8 0)):=by simp[bytesRow,hsz]
    have z6i:Ext w (w.drew.alloc (.cells (bytesRow ⟨cc.toStr.toArray⟩ cap) E ((bytesRow ⟨cc.toStr.toArray⟩ cap).size,(bytesRow ⟨cc.toStr.toArray⟩ cap).size+1))):=(Ext.drew w).trans (Ext.alloc _ _);have zh:=heap_alloc_new w.drew (.cells (bytesRow ⟨cc.toStr.toArray⟩ cap) E ((bytesRow ⟨cc.toStr.toArray⟩ cap).size,(bytesRow ⟨cc.toStr.toArray⟩ cap).size+1));obtain⟨c1,p1,g1⟩:=c.Dr z6i zh z6q;refine Au.val (v:=.slice (some ⟨w.heap.size,0,none⟩) cc.toStr.length cap) (w':=w.drew.alloc (.cells (bytesRow ⟨cc.toStr.toArray⟩ cap) E ((bytesRow ⟨cc.toStr.toArray⟩ cap).size,(bytesRow ⟨cc.toStr.toArray⟩ cap).size+1))) ?_ ⟨_,g1,p1,c1,?_⟩;{unfold execOp;simp only[ho,hv,cu,run,cr,fb]}
    ·refine Cz.2 ⟨Dm (by simp) hge hcm (by omega) (.inr ⟨w.heap.size,0,_,rfl,Ce _ _ _,by simp[iy],fun i c' hi=>?_⟩),rfl⟩;simp only[dg]at hi;cases hb:cc.toStr[i]? with
     |none=>rw[hb]at hi;cases hi
     |some b=>
      rw[hb]at hi;cases hi;have:chunk (cc.toStr.map (fun b=>wo .u8 b.toNat)) (0+i*(Ty.int bp).size) (Ty.int bp).size=[.int .u8 b.toNat]:=by
       apply List.ext_getElem?;intro j;rw[Df];by_cases hj:j<1
       ·have:j=0:=by omega
        subst this;simp[iy,hb]
       ·simp[iy,hj]
      rw[this];simp only[AL];refine⟨_,rfl,rfl,?_,?_⟩
      ·have:IntKind.u8.min=0:=by decide
       omega
      ·have:IntKind.u8.max=255:=by decide
       have:=b.toNat_lt;omega
   ·cases h
  ·cases h
 ·cases h
def cH (hP:Aq X.P=true) {o:Oper} {ρ K} (h:fop X o ρ K):
  ∃v,K v/\∀(Γ:G) (w:World) (a:Act) (s:S),AQ Γ w s->(∀y∈o.op.operands,AG Γ (ρ y) (a.eval y))->Au X.P o a w (BC Γ w s v):=by
 unfold fop at h;split at h;{rename_i src dst x ho;split at h;{rename_i ys hys;exact⟨_,h,fun Γ w a s c hr=>q5A hP c ho hys (hr x (by rw[ho];simp[ca]))⟩};{exact h.elim}}
 ·rename_i T x ho;obtain⟨h1,hK⟩:=h;obtain⟨d,hd,hni⟩:=z4Z h1;refine⟨_,hK,fun Γ w a s c hr=>Au.val (v:=.iface T (a.eval x)) (w':=w) ?_ (BC.same c (Cz.2 ⟨?_,rfl⟩))⟩
  ·unfold execOp;simp only[ho,cu,Instr.makeInterface,run_underlying hd]
   cases d <;> first
    |exact absurd rfl (hni _)|simp[fb,Result.andThen]
  ·simp only[fc,AL];exact .inr ⟨trivial,_,_,rfl⟩
 ·rename_i op T x y yT ho;obtain⟨hy,hT,h⟩:=h;obtain⟨ms,hu⟩:=z40 (f:=11) hT;have hyv:∀a:Act,a.eval y= .nilIface:=fun a=>by
   cases y with
   |const z=>cases z <;> simp[Kw]at hy;rfl
   |_=>simp[Kw]at hy
  split at h;{rename_i cc hx;refine⟨_,h,fun Γ w a s c hr=>?_⟩;have hxr:=hr x (by rw[ho];simp[ca]);rw[hx]at hxr;rcases q05 hxr with⟨rfl,hv⟩|⟨rfl,t,u,hv⟩;{refine Au.val (v:=.bool true) (w':=w) ?_ (BC.same c (Ch));unfold execOp;simp only[ho,hyv,hv];have:=(YR (P:=X.P) hu (x:=x) hy (v:=.nilIface) (.inl rfl) w).1;simp only[cu]at this ⊢;rw[this];rfl};{refine Au.val (v:=.bool false) (w':=w) ?_ (BC.same c (Ch));unfold execOp;simp only[ho,hyv,hv];have:=(YR (P:=X.P) hu (x:=x) hy (v:=.iface t u) (.inr ⟨_,_,rfl⟩) w).1;simp only[cu]at this ⊢;rw[this];rfl}};{rename_i cc hx;refine⟨_,h,fun Γ w a s c hr=>?_⟩;have hxr:=hr x (by rw[ho];simp[ca]);rw[hx]at hxr;rcases q05 hxr with⟨rfl,hv⟩|⟨rfl,t,u,hv⟩;{refine Au.val (v:=.bool false) (w':=w) ?_ (BC.same c (Ch));unfold execOp;simp only[ho,hyv,hv];have:=(YR (P:=X.P) hu (x:=x) hy (v:=.nilIface) (.inl rfl) w).2;simp only[cu]at this ⊢;rw[this];rfl};{refine Au.val (v:=.bool true) (w':=w) ?_ (BC.same c (Ch));unfold execOp;simp only[ho,hyv,hv];have:=(YR (P:=X.P) hu (x:=x) hy (v:=.iface t u) (.inr ⟨_,_,rfl⟩) w).2;simp only[cu]at this ⊢;rw[this];rfl}};{exact h.elim}
 ·exact h.elim
def z4h (hP:Aq X.P=true) {md} {dst:Nat} {o:Oper} {ρa K} (h:sl3 X md dst o ρa s K):
  ∃v s1,K v s1/\s1.A=s.A/\s1.env=s.env/\∀(Γ:G) (w:World) (a:Act),AQ Γ w s->(∀y∈o.op.operands,AG Γ (ρa y) (a.eval y))->Au X.P o a w (BC Γ w s1 v):=by
 unfold sl3 at h;split at h
 ·rename_i T x lo hi mx ho;obtain⟨_,hn,hhs,hms,h⟩:=h;split at h
  ·rename_i eb e ht;obtain⟨E,hu,rfl,_,hE⟩:=JD hP ht;split at h
   ·rename_i eb' e' cs hx;obtain⟨rfl,rfl,h⟩:=h;split at h
    ·rename_i l hh m hl hhi hm;obtain⟨rfl,h0,rfl,h2,hK⟩:=h;refine⟨_,_,hK,rfl,rfl,fun Γ w a c hr=>?_⟩;rw[ho]at hr;have r1:=hr x (by simp[ca]);have r2:∀y,lo=some y->AG Γ (ρa y) (a.eval y):=fun y e=>hr y (by subst e;simp[ca]);have r3:∀y,hi=some y->AG Γ (ρa y) (a.eval y):=fun y e=>hr y (by subst e;simp[ca]);have r4:∀y,mx=some y->AG Γ (ρa y) (a.eval y):=fun y e=>hr y (by subst e;simp[ca]);obtain⟨ad,n,cap,hv,hcs,hnc,z6C,hb,za⟩:=KP r1 hx;have hhn:hh.toNat<=n:=by omega
     have b1:lo.map a.eval=none/\(0:Nat)=0\/∃k,lo.map a.eval=some (.int k ((0:Nat):Int)):=by rcases Nm hl r2 with⟨rfl,_⟩|⟨k,y,rfl,hy⟩;{exact .inl ⟨rfl,rfl⟩};{exact .inr ⟨k,hy⟩}
     have b2:∃k,hi.map a.eval=some (.int k (hh.toNat:Int)):=by rcases Nm hhi r3 with⟨rfl,_⟩|⟨k,y,rfl,hy⟩;{cases hhs};{exact⟨k,by rw[hy,gr h0]⟩}
     have b3:∃k,mx.map a.eval=some (.int k (hh.toNat:Int)):=by rcases Nm hm r4 with⟨rfl,_⟩|⟨k,y,rfl,hy⟩;{cases hms};{exact⟨k,by rw[hy,gr h0]⟩}
     obtain⟨km,b3⟩:=b3;obtain⟨c1,p1,g1⟩:=c.DI hn (x:=none) (L:=(cs.take hh.toNat).length) (fun _ _ _ h=>by cases h);have hlen:(cs.take hh.toNat).length=hh.toNat:=by simp;omega
     have hcut:=lU za (dv hh.toNat) hhn;have z7N:AL Γ.H (.slice eb' (tyF X.P 11 E)) [.slice (if hh.toNat=0 then ad else ad.map (·.add (0*(tyF X.P 11 E).size))) hh.toNat hh.toNat] (.slice (cs.take hh.toNat)):=by obtain⟨a',n',z6g,e1,_,e2,e3,e4,e5,e6⟩:=Iv za;simp at e1;obtain⟨rfl,rfl,rfl⟩:=e1;simp only[C.elems]at e2 e6;refine Dm hlen (bx _) (by omega) (Nat.le_trans (bz _ hhn) hb) ?_;by_cases hz:hh.toNat=0;{exact .inl hz};{rcases e6 with e6|⟨b,off,ll,rfl,hb',hs',hc⟩;{omega};{refine .inr ⟨b,off,ll,?_,hb',?_,fun i c' hi=>?_⟩;{rw[if_neg hz];simp[Addr.add]};{have:hh.toNat*(tyF X.P 11 E).size<=n*(tyF X.P 11 E).size:=bz _ hhn;omega};{rw[fu]at hi;split at hi;{exact hc _ _ hi};{cases hi}}}}
     refine Au.val (v:=.slice (if hh.toNat=0 then ad else ad.map (·.add (0*(tyF X.P 11 E).size))) hh.toNat hh.toNat) (w':=w) ?_ ⟨_,g1,p1,c1,(Bi rfl rfl).2 ⟨?_,rfl⟩⟩;{unfold execOp;simp only[ho,hv,Instr.sliceAt,cu,run_underlying hu,cr,Instr.slice,b3];rw[q1C (n:=n) (l:=0) (h:=hh.toNat) (m:=hh.toNat) b1 b2 (dv _) (bx _) (by omega)];simp[Ix (f:=11) hP (w:=w) hE]};{simp only[AA];refine⟨_,hh.toNat,hh.toNat,rfl,z7N.mono p1.1,none,_,by simp[G.DI,BV],bx _,fun _=>rfl⟩}
    ·exact h.elim
   ·exact h.elim
  ·exact h.elim
 ·exact h.elim
end
end
section
def Ku {α:Type}:List (Key × α)->Key->Bool
 | [],_=>false|(j,_)::l,k=>decide (j=k)||Ku l k
def UO {α:Type}:List (Key × α)->Key->α->List (Key × α)
 | [],_,_=>[]|(j,x)::l,k,y=>if j=k then(j,y)::l else(j,x)::UO l k y
def Xc {α:Type} (l:List (Key × α)) (k:Key) (y:α):List (Key × α):=bif Ku l k then UO l k y else(k,y)::l
def Kv {α:Type}:List (Nat × α)->Nat->Bool
 | [],_=>false|(j,_)::l,k=>decide (j=k)||Kv l k
def LY {α:Type}:List (Nat × α)->Nat->α->List (Nat × α)
 | [],_,_=>[]|(j,x)::l,k,y=>if j=k then(j,y)::l else(j,x)::LY l k y
def PY {α:Type} (l:List (Nat × α)) (k:Nat) (y:α):List (Nat × α):=bif Kv l k then LY l k y else(k,y)::l
def zJ {α:Type}:∀(l:List (Key × α)) (k:Key) (y:α) (j:Key),Ku l k=true->AR (UO l k y) j=if k=j then some y else AR l j
 | [],_,_,_,h=>by simp[Ku]at h
 |(i,x)::l,k,y,j,h=>by
  simp only[UO];by_cases e:i=k;{subst e;simp only[if_true,AR];by_cases e2:i=j <;> simp[e2]}
  ·rw[if_neg e];simp only[AR];have h':Ku l k=true:=by simpa[Ku,e]using h
   rw[zJ l k y j h'];by_cases e2:i=j;{subst e2;simp[fun h:k=i=>e h.symm];intro h;exact absurd h.symm e};{simp[e2]}
def q8W {α:Type} (l:List (Key × α)) (k:Key) (y:α) (j:Key):AR (Xc l k y) j=if k=j then some y else AR l j:=by
 unfold Xc;cases h:Ku l k with
 |true=>exact zJ l k y j h|false=>rfl
def zR {α:Type}:∀(l:List (Nat × α)) (k:Nat) (y:α) (j:Nat),Kv l k=true->look (LY l k y) j=if k=j then some y else look l j
 | [],_,_,_,h=>by simp[Kv]at h
 |(i,x)::l,k,y,j,h=>by
  simp only[LY];by_cases e:i=k;{subst e;simp only[if_true,look];by_cases e2:i=j <;> simp[e2]}
  ·rw[if_neg e];simp only[look];have h':Kv l k=true:=by simpa[Kv,e]using h
   rw[zR l k y j h'];by_cases e2:i=j;{subst e2;simp;intro h;exact absurd h.symm e};{simp[e2]}
def SJ {α:Type} (l:List (Nat × α)) (k:Nat) (y:α) (j:Nat):look (PY l k y) j=if k=j then some y else look l j:=by
 unfold PY;cases h:Kv l k with
 |true=>exact zR l k y j h|false=>rfl
def S.put (s:S) (k:Key) (o:O):S:={s with loc:=Xc s.loc k o}
def S.tok (s:S) (t:Nat) (L:Option Nat):S:={s with tk:=PY s.tk t L}
def Dy:List (Nat × List Nat)->S->S
 | [],s=>s|(t,_)::σ,s=>Dy σ (s.tok t none)
def DN (s:S) (k j:Key) (o:O):(s.put k o).obj j=if k=j then some o else s.obj j:=by simp only[S.put,jj,Bx,q8W];by_cases h:k=j;{simp only[h,if_true]};{simp only[if_neg h]}
def eQ (s:S) (t u:Nat) (L:Option Nat):(s.tok t L).live u=if t=u then L else s.live u:=by simp only[S.tok,uq,EA,SJ];by_cases h:t=u;{subst h;simp only[if_true];cases L <;> rfl};{simp[h]}
def WR (s:S) (t u:Nat) (L:Option Nat):(s.tok t L).known u=(decide (t=u)||s.known u):=by simp only[S.tok,yg,SJ];by_cases h:t=u;{subst h;simp};{simp[h]}
def o7:∀(σ:List (Nat × List Nat)) (s:S) (k:Key),(Dy σ s).obj k=s.obj k
 | [],_,_=>rfl|(t,_)::σ,s,k=>by simp only[Dy,o7 σ];rfl
def yZ:∀(σ:List (Nat × List Nat)) (s:S) (u:Nat),(Dy σ s).live u=match look σ u with|some _=>none|none=>s.live u
 | [],_,_=>rfl|(t,p)::σ,s,u=>by simp only[Dy,yZ σ,eQ,look];by_cases h:t=u;{subst h;simp;cases look σ t <;> rfl};{simp[h]}
def dM:∀(σ:List (Nat × List Nat)) (s:S) (u:Nat),s.known u=true->(Dy σ s).known u=true
 | [],_,_,h=>h|(t,p)::σ,s,u,h=>by simp only[Dy];exact dM σ _ u (by rw[WR,h];simp)
def xK:∀(σ:List (Nat × List Nat)) (s:S) (u:Nat),look σ u≠none->(Dy σ s).known u=true
 | [],_,_,h=>by simp[look]at h
 |(t,p)::σ,s,u,h=>by simp only[Dy];by_cases e:t=u;{subst e;exact dM σ _ t (by rw[WR];simp)};{exact xK σ _ u (by simpa[look,e]using h)}
def Fu (d:Nat):List (Key × O)->S->S
 | [],s=>s|(k,o)::L,s=>(Fu d L s).put (dn d k) (o.ren (dn d))
def Gp (d:Nat):List (Nat × Option Nat)->S->S
 | [],s=>s|(m,x)::l,s=>(Gp d l s).tok (rk d m) x
def GK:List Nat->S->S
 | [],s=>s|t::l,s=>(GK l s).tok t none
def o8 (d:Nat):∀(L:List (Key × O)) (s:S) (k:Key),(Fu d L s).obj k=match AR (dnL d L) k with|some o=>some o|none=>s.obj k
 | [],_,_=>rfl|(j,o)::L,s,k=>by simp only[Fu,DN,dnL,AR,o8 d L s k];split <;> rfl
def q2p (d:Nat):∀(L:List (Key × O)) (s:S),(Fu d L s).tk=s.tk
 | [],_=>rfl|(j,o)::L,s=>by simp only[Fu,S.put,q2p d L s]
def zP (d:Nat):∀(l:List (Nat × Option Nat)) (s:S) (t:Nat),look (Gp d l s).tk t=match look (dnT d l) t with|some x=>some x|none=>look s.tk t
 | [],_,_=>rfl|(m,x)::l,s,t=>by simp only[Gp,S.tok,SJ,dnT,look,zP d l s t];split <;> rfl
def eW (d:Nat):∀(l:List (Nat × Option Nat)) (s:S),(Gp d l s).loc=s.loc/\(Gp d l s).A=s.A
 | [],_=>⟨rfl,rfl⟩|(m,x)::l,s=>by simp only[Gp,S.tok];exact eW d l s
def zL:∀(l:List Nat) (s:S) (t:Nat),look (GK l s).tk t=match look (HB l) t with|some x=>some x|none=>look s.tk t
 | [],_,_=>rfl|m::l,s,t=>by simp only[GK,S.tok,SJ,HB,look,zL l s t];split <;> rfl
def eV:∀(l:List Nat) (s:S),(GK l s).loc=s.loc/\(GK l s).A=s.A
 | [],_=>⟨rfl,rfl⟩|m::l,s=>by simp only[GK,S.tok];exact eV l s
def S.ret (s:S) (tip:Bool) (ys:List V) (d:Nat) (v:V) (L:List (Key × O)):S:=Gp d (v.tkR 2000) (GK (CR tip s ys) (Fu d L s))
def q1f (s:S) (tip:Bool) (ys:List V) (d:Nat) (v:V) (L:List (Key × O)) (k:Key):(s.ret tip ys d v L).obj k=(s.back tip ys d v L).obj k:=by have h1:=eW d (v.tkR 2000) (GK (CR tip s ys) (Fu d L s));have h2:=eV (CR tip s ys) (Fu d L s);have h3:=o8 d L s k;unfold jj at h3 ⊢;simp only[S.ret,h1.1,h1.2,h2.1,h2.2,h3];unfold Bx S.back;simp only[LH];cases AR (dnL d L) k <;> rfl
def q1g (s:S) (tip:Bool) (ys:List V) (d:Nat) (v:V) (L:List (Key × O)) (t:Nat):look (s.ret tip ys d v L).tk t=look (s.back tip ys d v L).tk t:=by simp only[S.ret,zP,zL,q2p,S.back,Md];cases look (dnT d (v.tkR 2000)) t <;> cases look (HB (CR tip s ys)) t <;> rfl
def gOk (s:S) (d:Nat):List (Key × O)->Prop
 | []=>True|(.g k,_)::L=>(s.obj k).isSome=true/\gOk s d L|(.l j,_)::L=>s.obj (.l (rk d j))=none/\gOk s d L
def tOk (s:S) (d:Nat):List (Nat × Option Nat)->Prop
 | []=>True|(m,_)::l=>s.known (rk d m)=false/\tOk s d l
def cS {s:S} {d:Nat}:∀{L:List (Key × O)} {k:Key} {o:O},gOk s d L->AR L (.g k)=some o->s.obj k≠none
 | [],_,_,_,h=>by simp[AR]at h
 |(.g j,o')::L,k,o,hg,h=>by simp only[AR]at h;split at h;{rename_i e;cases e;have:=hg.1;intro h';rw[h']at this;cases this};{exact cS hg.2 h}
 |(.l j,o')::L,k,o,hg,h=>by simp[AR]at h;exact cS hg.2 h
def cT {s:S} {d:Nat}:∀{L:List (Key × O)} {j:Nat} {o:O},gOk s d L->AR L (.l j)=some o->s.obj (.l (rk d j))=none
 | [],_,_,_,h=>by simp[AR]at h
 |(.l i,o')::L,j,o,hg,h=>by simp only[AR]at h;split at h;{rename_i e;cases e;exact hg.1};{exact cT hg.2 h}
 |(.g i,o')::L,j,o,hg,h=>by simp[AR]at h;exact cT hg.2 h
def q2h {s:S} {d:Nat}:∀{l:List (Nat × Option Nat)} {m:Nat} {x:Option Nat},tOk s d l->look l m=some x->s.known (rk d m)=false
 | [],_,_,_,h=>by simp[look]at h
 |(i,y)::l,m,x,hg,h=>by simp only[look]at h;split at h;{rename_i e;subst e;exact hg.1};{exact q2h hg.2 h}
def top (X:Cx) (md:List (Nat × Nat)) (dst:Nat) (o:Oper) (ρ:Operand->V) (s:S) (K:V->S->Prop):Prop:=
 match o.op with
 | .store T p y=>(match ρ p with
   | .ptr k q τ=>(match s.obj k with
     |some (.box x)=>τ=ty X.P T/\τ.known=true/\(Bm τ (ρ y)).ty=τ/\(Bm τ (ρ y)).plain=true/\x.at q≠.any/\x.ty.Cl=true/\(Bm τ (ρ y)).okH=true/\
       K .any (Dy ((Bm τ (ρ y)).sites s.live q) (s.put k (.box (x.setAt q ((Bm τ (ρ y)).Bh ((Bm τ (ρ y)).sites s.live q) s.live q)))))
     |_=>False)
   |_=>False)
 | .box _ x=>(ρ x).plain=true/\(ρ x).okH=true/\s.obj (.l dst)=none/\
   K (.ptr (.l dst) [] (ρ x).ty) (Dy ((ρ x).sites s.live []) (s.put (.l dst) (.box ((ρ x).Bh ((ρ x).sites s.live []) s.live []))))
 | .load T x=>(match ρ x with| .ptr k q τ=>(match s.obj k with|some (.box y)=>(match y.at q with| .ts eb e cs=>Bu md dst=1/\τ=ty X.P T/\τ= .slice eb e/\y.ty.Cl=true/\s.known dst=false/\K (.sl eb e cs dst) ((s.put k (.box (y.setAt q (.d (.slice eb e) (.slice cs))))).tok dst (some cs.length))|_=>False)|_=>False)|_=>False)
 | .mapUpdate T x i y=>(match HV X.P T,ρ x with
   |some (kt,et),.mp k=>(match s.obj k with
     |some (.map kτ vτ es)=>kτ=ty X.P kt/\vτ=ty X.P et/\Cw X.P kt=true/\kτ.flat=true/\(ρ i).DM kτ/\(Bm vτ (ρ y).Bj).ty=vτ/\(Bm vτ (ρ y).Bj).plain=true/\(Bm vτ (ρ y).Bj).Ay=true/\
       K .any (s.put k (.map kτ vτ (EK es (ρ i).toC (Bm vτ (ρ y).Bj))))
     |_=>False)
   |_,_=>False)
 | .call c=>(match c.callee with
   | .value fo=>(match ρ fo with
     | .fn f yp=>Hn X.P f=true/\c.argTypes.toList.length=c.args.toList.length/\GX (CR (Bu md dst==1) s (EF (c.args.toList.map ρ) yp))=true/\
      ∃v L,Bo X f (CU X.P (Bu md dst==1) s (Jp c.argTypes.toList yp) (EF (c.args.toList.map ρ) yp)) s.up v L/\gOk s dst L/\tOk s dst (v.tkR 2000)/\
       K ((v.CY 2000).ren (dn dst) (rk dst)) (s.ret (Bu md dst==1) (EF (c.args.toList.map ρ) yp) dst v L)
     |_=>False)
   | .builtin .append=>(match c.args.toList,c.argTypes.toList with
     | [x,y],[t,t']=>CB X.P (Al X.P t)=true/\(match ty X.P t,ρ x with
       | .slice eb e,.sl eb' e' cs tk=>eb'=eb/\e'=e/\s.live tk=some cs.length/\
         IQ X.P s t' eb e (ρ y) fun ys=>(cs.length+ys.length)*eb<=140737488355328/\cs.length+ys.length<=maxLen/\K (.sl eb e (cs++ys) tk) (s.tok tk (some (cs.length+ys.length)))
       | .slice eb e,.sr k [] 0 n none eb' e'=>(match s.obj k with
         |some (.box (.d (.arr M e2) cc))=>eb'=eb/\e'=e/\e2=e/\∃d,s.obj (.l d)=none/\
           IQ X.P s t' eb e (ρ y) fun ys=>(n+ys.length)*eb<=140737488355328/\n+ys.length<=maxLen/\
            K (.sr (.l d) [] 0 (n+ys.length) none eb e) ((s.put k (.dead (.arr M e))).put (.l d) (.box (.d (.arr (n+ys.length) e) (.agg (cc.elems.take n++ys)))))
         |_=>False)
       |_,_=>False)
     |_,_=>False)
   | .builtin .copy=>(match c.args.toList,c.argTypes.toList with
     | [x,y],[t,t']=>CB X.P (Al X.P t)=true/\(match ty X.P t,ρ x with
       | .slice eb e,.sr k q lo n (some _) eb' e'=>(match s.obj k with
         |some (.box Z)=>(match Z.at q with
          | .d (.arr m e2) cc=>eb'=eb/\e'=e/\e2=e/\Z.ty.Cl=true/\0<n/\
            IQ X.P s t' eb e (ρ y) fun ys=>K (.d (.int .i64) (.int (min ys.length n:Nat))) (s.put k (.box (Z.setAt q (.d (.arr m e) (.agg (Ck cc.elems lo n ys))))))
          |_=>False)
         |_=>False)
       |_,_=>False)
     |_,_=>False)
   |_=>False)
 |_=>False
def oT (X:Cx) (o:Oper) (ρ:Operand->V) (s:S) (v:V) (s1:S):Prop:=
 s1.A=s.A/\s1.env=s.env/\∀(Γ:G) (w:World) (a:Act),Γ.gl=X.gl->AQ Γ w s->(∀y∈o.op.operands,AG Γ (ρ y) (a.eval y))->Au X.P o a w (BC Γ w s1 v)
section
variable {X:Cx} {Γ:G} {w:World} {s:S}
def BC.congr {s1 s2:S} {x v w'} (h:BC Γ w s1 x v w') (h1:∀k,s2.obj k=s1.obj k) (h2:∀t,s2.live t=s1.live t) (h3:∀t,s1.known t=true->s2.known t=true):BC Γ w s2 x v w':=by obtain⟨Γ',a,b,c,d⟩:=h;exact⟨Γ',a,b,c.congr h1 h2 h3,d⟩
def RQ:∀(σ:List (Nat × List Nat)) (s:S),(Dy σ s).env=s.env/\(Dy σ s).A=s.A
 | [],_=>⟨rfl,rfl⟩|(t,_)::σ,s=>by simp only[Dy];exact RQ σ _
def bS (d:Nat):∀(L:List (Key × O)) (s:S),(Fu d L s).env=s.env/\(Fu d L s).A=s.A
 | [],_=>⟨rfl,rfl⟩|_::L,s=>by simp only[Fu,S.put];exact bS d L s
def uA (d:Nat):∀(l:List (Nat × Option Nat)) (s:S),(Gp d l s).env=s.env
 | [],_=>rfl|_::l,s=>by simp only[Gp,S.tok];exact uA d l s
def tZ:∀(l:List Nat) (s:S),(GK l s).env=s.env
 | [],_=>rfl|_::l,s=>by simp only[GK,S.tok];exact tZ l s
def q1e (tip:Bool) (ys:List V) (d:Nat) (v:V) (L:List (Key × O)):(s.ret tip ys d v L).env=s.env/\(s.ret tip ys d v L).A=s.A:=by unfold S.ret;exact⟨by rw[uA,tZ,(bS d L s).1],by rw[(eW _ _ _).2,(eV _ _).2,(bS d L s).2]⟩
def zA {s s':S} (h:∀t,look s.tk t=look s'.tk t) (t:Nat):s.live t=s'.live t:=by unfold uq EA;rw[h]
def xL {s s':S} (h:∀t,look s.tk t=look s'.tk t) (t:Nat):s.known t=s'.known t:=by unfold yg;rw[h]
def xI {σ:List (Nat × List Nat)} {k:Key} {o:O} {x:V} {v:Value} {w':World} (h:BC Γ w {s with loc:=(k,o)::s.loc,tk:=Jq σ++s.tk} x v w'):BC Γ w (Dy σ (s.put k o)) x v w':=by refine h.congr (fun j=>?_) (fun t=>?_) (fun t ht=>?_);{rw[o7,DN];exact(CX {s with tk:=Jq σ++s.tk} k j o).symm};{rw[yZ];unfold uq EA;simp only[Wl];cases look σ t <;> rfl};{unfold yg at ht;simp only[Wl]at ht;cases hs:look σ t with|none=>rw[hs]at ht;exact dM σ _ t ht|some p=>exact xK σ _ t (by rw[hs];simp)}
def Yk (hP:Aq X.P=true) {md} {dst:Nat} {o ρ K} (h:top X md dst o ρ s K):∃v s1,K v s1/\oT X o ρ s v s1:=by
 unfold top at h;split at h;{rename_i T p y ho;split at h;{rename_i k q τ hp;split at h;{rename_i x yr;obtain⟨h1,h2,h3,h4,h5,h6,h7,hK⟩:=h;refine⟨_,_,hK,by rw[(RQ _ _).2];rfl,by rw[(RQ _ _).1];rfl,fun Γ w a _ c hr=>?_⟩;have hpr:=hr p (by rw[ho];simp[ca]);rw[hp]at hpr;have:=q5I (Y:=ρ y) hP c ho hpr (hr y (by rw[ho];simp[ca])) yr h1 h2 h3 h4 h5 h6 h7;exact this.mono fun v w' zm=>xI zm};{exact h.elim}};{exact h.elim}};{rename_i T x ho;obtain⟨h1,h2,h3,hK⟩:=h;refine⟨_,_,hK,by rw[(RQ _ _).2];rfl,by rw[(RQ _ _).1];rfl,fun Γ w a _ c hr=>?_⟩;exact(q5u c ho h3 (hr x (by rw[ho];simp[ca])) h1 h2).mono fun v w' zm=>xI zm}
 ·rename_i T x ho;split at h
  ·rename_i k q τ hx;split at h
   ·rename_i y yr;split at h
    ·rename_i eb e cs hat;obtain⟨_,h2,h3,h4,h5,hK⟩:=h;refine⟨_,_,hK,rfl,rfl,fun Γ w a _ c hr=>?_⟩;have hxr:=hr x (by rw[ho];simp[ca]);rw[hx]at hxr;obtain⟨b,τ0,o0,hι,hw,hv⟩:=Gr hxr;obtain⟨u,r1,r2⟩:=eS (T:=T) hP c hxr yr (by rw[hat];simp) h2 (by rw[h3];rfl);rw[hat]at r2;simp only[view]at r2;obtain⟨aa,n,cap,e1,_⟩:=KP (eb:=eb) (e:=e) (cs:=cs) r2 (by simp[V.Ej,C.elems]);subst e1;rw[h3]at hw;have z5Y:w.cell? ⟨b,o0,none⟩=some (.slice aa n cap):=by
      have r1':=r1;rw[hv]at r1';simp only[kx,jv,cu,fb,cr]at r1';obtain⟨b2,cells,E,e1,_,_,e4,e5,e6,e7,_⟩:=c.own hι yr;rw[hι]at e1;cases e1;obtain⟨g1,g2,g3⟩:=e6.at_ hw (by rw[hat];simp) e7;have hcl:(chunk cells.toList 0 y.ty.size).length=y.ty.size:=Dt _ _ _ (by simpa using e5);rw[hcl]at g2;simp only[iy]at g2
      obtain⟨u',q1,q2,q3⟩:=YQ (T:=T) (E:=E) (fr:=(0,0)) (off:=o0) hP (h2.symm.trans h3) rfl e4 (by simp only[iy];omega) (by
       have:=g3.one (by rw[hat];rfl);simp only[iy]at this ⊢
       rwa [EG _ _ _ _ _ (by omega),Nat.zero_add]at this)
      rw[r1']at q1;cases q1;simp only[fc,iy]at q2;have:(chunk cells.toList o0 1)[0]? =some (.slice aa n cap):=by rw[<-q2];rfl
      rw[Df]at this;simp at this;simp[World.cell?,e4,this]
     obtain⟨Γ',t1,t2,t3,t4⟩:=c.take (t:=dst) yr hat h4 h5 hι hw z5Y;refine Au.val (v:=.slice aa n cap) (w':=w) (by unfold execOp;simp[ho,r1]) ⟨Γ',t1,t2,t3.congr (fun j=>?_) (fun t=>?_) (fun t ht=>?_),t4⟩;{refine(DN s k j _).trans ?_;exact(CX {s with tk:=(dst,some cs.length)::s.tk} k j _).symm};{refine(eQ _ dst t _).trans ?_;exact(Mb {s with loc:=(k,.box (y.setAt q (.d (.slice eb e) (.slice cs))))::s.loc} dst t (some cs.length)).symm};{rw[WR];exact(MZ {s with loc:=(k,.box (y.setAt q (.d (.slice eb e) (.slice cs))))::s.loc} dst t (some cs.length)).symm.trans ht}
    ·exact h.elim
   ·exact h.elim
  ·exact h.elim
 ·rename_i T x i y ho;split at h
  ·rename_i kt et k hT hx;split at h
   ·rename_i kτ vτ es yr;obtain⟨rfl,rfl,h1,h2,h3,h4,h5,h6,hK⟩:=h;refine⟨_,_,hK,rfl,rfl,fun Γ w a _ c hr=>?_⟩;have hxr:=hr x (by rw[ho];simp[ca]);rw[hx]at hxr;have hir:=hr i (by rw[ho];simp[ca]);have hd:ρ i= .d (ty X.P kt) (ρ i).toC:=by cases hi:ρ i <;> simp[hi,V.DM]at h3;subst h3;rfl
    rw[hd]at hir;exact(q5G hP c ho hT hxr hir (ZT (hr y (by rw[ho];simp[ca])).Bj) yr h1 h2 h4 h5 h6).mono fun v w' zm=>zm.congr (fun j=>(DN s k j _).trans (CX s k j _).symm) (fun _=>rfl) (fun _ h=>h)
   ·exact h.elim
  ·exact h.elim
 ·rename_i cl ho;obtain⟨callee,args,ts⟩:=cl;split at h
  ·rename_i fo hfo;simp only at hfo h;subst hfo;split at h
   ·rename_i f yp hf;obtain⟨h1,h2,h3,v,L,D,hg,ht,hK⟩:=h;refine⟨_,_,hK,(q1e ..).2,(q1e ..).1,fun Γ w a hgl c hr=>?_⟩;have hrf:=hr fo (by rw[ho];simp[ca,dz]);rw[hf]at hrf
    have:=sV (A:=s.up) (d:=dst) rfl hgl c ho h1 h2 hrf (fun y hy=>hr y (by rw[ho];simp only[ca,dz];exact jg _ (kv.1 hy))) h3 D (fun _ _ h=>h)
     (fun k o hk=>cS hg hk) (fun j o hj=>cT hg hj) (fun m x hm=>q2h ht hm)
    exact this.mono fun v' w' zm=>zm.congr (fun k=>q1f ..) (fun t=>zA (fun t=>q1g ..) t) (fun t hk=>by rw[xL (fun t=>q1g ..)];exact hk)
   ·exact h.elim
  ·rename_i hb;simp only at hb h;subst hb;split at h
   ·rename_i x y t t' yz hts;have z55:args=#[x,y]:=by cases args;simpa using yz
    have z6j:ts=#[t,t']:=by cases ts;simpa using hts
    subst z55;subst z6j;obtain⟨h1,h⟩:=h;split at h;{rename_i eb e eb' e' cs tk htt hx;obtain⟨rfl,rfl,hl,h⟩:=h;obtain⟨ys,⟨b1,b2,hK⟩,hs⟩:=Uf hP h;refine⟨_,_,hK,rfl,rfl,fun Γ w a _ c hr=>?_⟩;have hyr:=hr y (by rw[ho];simp[ca,dz]);have hxr:=hr x (by rw[ho];simp[ca,dz]);rw[hx]at hxr;exact(q5q hP c ho htt h1 hl hxr hyr hs b1 b2).mono fun v w' zm=>zm.congr (fun _=>rfl) (fun u=>(eQ s tk u _).trans (Mb s tk u _).symm) (fun u hu=>by rw[WR];exact(MZ s tk u _).symm.trans hu)};{rename_i eb e k n eb' e' htt hx;split at h;{rename_i M e2 cc yr;obtain⟨rfl,rfl,rfl,d,hd,h⟩:=h;obtain⟨ys,⟨b1,b2,hK⟩,hs⟩:=Uf hP h;refine⟨_,_,hK,rfl,rfl,fun Γ w a _ c hr=>?_⟩;have hyr:=hr y (by rw[ho];simp[ca,dz]);have hxr:=hr x (by rw[ho];simp[ca,dz]);rw[hx]at hxr;exact(q5r hP c ho htt h1 hd yr hxr hyr hs b1 b2).mono fun v w' zm=>zm.congr (fun j=>by rw[DN,DN];rw[show jj {s with loc:=(Key.l d,O.box (.d (.arr (n+ys.length) _) (.agg (cc.elems.take n++ys))))::(k,O.dead _)::s.loc} j=jj {({s with loc:=(k,O.dead _)::s.loc}:S)with loc:=(Key.l d,_)::({s with loc:=(k,O.dead _)::s.loc}:S).loc} j from rfl,CX,CX]) (fun u=>rfl) (fun u hu=>hu)};{exact h.elim}};{exact h.elim}
   ·exact h.elim
  ·rename_i hb;simp only at hb h;subst hb;split at h
   ·rename_i x y t t' yz hts;have z55:args=#[x,y]:=by cases args;simpa using yz
    have z6j:ts=#[t,t']:=by cases ts;simpa using hts
    subst z55;subst z6j;obtain⟨h1,h⟩:=h;split at h;{rename_i eb e k q lo n cp eb' e' htt hx;split at h;{rename_i Z yr;split at h;{rename_i m e2 cc hZ;obtain⟨rfl,rfl,rfl,hd,h0,h⟩:=h;obtain⟨ys,hK,hs⟩:=Uf hP h;refine⟨_,_,hK,rfl,rfl,fun Γ w a _ c hr=>?_⟩;have hyr:=hr y (by rw[ho];simp[ca,dz]);have hxr:=hr x (by rw[ho];simp[ca,dz]);rw[hx]at hxr;exact(q5B hP c ho htt yr hZ hd h0 h1 hxr hyr hs).mono fun v w' zm=>zm.congr (fun j=>by rw[DN,CX]) (fun u=>rfl) (fun u hu=>hu)};{exact h.elim}};{exact h.elim}};{exact h.elim}
   ·exact h.elim
  ·exact h.elim
 ·exact h.elim
end
end
section
def At (X:Cx) (n:Nat) (Γ0:G) (s:S) (a:Act) (w:World):Prop:=
 ∃Γ,GLe Γ0 Γ/\Γ.gl=X.gl/\AQ Γ w s/\GD Γ s a.tmps/\a.tmps.size=n/\a.defers=[]/\AOk s.A
def S.set (s:S) (d:Option Nat) (x:V):S:=
 match d with
 |some d=>{s with env:=PY s.env d x}|none=>s
def FR (s:S):List (Key × O)->Prop
 | []=>True|(k,_)::l=>s.obj k=none/\FR s l
def FT (s:S):List (Nat × Option Nat)->Prop
 | []=>True|(t,_)::l=>s.known t=false/\FT s l
def WB {s lo tn} (h:FR s lo) (h':FT s tn):Uw s lo tn:=by
 constructor
 ·induction lo with
  |nil=>intro k o hk;simp[AR]at hk|cons x lo ih=>
   intro k o hk;simp only[AR]at hk;split at hk;{rename_i e;rw[<-e];exact h.1};{exact ih h.2 k o hk}
 ·induction tn with
  |nil=>intro k o hk;simp[look]at hk|cons x tn ih=>
   intro k o hk;simp only[look]at hk;split at hk;{rename_i e;rw[<-e];exact h'.1};{exact ih h'.2 k o hk}
def zX (X:Cx) (dst:Nat) (o:Oper) (s:S) (K:V->S->Prop):Prop:=
  (iop X [] (Dh (GV (o.op.operands.toList.map (Ak X.gl s))) s) dst o (fun y=>Ca s (Ak X.gl s y)) (Dh (GV (o.op.operands.toList.map (Ak X.gl s))) s)
   (fun v lo tn=>FR (Dh (GV (o.op.operands.toList.map (Ak X.gl s))) s) lo/\FT (Dh (GV (o.op.operands.toList.map (Ak X.gl s))) s) tn/\K v ((Dh (GV (o.op.operands.toList.map (Ak X.gl s))) s).add lo tn))\/
  top X [] dst o (fun y=>Ca s (Ak X.gl s y)) (Dh (GV (o.op.operands.toList.map (Ak X.gl s))) s) K)
def lop (X:Cx) (md:List (Nat × Nat)) (dst:Nat) (o:Oper) (s:S) (K:V->S->Prop):Prop:=Bu md dst=100/\zX X dst o s K
def ae:∀{xs:List V} {x:V} {j:Nat},x∈xs->j∈Fs x->j∈GV xs
 |y::ys,x,j,hx,hj=>by simp only[GV,dw];rcases fz.1 hx with rfl|hx;{exact .inl hj};{exact .inr (ae hx hj)}
def SE:∀(js:List Nat) (s:S),(Dh js s).env=s.env/\(Dh js s).A=s.A
 | [],s=>⟨rfl,rfl⟩|j::l,s=>by simp only[Dh];have:=SE l (match s.obj (.l j)with|some (.box (.d τ _))=>(match τ with| .arr M e=>{s with loc:=(.l j,.dead (.arr M e))::s.loc}|_=>s)|_=>s);refine⟨this.1.trans ?_,this.2.trans ?_⟩ <;> (split <;> (try rfl);split <;> rfl)
def sop (X:Cx) (md:List (Nat × Nat)) (dst:Nat) (o:Oper) (s:S) (K:V->S->Prop):Prop:=
 lop X md dst o s K\/(Bu md dst≠1/\iop X md s dst o (Ak X.gl s) s (fun v lo tn=>FR s lo/\FT s tn/\K v (s.add lo tn)))\/top X md dst o (Ak X.gl s) s K\/(fop X o (Ak X.gl s) fun v=>K v s)\/sl3 X md dst o (Ak X.gl s) s K
def GS (ops:Array Oper) (j:Nat):Option Nat:=(ops[j]?).bind (·.dst)
def Ab (o:Oper):Nat:=o.dst.getD 0
def gk (b want:Bool) (p q:Prop):Prop:=(b=want->p)/\(b≠want->q)
def EV (p q:Prop):gk true true p q=p:=by simp[gk]
def ER (p q:Prop):gk false false p q=p:=by simp[gk]
def EU (p q:Prop):gk true false p q=q:=by simp[gk]
def ES (p q:Prop):gk false true p q=q:=by simp[gk]
def gv (ops:Array Oper) (s:S) (j:Nat):V:=match GS ops j with|none=>.any|some t=>s.get t
def gx (x:V) (want:Bool) (p q:Prop):Prop:=match x with| .d .bool c=>gk c.toBool want p q| .tup []=>q|_=>False
def vc (X:Cx) (md:List (Nat × Nat)) (ops:Array Oper) (Φ:S->Prop):List Oper->S->Prop
 | [],s=>Φ s|o::rest,s=>match o.guard with|none=>sop X md (Ab o) o s fun v s'=>vc X md ops Φ rest (s'.set o.dst v)|some (j,want)=>gx (gv ops s j) want (sop X md (Ab o) o s fun v s'=>vc X md ops Φ rest (s'.set o.dst v)) (vc X md ops Φ rest (s.set o.dst (.tup [])))
def q08 {Γ}:AG Γ (.tup []) undef:=⟨#[],rfl,by simp[BF]⟩
def Jw (s:S) (d:Option Nat) (v:V) (t:Nat):(s.set d v).get t=if d=some t then v else s.get t:=by
 cases d with
 |none=>simp[S.set]|some d=>
  simp only[S.set,S.get,SJ];by_cases h:d=t;{simp[h]}
  ·have:¬(some d=some t):=by intro e;cases e;exact h rfl
   simp[h]
section
variable {X:Cx} {n:Nat} {Γ0:G}
def z4n {Γ} {s:S} {a:Act} {d:Option Nat} {x v} (hs:GD Γ s a.tmps) (hd:∀t,d=some t->t<a.tmps.size) (hx:AG Γ x v):
  GD Γ (s.set d x) (a.put d v).tmps:=by
 intro i;rw[Jw];cases d with
 |none=>simpa[sg]using hs i|some t=>
  have:=hd t rfl;by_cases h:t=i;{subst h;simp only[sg,if_true];simp[this];exact hx}
  ·have h':¬(some t=some i):=by intro e;cases e;exact h rfl
   rw[if_neg h'];have:=hs i;simpa[sg,Array.getElem?_setIfInBounds_ne h]using this
def Qr {Γ w} {s:S} (c:AQ Γ w s) (d:Option Nat) (x:V):AQ Γ w (s.set d x):=by
 cases d with
 |none=>exact c|some t=>exact c.env _
def Vr {Γ:G} {w} {s s':S} {a:Act} (hgl:Γ.gl=X.gl) (c:AQ Γ w s') (hs:∀t,AG Γ (s.get t) (a.tmps.getD t undef)) {y} (hy:XM y=true):AG Γ (Ak X.gl s y) (a.eval y):=by
 cases y with
 |tmp t=>exact hs t|func f=>
  show AG Γ (.fn f []) (.func (.func f) #[] #[]);exact(Bd rfl).2 ⟨by simp[AA,BF,fc],by simp[pz,jb,BJ]⟩
 |global g=>
  simp only[Ak];cases hg:X.gl g with
  |none=>simp[AG]|some x=>
   obtain⟨τ,cc⟩:=x;obtain⟨l,h1,h2,h3⟩:=c.hgl g τ cc (by rw[hgl];exact hg);exact Mz h1 (by simpa using h2) h3
 |const v=>
  simp only[Ak,Act.eval];unfold aL;simp only[XM]at hy;split;{simp[aK]at hy;exact DA hy.1 hy.2};{exact Ch};{simp[aK]at hy;rename_i str;exact UK (l:=str.data.toList) (by simpa using hy)};{exact(Bd rfl).2 ⟨by simp[AA,AL,fc],by simp[pz,jb,BJ]⟩};{exact(Bd rfl).2 ⟨by simp[AA,fc],by simp[pz,jb,BJ]⟩};{exact(Bd rfl).2 ⟨by simp[AA,AL,fc],by simp[pz,jb,BJ]⟩};{exact(Bd rfl).2 ⟨by simp[AA,AL,fc],by simp[pz,jb,BJ]⟩};{exact(Bd rfl).2 ⟨by simp[AA,AL,fc],by simp[pz,jb,BJ]⟩};{simp[AG]}
def Lz {s:S} {a:Act} {w} {d:Option Nat} {x} (hd:match d with|some d=>decide (d<n)=true|none=>True) {Γ:G} (h1:GLe Γ0 Γ) (h3:Γ.gl=X.gl) (c:AQ Γ w s) (hs:GD Γ s a.tmps) (hn:a.tmps.size=n) (hf:a.defers=[]/\AOk s.A) {v} (hx:AG Γ x v):
  At X n Γ0 (s.set d x) (a.put d v) w:=by
 refine⟨Γ,h1,h3,Qr c d x,z4n hs (fun t ht=>?_) hx,?_,?_,?_⟩;{subst ht;simp at hd;omega};{cases d <;> simp[sg,hn]};{cases d <;> simp[sg,hf.1]};{cases d <;> exact hf.2}
def Lf {Γ} {s s':S} {t} (h:s'.env=s.env) (hs:GD Γ s t):GD Γ s' t:=fun i=>by have:=hs i;simp only[S.get]at this ⊢;rw[h];exact this
def z4r (hP:Aq X.P=true) {md} {o:Oper} {s K} (hok:IG n o=true) (h:sop X md (Ab o) o s K) {a:Act} {w} (hat:At X n Γ0 s a w):
  Au X.P o a w fun u w'=>∃v s',K v s'/\At X n Γ0 (s'.set o.dst v) (a.put o.dst u) w':=by
 obtain⟨Γ,g1,g3,c,hs,hn,hf⟩:=hat;simp only[IG,az,Array.all_eq_true']at hok;have hd:match o.dst with|some d=>decide (d<n)=true|none=>True:=by
  cases ho:o.dst with
  |none=>trivial|some d=>have:=hok.2;rw[ho]at this;exact this
 have zj:∀y∈o.op.operands,AG Γ (Ak X.gl s y) (a.eval y):=fun y hy=>Vr g3 c hs (hok.1 y hy);rcases h with⟨_,h⟩|⟨_,h⟩|h|h|h
 ·obtain⟨Γ1,gl1,p1,c1,hcv⟩:=Wh (GV (o.op.operands.toList.map (Ak X.gl s))) s c
  have z7g:∀y∈o.op.operands,AG Γ1 (Ca s (Ak X.gl s y)) (a.eval y):=fun y hy=>
   hcv _ _ (zj y hy) fun j hj=>ae (List.mem_map_of_mem (by simpa using hy)) hj
  have zq:=SE (GV (o.op.operands.toList.map (Ak X.gl s))) s;have hs1:GD Γ1 (Dh (GV (o.op.operands.toList.map (Ak X.gl s))) s) a.tmps:=Lf zq.1 (hs.BN p1);have g31:Γ1.gl=X.gl:=gl1.gl.trans g3;rcases h with h|h;{obtain⟨v,lo,tn,⟨hf1,hf2,hK⟩,hI⟩:=MV hP h;refine(hI Γ1 w a _ g31 c1 ⟨fun _ _ h _=>h,fun _ _ h=>h⟩ (WB hf1 hf2) z7g).mono ?_;rintro u w' ⟨Γ',gle,hp,c',hv⟩;exact⟨_,_,hK,Lz hd ((g1.trans gl1).trans gle) (gle.gl.trans g31) c' (Lf (s:=Dh (GV (o.op.operands.toList.map (Ak X.gl s))) s) rfl (hs1.BN hp)) hn ⟨hf.1,by show AOk (Dh _ s).A;rw[zq.2];exact hf.2⟩ hv⟩};{obtain⟨v,s1,hK,hsA,he,hT⟩:=Yk hP h;refine(hT Γ1 w a g31 c1 z7g).mono ?_;rintro u w' ⟨Γ',gle,hp,c',hv⟩;exact⟨_,_,hK,Lz hd ((g1.trans gl1).trans gle) (gle.gl.trans g31) c' (Lf he (hs1.BN hp)) hn ⟨hf.1,by rw[hsA,zq.2];exact hf.2⟩ hv⟩}
 ·obtain⟨v,lo,tn,⟨hf1,hf2,hK⟩,hI⟩:=MV hP h;refine(hI Γ w a s g3 c ⟨fun _ _ h _=>h,fun _ _ h=>h⟩ (WB hf1 hf2) zj).mono ?_;rintro u w' ⟨Γ',gle,hp,c',hv⟩;exact⟨_,_,hK,Lz hd (g1.trans gle) (gle.gl.trans g3) c' (Lf rfl (hs.BN hp)) hn hf hv⟩
 ·obtain⟨v,s1,hK,hsA,he,hT⟩:=Yk hP h;refine(hT Γ w a g3 c zj).mono ?_;rintro u w' ⟨Γ',gle,hp,c',hv⟩;exact⟨_,_,hK,Lz hd (g1.trans gle) (gle.gl.trans g3) c' (Lf he (hs.BN hp)) hn ⟨hf.1,by rw[hsA];exact hf.2⟩ hv⟩
 ·obtain⟨v,hK,hI⟩:=cH hP h;refine(hI Γ w a s c zj).mono ?_;rintro u w' ⟨Γ',gle,hp,c',hv⟩;exact⟨_,_,hK,Lz hd (g1.trans gle) (gle.gl.trans g3) c' (Lf rfl (hs.BN hp)) hn hf hv⟩
 ·obtain⟨v,s1,hK,hsA,he,hT⟩:=z4h hP h;refine(hT Γ w a c zj).mono ?_;rintro u w' ⟨Γ',gle,hp,c',hv⟩;exact⟨_,_,hK,Lz hd (g1.trans gle) (gle.gl.trans g3) c' (Lf he (hs.BN hp)) hn ⟨hf.1,by rw[hsA];exact hf.2⟩ hv⟩
end
def DC (X:Cx) (n:Nat) (c:Code) (s:S) (Ψ:Exit->S->Prop):Prop:=
 ∀(Γ0:G) (a:Act) (w:World),At X n Γ0 s a w->c.wp X.P (fun e a w=>∃s',Ψ e s'/\At X n Γ0 s' a w) a w
def DS (X:Cx) (n:Nat) (s s':S):Prop:=∀(Γ0:G) (a:Act) (w:World),At X n Γ0 s a w->At X n Γ0 s' a w
section
variable {X:Cx} {n:Nat} {s:S} {Ψ:Exit->S->Prop}
def q61 {Γ ops} {a:Act} {o:Oper} {j t:Nat} {want b:Bool} (hg:o.guard=some (j,want)) (ht:GS ops j=some t)
  (hs:AG Γ (.d .bool (.bool b)) (a.tmps.getD t undef)):jk o (yielded ops a.tmps)=(b==want):=by
 have e2:a.tmps.getD t undef= .bool b:=(Fa hs).1;have z7O:a.tmps[t]? =some (.bool b):=by
  rw[im]at e2;cases h:a.tmps[t]? with
  |none=>rw[h]at e2;simp[undef]at e2|some v=>rw[h]at e2;simp at e2;rw[e2]
 simp only[GS]at ht;simp[jk,hg,yielded,ht,z7O]
def wK {Γ ops} {a:Act} {o:Oper} {j t:Nat} {want:Bool} {c:C} (hg:o.guard=some (j,want)) (ht:GS ops j=some t)
  (hs:AG Γ (.d .bool c) (a.tmps.getD t undef)):jk o (yielded ops a.tmps)=(c.toBool==want):=by
 obtain⟨_,e⟩:=Fa hs;rw[e]at hs;exact q61 hg ht hs
def wL {Γ ops} {a:Act} {o:Oper} {j t:Nat} {want:Bool} (hg:o.guard=some (j,want)) (ht:GS ops j=some t)
  (hs:AG Γ (.tup []) (a.tmps.getD t undef)):jk o (yielded ops a.tmps)=false:=by
 obtain⟨vs,e,_⟩:=hs;have hnb:∀b,a.tmps[t]?≠some (.bool b):=by intro b h;rw[im,h]at e;simp at e
 simp only[GS]at ht;simp only[jk,hg,yielded,ht,Option.bind_some];rfl
def nY (hP:Aq X.P=true) {Γ0 md ops Φ Q} (hQ:∀s a w,Φ s->At X n Γ0 s a w->Q .normal a w):
  ∀(rest:List Oper) (s:S) (a:Act) (w:World),(∀o∈rest,IG n o=true)->vc X md ops Φ rest s->At X n Γ0 s a w->wpList X.P ops Q rest a w
 | [],s,a,w,_,h,hat=>hQ s a w h hat|o::rest,s,a,w,hok,h,hat=>by
  have run:(sop X md (Ab o) o s fun v s'=>vc X md ops Φ rest (s'.set o.dst v))->o.wp X.P a w (wpList X.P ops Q rest) Q:=by intro h;refine z4r hP (hok o (by simp)) h hat _ _ ?_;rintro u w' ⟨v,s',hv,z6r⟩;exact nY hP hQ rest _ _ _ (fun o ho=>hok o (by simp[ho])) hv z6r
  have skip:vc X md ops Φ rest (s.set o.dst (.tup []))->wpList X.P ops Q rest (a.put o.dst undef) w:=by
   intro h;obtain⟨Γ,g1,g3,c,hs,hn,hf⟩:=hat;have hd:match o.dst with|some d=>decide (d<n)=true|none=>True:=by
    have:=hok o (by simp);simp only[IG,az]at this;cases ho:o.dst with
    |none=>trivial|some d=>have:=this.2;rw[ho]at this;exact this
   exact nY hP hQ rest _ _ _ (fun o ho=>hok o (by simp[ho])) h (Lz hd g1 g3 c hs hn hf q08)
  simp only[vc]at h;simp only[wpList];split at h
  ·rename_i hg;have:jk o (yielded ops a.tmps)=true:=by simp[jk,hg]
   rw[if_pos this];exact .inl (run h)
  ·rename_i j want hg;cases ht:GS ops j with
   |none=>simp[gv,ht,gx]at h|some t=>
    simp only[gv,ht]at h;unfold gx at h;obtain⟨Γ,g1,g3,c,hs,hn,hf⟩:=id hat;have hst:=hs t;split at h;{rename_i cb hb;rw[hb]at hst;rw[wK hg ht hst];by_cases hbw:cb.toBool=want;{rw[if_pos (by simp[hbw])];exact .inl (run (h.1 hbw))};{rw[if_neg (by simp[hbw])];exact skip (h.2 hbw)}};{rename_i hb;rw[hb]at hst;rw[if_neg (by rw[wL hg ht hst];simp)];exact skip h};{exact h.elim}
def DC.mono {c Ψ'} (h:DC X n c s Ψ) (hq:∀e s,Ψ e s->Ψ' e s):DC X n c s Ψ':=
 fun Γ0 a w hat=>wp_mono (h Γ0 a w hat) fun e a w ⟨s',h1,h2⟩=>⟨s',hq _ _ h1,h2⟩
def DC.Ln {c s'} (hw:DS X n s s') (h:DC X n c s' Ψ):DC X n c s Ψ:=
 fun Γ0 a w hat=>h Γ0 a w (hw Γ0 a w hat)
def DS.refl (s:S):DS X n s s:=fun _ _ _ h=>h
def DS.trans {s s' s''} (h:DS X n s s') (h':DS X n s' s''):DS X n s s'':=fun Γ0 a w hat=>h' Γ0 a w (h Γ0 a w hat)
def Ih (hP:Aq X.P=true) (md:List (Nat × Nat)) {id:Nat} {l:List Oper} (hok:l.all (IG n)=true) (h:vc X md l.toArray (fun s'=>Ψ .normal s') l s):DC X n (.region id l.toArray false) s Ψ:=by intro Γ0 a w hat;refine wp_region_lit (nY hP (fun s' a w hΨ hat=>⟨s',hΨ,hat⟩) l s a w (fun o ho=>List.all_eq_true.1 hok o ho) h hat)
def Ec {c c':Code} (h:DC X n c s fun e s'=>match e with| .normal=>DC X n c' s' Ψ|e=>Ψ e s'):DC X n (c.seq c') s Ψ:=by
 intro Γ0 a w hat;refine wp_seq (wp_mono (h Γ0 a w hat) ?_);rintro e a w ⟨s',h1,h2⟩;cases e with
 |normal=>exact h1 Γ0 a w h2|exit _|goto _|ret|panic _|outgrown=>exact⟨s',h1,h2⟩
def Nu (h:Ψ .normal s):DC X n .skip s Ψ:=fun _ _ _ hat=>wp_skip ⟨s,h,hat⟩
def rX {l:Nat} (h:Ψ .normal s):DC X n (.label l) s Ψ:=fun _ _ _ hat=>wp_label ⟨s,h,hat⟩
def ML (h:Ψ .ret s):DC X n .ret s Ψ:=fun _ _ _ hat=>wp_ret ⟨s,h,hat⟩
def q42 {id:Nat} (h:Ψ (.exit id) s):DC X n (.exit id) s Ψ:=fun _ _ _ hat=>wp_exit ⟨s,h,hat⟩
def q43 {id:Nat} (h:Ψ (.goto id) s):DC X n (.goto id) s Ψ:=fun _ _ _ hat=>wp_goto ⟨s,h,hat⟩
def Vc {id:Nat} {c} (h:DC X n c s fun e s'=>match e with| .exit id'=>if id'=id then Ψ .normal s' else Ψ (.exit id') s'|e=>Ψ e s'):DC X n (.block id c) s Ψ:=by
 intro Γ0 a w hat;refine wp_block (wp_mono (h Γ0 a w hat) ?_);rintro e a w ⟨s',h1,h2⟩;cases e with
 |exit id'=>
  simp only[Exit.inBlock]at h1 ⊢;split;{rename_i hid;rw[if_pos hid]at h1;exact⟨s',h1,h2⟩};{rename_i hid;rw[if_neg hid]at h1;exact⟨s',h1,h2⟩}
 |normal|goto _|ret|panic _|outgrown=>exact⟨s',h1,h2⟩
def q3H {Γ0} {a:Act} {w} {t:Nat} {b:Bool} (hat:At X n Γ0 s a w) (h:s.get t= .d .bool (.bool b)):a.eval (.tmp t)= .bool b:=by obtain⟨Γ,g1,g3,c,hs,hn,hf⟩:=hat;have:=hs t;rw[h]at this;exact(Fa this).1
def rU {t:Nat} {c c'} (b:Bool) (hb:s.get t= .d .bool (.bool b)) (h1:b=true->DC X n c s Ψ) (h2:b=false->DC X n c' s Ψ):DC X n (.cond (.tmp t) c c') s Ψ:=by
 intro Γ0 a w hat;refine wp_cond (t:=b) (q3H hat hb) ?_;cases b with
 |true=>exact h1 rfl Γ0 a w hat|false=>exact h2 rfl Γ0 a w hat
def rV {t:Nat} {c c'} {v:C} (hv:s.get t= .d .bool v) (h1:v.toBool=true->DC X n c s Ψ) (h2:v.toBool=false->DC X n c' s Ψ):DC X n (.cond (.tmp t) c c') s Ψ:=by
 intro Γ0 a w hat;have he:a.eval (.tmp t)= .bool v.toBool:=by obtain⟨Γ,g1,g3,c,hs,hn,hf⟩:=hat;have:=hs t;rw[hv]at this;exact(Fa this).1
 refine wp_cond (t:=v.toBool) he ?_;cases hb:v.toBool with
 |true=>exact h1 hb Γ0 a w hat|false=>exact h2 hb Γ0 a w hat
end
end
section
mutual
def V.BB (x:V):V->Prop
 | .d τ c=>(match x with| .ym=>(∃eb e,τ= .slice eb e)/\c= .slice []|x=>Bp x=some c/\x.ty=τ)| .emp eb e=>x= .emp eb e\/x= .ym| .agg τ ws=>(match x with| .agg τ' vs=>τ'=τ/\V.Fp vs ws|x=>x= .agg τ ws)| .any=>True|y=>x=y
def V.Fp:List V->List V->Prop
 | [],[]=>True|x::xs,y::ys=>V.BB x y/\y.ty=x.ty/\V.Fp xs ys|_,_=>False
end
def O.BB:O->O->Prop
 | .box x,.box y=>V.BB x y/\y.ty=x.ty/\y.plain=true/\y.Ay=true| .map kτ vτ es,.map kτ' vτ' es'=>kτ=kτ'/\vτ=vτ'/\es=es'| .it l p,.it l' p'=>l=l'/\p=p'|o,.dead τ=>τ=o.ty|_,_=>False
def CV (tk:List (Nat × Option Nat)) (t:Nat):Bool:=(look tk t).isSome
def Bf (L:List (Key × O)) (n:Nat):Bool:=(AR L (.l n)).isSome
section
variable {Γ:G}
def V.wX:∀{xs ys:List V},V.Fp xs ys->xs.length=ys.length
 | [],[],_=>rfl|x::xs,y::ys,h=>by simp only[V.Fp]at h;simp[V.wX h.2.2]
 | [],_::_,h=>by simp[V.Fp]at h
 |_::_,[],h=>by simp[V.Fp]at h
mutual
def AA.BB {hm}:∀(y x:V) {p:List Nat} {vs:List Value},V.BB x y->AA Γ hm p x vs->AA Γ hm p y vs/\(y≠.any->y.ty.isAgg=x.ty.isAgg/\(x≠.ym->y.ty=x.ty))
 | .d τ c,x,p,vs,h,hr=>by
  cases x
  case ym=>
   simp only[V.BB]at h;obtain⟨⟨eb,e,rfl⟩,rfl⟩:=h;simp only[AA]at hr ⊢;subst hr;exact⟨Dm rfl (bx _) (dv _) (by rw[gy];exact dv _) (.inl rfl),fun _=>⟨rfl,fun h=>absurd rfl h⟩⟩
  all_goals
   simp only[V.BB]at h;obtain⟨h1,h2⟩:=h;have:=Ki _ hr h1;rw[h2]at this;exact⟨by simpa only[AA]using this,fun _=>⟨by simp only[pz]at h2 ⊢;rw[h2],fun _=>by simp only[pz]at h2 ⊢;rw[h2]⟩⟩
 | .emp eb e,x,p,vs,h,hr=>by simp only[V.BB]at h;rcases h with rfl|rfl;{exact⟨hr,fun _=>⟨rfl,fun _=>rfl⟩⟩};{simp only[AA]at hr ⊢;subst hr;exact⟨⟨none,rfl⟩,fun _=>⟨rfl,fun h=>absurd rfl h⟩⟩}
 | .agg τ ws,x,p,vs,h,hr=>by
  cases x
  case agg τ' us=>
   simp only[V.BB]at h;obtain⟨rfl,h⟩:=h;simp only[AA]at hr ⊢;obtain⟨r1,r2,r3,r4,r5⟩:=hr;exact⟨⟨r1,r2,by rw[<-V.wX h];exact r3,r4,Aa.BB ws us h r5⟩,fun _=>⟨rfl,fun _=>rfl⟩⟩
  all_goals (simp only[V.BB]at h;cases h)
 | .any,x,p,vs,_,_=>⟨by simp only[AA],fun h=>absurd rfl h⟩| .sl eb e cs t,x,p,vs,h,hr=>by simp only[V.BB]at h;subst h;exact⟨hr,fun _=>⟨rfl,fun _=>rfl⟩⟩
 | .ts eb e cs,x,p,vs,h,hr=>by simp only[V.BB]at h;subst h;exact⟨hr,fun _=>⟨rfl,fun _=>rfl⟩⟩
 | .ym,x,p,vs,h,hr=>by simp only[V.BB]at h;subst h;exact⟨hr,fun _=>⟨rfl,fun _=>rfl⟩⟩
 | .ptr k q τ,x,p,vs,h,hr=>by simp only[V.BB]at h;subst h;exact⟨hr,fun _=>⟨rfl,fun _=>rfl⟩⟩
 | .yn τ c,x,p,vs,h,hr=>by simp only[V.BB]at h;subst h;exact⟨hr,fun _=>⟨rfl,fun _=>rfl⟩⟩
 | .sr k q lo n cp eb e,x,p,vs,h,hr=>by simp only[V.BB]at h;subst h;exact⟨hr,fun _=>⟨rfl,fun _=>rfl⟩⟩
 | .mp k,x,p,vs,h,hr=>by simp only[V.BB]at h;subst h;exact⟨hr,fun _=>⟨rfl,fun _=>rfl⟩⟩
 | .fn f yp,x,p,vs,h,hr=>by simp only[V.BB]at h;subst h;exact⟨hr,fun _=>⟨rfl,fun _=>rfl⟩⟩
 | .tup us,x,p,vs,h,hr=>by simp only[V.BB]at h;subst h;exact⟨hr,fun _=>⟨rfl,fun _=>rfl⟩⟩
 | .top τ,x,p,vs,h,hr=>by simp only[V.BB]at h;subst h;exact⟨hr,fun _=>⟨rfl,fun _=>rfl⟩⟩
def Aa.BB {hm}:∀(ys xs:List V) {p:List Nat} {i:Nat} {τ:Ty} {vs:List Value},V.Fp xs ys->Aa Γ hm p i τ xs vs->Aa Γ hm p i τ ys vs
 | [],[],_,_,_,_,_,h=>h|y::ys,x::xs,p,i,τ,vs,h,hr=>by simp only[V.Fp]at h;simp only[Aa]at hr ⊢;obtain⟨⟨o,f,h1,h2,h3,h4⟩,h5⟩:=hr;obtain⟨k1,k2⟩:=AA.BB y x h.1 h4;exact⟨⟨o,f,h1,h.2.1.trans h2,h3,k1⟩,Aa.BB ys xs h.2.2 h5⟩
 | [],_::_,_,_,_,_,h,_=>by simp[V.Fp]at h
 |_::_,[],_,_,_,_,h,_=>by simp[V.Fp]at h
end
mutual
def V.Ss {f g f' g'} (hf:∀n,f n=true->f' n=true) (hg:∀n,g n=true->g' n=true):∀x:V,x.ok f g=true->x.ok f' g'=true
 | .ptr (.l k) _ _,h| .mp (.l k),h| .sr (.l k) _ _ _ _ _ _,h=>by simp only[V.ok]at h ⊢;exact hf _ h
 | .sl _ _ _ t,h=>by simp only[V.ok]at h ⊢;exact hg _ h
 | .agg _ vs,h| .fn _ vs,h| .tup vs,h=>by simp only[V.ok]at h ⊢;exact V.Q2 hf hg vs h
 | .ptr (.g _) _ _,_| .mp (.g _),_| .sr (.g _) _ _ _ _ _ _,_| .d _ _,_| .ts _ _ _,_| .emp _ _,_| .ym,_| .yn _ _,_| .top _,_| .any,_=>by simp[V.ok]
def V.Q2 {f g f' g'} (hf:∀n,f n=true->f' n=true) (hg:∀n,g n=true->g' n=true):∀xs:List V,rv f g xs=true->rv f' g' xs=true
 | [],_=>rfl|x::xs,h=>by simp only[rv,az]at h ⊢;exact⟨V.Ss hf hg x h.1,V.Q2 hf hg xs h.2⟩
end
def V.c9 {f g f' g'} (hf:∀n,f n=true->f' n=true) (hg:∀n,g n=true->g' n=true):∀xs:List (C × V),V.DP f g xs=true->V.DP f' g' xs=true
 | [],_=>rfl|x::xs,h=>by simp only[V.DP,az]at h ⊢;exact⟨V.Ss hf hg x.2 h.1,V.c9 hf hg xs h.2⟩
def O.Ss {f g f' g'} (hf:∀n,f n=true->f' n=true) (hg:∀n,g n=true->g' n=true) (o:O) (h:o.ok f g=true):o.ok f' g'=true:=by
 cases o with
 |box x=>exact V.Ss hf hg x h|map=>exact V.c9 hf hg _ h|it=>rfl|dead=>rfl
structure Sub (Γ Γ':G) (f g:Nat->Bool):Prop where
 oo:Γ'.oo=Γ.oo
 σ:Γ'.σ=Γ.σ
 H:Γ'.H=Γ.H
 Z:Γ'.Z=Γ.Z
 gl:Γ'.gl=Γ.gl
 ιg:∀k,Γ'.ι (.g k)=Γ.ι (.g k)
 ιl:∀n,f n=true->Γ'.ι (.l n)=Γ.ι (.l n)
 τ:∀t,g t=true->Γ'.τ t=Γ.τ t
 κ:∀b k p sz,Γ.κ b=some (.home k p,sz)->Γ'.κ b=Γ.κ b
variable {Γ':G} {f g:Nat->Bool}
mutual
def AA.sub (hs:Sub Γ Γ' f g) {hm}:∀(x:V) {p:List Nat} {vs:List Value},x.ok f g=true->AA Γ hm p x vs->AA Γ' hm p x vs
 | .d _ _,_,_,_,h=>by simp only[AA]at h ⊢;rw[hs.H];exact h
 | .sl eb e cs t,_,_,ho,h=>by simp only[AA]at h ⊢;obtain⟨a,n,cap,h1,h2,x,L,h3,h4⟩:=h;exact⟨a,n,cap,h1,by rw[hs.H];exact h2,x,L,by rw[hs.τ t (by simpa[V.ok]using ho)];exact h3,h4⟩
 | .ts eb e cs,_,_,_,h=>by simp only[AA]at h ⊢;obtain⟨a,n,cap,k,h0,h1,h2,h3⟩:=h;refine⟨a,n,cap,k,h0,h1,by rw[hs.H];exact h2,?_⟩;rcases h3 with h3|⟨b,l,sz,a1,a2,a3,a4,a5⟩;{exact .inl h3};{exact .inr ⟨b,l,sz,a1,by rw[hs.H];exact a2,a3,by rw[hs.κ b k _ sz a4];exact a4,a5⟩}
 | .emp _ _,_,_,_,h=>by simpa only[AA]using h
 | .ym,_,_,_,h=>by simpa only[AA]using h
 | .ptr (.l k) q τ,_,_,ho,h=>by simp only[AA]at h ⊢;rw[hs.ιl k (by simpa[V.ok]using ho)];exact h
 | .ptr (.g k) q τ,_,_,_,h=>by simp only[AA]at h ⊢;rw[hs.ιg];exact h
 | .yn τ c,_,_,_,h=>by simp only[AA]at h ⊢;rw[hs.H];exact h
 | .sr (.l k) _ _ _ _ _ _,_,_,ho,h=>by simp only[AA]at h ⊢;rw[hs.ιl k (by simpa[V.ok]using ho),hs.σ];exact h
 | .sr (.g k) _ _ _ _ _ _,_,_,_,h=>by simp only[AA]at h ⊢;rw[hs.ιg,hs.σ];exact h
 | .mp (.l k),_,_,ho,h=>by simp only[AA]at h ⊢;rw[hs.ιl k (by simpa[V.ok]using ho)];exact h
 | .mp (.g k),_,_,_,h=>by simp only[AA]at h ⊢;rw[hs.ιg];exact h
 | .agg τ xs,_,_,ho,h=>by simp only[AA]at h ⊢;exact⟨h.1,h.2.1,h.2.2.1,h.2.2.2.1,Aa.sub hs xs (by simpa[V.ok]using ho) h.2.2.2.2⟩
 | .fn _ yp,_,_,ho,h=>by simp only[AA]at h ⊢;obtain⟨cv,h1,h2⟩:=h;exact⟨cv,h1,BF.sub hs yp (by simpa[V.ok]using ho) h2⟩
 | .tup _,_,_,_,h=>by simp only[AA]at h
 | .top _,_,_,_,h=>by simpa only[AA]using h
 | .any,_,_,_,_=>by simp only[AA]
def Aa.sub (hs:Sub Γ Γ' f g) {hm}:∀(xs:List V) {p:List Nat} {i:Nat} {τ:Ty} {vs:List Value},rv f g xs=true->Aa Γ hm p i τ xs vs->Aa Γ' hm p i τ xs vs
 | [],_,_,_,_,_,_=>by simp only[Aa]
 |x::xs,_,_,_,_,ho,h=>by simp only[Aa]at h ⊢;simp only[rv,az]at ho;obtain⟨⟨o,ff,h1,h2,h3,h4⟩,h5⟩:=h;exact⟨⟨o,ff,h1,h2,h3,AA.sub hs x ho.1 h4⟩,Aa.sub hs xs ho.2 h5⟩
def BF.sub (hs:Sub Γ Γ' f g):∀(xs:List V) {vs:List Value},rv f g xs=true->BF Γ xs vs->BF Γ' xs vs
 | [],_,_,h=>by simpa only[BF]using h
 |x::xs,_,ho,h=>by simp only[BF]at h ⊢;simp only[rv,az]at ho;obtain⟨v,vs',h1,h2,h3,h4⟩:=h;exact⟨v,vs',h1,AA.sub hs x ho.1 h2,h3,BF.sub hs xs ho.2 h4⟩
end
def AG.sub (hs:Sub Γ Γ' f g) {x:V} {v} (ho:x.ok f g=true) (h:AG Γ x v):AG Γ' x v:=by
 cases x
 case any=>trivial
 case tup us=>obtain⟨vs,h1,h2⟩:=h;exact⟨vs,h1,BF.sub hs _ (by simpa[V.ok]using ho) h2⟩
 all_goals exact⟨AA.sub hs _ ho h.1,h.2⟩
def c6 {f g}:∀{es:List (C × V)} {i:Nat} {c:C × V},V.DP f g es=true->es[i]? =some c->c.2.ok f g=true
 | [],_,_,_,h=>by simp at h
 |x::xs,0,c,h,hc=>by simp[V.DP]at h;simp at hc;subst hc;exact h.1
 |x::xs,i+1,c,h,hc=>by simp[V.DP]at h;exact c6 h.2 (by simpa using hc)
def U0:∀{l:List Ty} {i:Nat} {t:Ty},Ty.TD l=true->l[i]? =some t->t.EC=true
 | [],_,_,_,h=>by cases h
 |x::l,0,t,h,hi=>by simp only[Ty.TD,az]at h;simp at hi;subst hi;exact h.1
 |x::l,i+1,t,h,hi=>by simp only[Ty.TD,az]at h;exact U0 h.2 (by simpa using hi)
def z07 {τ f:Ty} {i o:Nat} (h:τ.EC=true) (hc:τ.child i=some (o,f)):f.EC=true:=by
 cases τ with
 |struct sz os fs=>
  simp only[Ty.child]at hc;split at hc;{rename_i o' f' h1 h2;cases hc;exact U0 (by simpa only[Ty.EC]using h) h2};{cases hc}
 |arr n e=>
  simp only[Ty.child]at hc;split at hc;{cases hc;simpa only[Ty.EC]using h};{cases hc}
 |_=>cases hc
mutual
def AA.plain (hH:Γ'.H=Γ.H) {hm}:∀(x:V) {p:List Nat} {vs:List Value},x.ty.EC=true->AA Γ hm p x vs->AA Γ' hm p x vs
 | .d _ _,_,_,_,h=>by simp only[AA]at h ⊢;rw[hH];exact h
 | .top _,_,_,_,h=>by simpa only[AA]using h
 | .agg τ xs,p,vs,ht,h=>by simp only[AA]at h ⊢;exact⟨h.1,h.2.1,h.2.2.1,h.2.2.2.1,Aa.plain hH xs ht h.2.2.2.2⟩
 | .sl ..,_,_,ht,_=>by simp[pz,Ty.EC]at ht
 | .ts ..,_,_,ht,_=>by simp[pz,Ty.EC]at ht
 | .emp ..,_,_,ht,_=>by simp[pz,Ty.EC]at ht
 | .ym,_,_,ht,_=>by simp[pz,Ty.EC]at ht
 | .ptr ..,_,_,ht,_=>by simp[pz,Ty.EC]at ht
 | .yn ..,_,_,ht,_=>by simp[pz,Ty.EC]at ht
 | .sr ..,_,_,ht,_=>by simp[pz,Ty.EC]at ht
 | .mp ..,_,_,ht,_=>by simp[pz,Ty.EC]at ht
 | .fn ..,_,_,ht,_=>by simp[pz,Ty.EC]at ht
 | .tup ..,_,_,ht,_=>by simp[pz,Ty.EC]at ht
 | .any,_,_,ht,_=>by simp[pz,Ty.EC]at ht
def Aa.plain (hH:Γ'.H=Γ.H) {hm} {p:List Nat}:∀(xs:List V) {i:Nat} {τ:Ty} {vs:List Value},τ.EC=true->Aa Γ hm p i τ xs vs->Aa Γ' hm p i τ xs vs
 | [],_,_,_,_,_=>by simp[Aa]
 |x::xs,i,τ,vs,ht,h=>by simp only[Aa]at h ⊢;obtain⟨⟨o,f,h1,h2,h3,h4⟩,h5⟩:=h;exact⟨⟨o,f,h1,h2,h3,AA.plain hH x (by rw[h2];exact z07 ht h1) h4⟩,Aa.plain hH xs ht h5⟩
end
def O.okP (f g:Nat->Bool):O->Bool
 | .map _ vτ es=>vτ.EC||V.DP f g es|o=>o.ok f g
def O.z0x {f g} {o:O} (h:o.ok f g=true):o.okP f g=true:=by
 cases o with
 |map=>exact Bool.or_eq_true_iff.2 (.inr h)|_=>exact h
def Own.sub (hs:Sub Γ Γ' f g) {w k} {o:O} (hk:Γ'.ι k=Γ.ι k) (ho:o.okP f g=true) (h:Own Γ w k o):Own Γ' w k o:=by
 cases o with
 |box x=>
  obtain⟨b,cells,T,h1,h2,h3,h4,h5,h6,h7⟩:=h;exact⟨b,cells,T,by rw[hk];exact h1,by rw[hs.H];exact h2,by rw[hs.Z];exact h3,h4,h5,AA.sub hs x ho h6,h7⟩
 |map kτ vτ es=>
  obtain⟨b,ms,clock,h1,h2,h3,h4,h5,h6,h7⟩:=h;refine⟨b,ms,clock,by rw[hk];exact h1,by rw[hs.H];exact h2,by rw[hs.Z];exact h3,h4,h5,fun i m c hm hc=>?_,h7⟩;obtain⟨a1,a2,a3,a4⟩:=h6 i m c hm hc;simp only[O.okP,tc]at ho;rcases ho with ho|ho;{exact⟨by rw[hs.H];exact a1,a2,AA.plain hs.H _ (by rw[a4.2.1];exact ho) a3,a4⟩};{exact⟨by rw[hs.H];exact a1,a2,AA.sub hs _ (c6 ho hc) a3,a4⟩}
 |it l pos=>
  obtain⟨b,adr,v,h1,h2,h3,h4,h5,h6,h7⟩:=h;refine⟨b,adr,v,by rw[hk];exact h1,by rw[hs.H];exact h2,by rw[hs.Z];exact h3,h4,h5,h6,?_⟩;rcases h7 with h7|⟨g,cap,g1,g2,g3,g4⟩;{exact .inl h7};{exact .inr ⟨g,cap,g1,by rw[hs.H];exact g2,by rw[hs.κ g _ _ _ g3];exact g3,g4⟩}
 |dead τ=>
  obtain⟨b,h1,h4⟩:=h;exact⟨b,by rw[hk];exact h1,h4⟩
def Own.BB {w k o o'} (hi:O.BB o o') (h:Own Γ w k o):Own Γ w k o':=by
 cases o' with
 |dead τ=>
  have e:τ=o.ty:=by cases o <;> exact hi
  obtain⟨b,τ',h1,_,h4,h5⟩:=h.block;exact⟨b,by rw[e,<-h5];exact h1,h4⟩
 |box y=>cases o with
  |box x=>
   obtain⟨b,cells,T,h1,h2,h3,h4,h5,h6,h7,h8⟩:=h;obtain⟨i1,ht,i2,i3⟩:=hi;obtain⟨r1,_⟩:=AA.BB y x i1 h6;exact⟨b,cells,T,by rw[ht];exact h1,h2,h3,h4,by rw[ht];exact h5,by rw[ht];exact r1,i2,i3⟩
  |_=>exact hi.elim
 |map kτ vτ es=>cases o with
  |map=>obtain⟨rfl,rfl,rfl⟩:=hi;exact h
  |_=>exact hi.elim
 |it l p=>cases o with
  |it=>obtain⟨rfl,rfl⟩:=hi;exact h
  |_=>exact hi.elim
def O.q7m {o o':O} (hi:O.BB o o') (h:o.Jl):o'.Jl:=by
 cases o' with
 |dead=>trivial|box y=>cases o with
  |box x=>
   obtain⟨e,rfl⟩:=h;obtain⟨i1,_,i2,_⟩:=hi;cases y <;> simp only[V.BB,wj,reduceCtorEq,or_self,Bool.false_eq_true]at i1 i2;obtain⟨h1,rfl⟩:=i1;simp only[Bp,Option.some.injEq]at h1;subst h1;exact⟨e,rfl⟩
  |_=>exact hi.elim
 |map kτ vτ es=>cases o with|map=>exact h.elim|_=>exact hi.elim
 |it l p=>cases o with|it=>exact h.elim|_=>exact hi.elim
def O.wW {o o':O} (hi:O.BB o o') (h:o.EY=true):o'.EY=true:=by cases o <;> simp[O.EY]at h;cases o' <;> first|rfl|exact hi.elim
end
end
section
def Ft (s:S):List (Key × O)->Prop
 | []=>True|(k,o)::l=>(match s.obj k with|some o0=>O.BB o0 o|none=>False)/\Ft s l
def DT (τ:Ty):List (C × V)->Bool
 | []=>true|(_,v)::l=>(match v with| .d τ' _=>Ty.beq τ' τ|_=>false)&&DT τ l
def pK {f g τ}:∀{es:List (C × V)},DT τ es=true->V.DP f g es=true
 | [],_=>rfl|(_,v)::l,h=>by simp only[DT,az]at h;simp only[V.DP,az];refine⟨?_,pK h.2⟩;cases v <;> simp at h;rfl
def O.okB (f g:Nat->Bool):O->Bool
 | .map _ vτ es=>vτ.EC||DT vτ es|o=>o.ok f g
def O.z0w {f g} {o:O} (h:o.okB f g=true):o.okP f g=true:=by
 cases o with
 |map kτ vτ es=>
  simp only[O.okB,O.okP,tc]at h ⊢;exact h.imp id pK
 |_=>exact h
def FK (f g:Nat->Bool):List (Key × O)->Bool
 | []=>true|(_,o)::l=>o.okB f g&&FK f g l
def Ib (L:List (Key × O)) (A:Key->Option O):List (Key × O)->Prop
 | []=>True|(.g k,o)::l=>((AR L (.g k)).isSome=true\/A k=some o)/\Ib L A l|(.l _,_)::l=>Ib L A l
def Hs (f g:Nat->Bool) (s:S):List (Nat × V)->Prop
 | []=>True|(i,x)::l=>V.BB (s.get i) x/\x.ok f g=true/\(x= .any\/x.ty.isAgg=(s.get i).ty.isAgg)/\Hs f g s l
def tkW (s:S):List (Nat × Option Nat)->Prop
 | []=>True|(t,x)::l=>(match x with|some L=>s.live t=some L|none=>s.known t=true)/\tkW s l
def Wj {s:S}:∀{l:List (Key × O)} {k:Key} {o:O},Ft s l->AR l k=some o->∃o0,s.obj k=some o0/\O.BB o0 o
 | [],_,_,_,h=>by simp[AR]at h
 |(j,p)::l,k,o,hw,h=>by simp only[AR]at h;split at h;{rename_i e;cases h;subst e;have:=hw.1;split at this;{rename_i o0 ho;exact⟨o0,ho,this⟩};{exact this.elim}};{exact Wj hw.2 h}
def zC {f g}:∀{l:List (Key × O)} {k:Key} {o:O},FK f g l=true->AR l k=some o->o.okP f g=true
 | [],_,_,_,h=>by simp[AR]at h
 |(j,p)::l,k,o,hw,h=>by simp only[AR]at h;simp only[FK,az]at hw;split at h;{cases h;exact O.z0w hw.1};{exact zC hw.2 h}
def ZM {L A}:∀{l:List (Key × O)} {k:Key} {o:O},Ib L A l->AR l (.g k)=some o->(AR L (.g k)).isSome=true\/A k=some o
 | [],_,_,_,h=>by simp[AR]at h
 |(.l j,p)::l,k,o,hw,h=>by simp[AR]at h;exact ZM (l:=l) hw h
 |(.g j,p)::l,k,o,hw,h=>by simp only[AR]at h;split at h;{rename_i e;cases e;cases h;exact hw.1};{exact ZM hw.2 h}
def bQ {f g} {s:S}:∀{l:List (Nat × V)} {i:Nat} {x:V},Hs f g s l->look l i=some x->V.BB (s.get i) x/\x.ok f g=true/\(x= .any\/x.ty.isAgg=(s.get i).ty.isAgg)
 | [],_,_,_,h=>by simp[look]at h
 |(j,y)::l,i,x,hw,h=>by simp only[look]at h;split at h;{rename_i e;cases h;subst e;exact⟨hw.1,hw.2.1,hw.2.2.1⟩};{exact bQ hw.2.2.2 h}
def nL {s:S}:∀{l:List (Nat × Option Nat)} {t:Nat} {x:Option Nat},tkW s l->look l t=some x->match x with|some L=>s.live t=some L|none=>s.known t=true
 | [],_,_,_,h=>by simp[look]at h
 |(j,y)::l,t,x,hw,h=>by simp only[look]at h;split at h;{rename_i e;cases h;subst e;exact hw.1};{exact nL hw.2 h}
section
variable {Γ:G} {w:World} {s:S}
def XD {s':S} (hA:s'.A=s.A) (hg:Ib s'.loc s.A s.loc) {k} (h:AR s'.loc (.g k)=none):s'.obj (.g k)=s.obj (.g k):=by
 unfold jj Bx;rw[h];simp only;cases ho:AR s.loc (.g k)with
 |none=>rw[hA]|some o=>
  rcases ZM hg ho with h1|h1;{rw[h]at h1;cases h1};{rw[hA];exact h1}
def AQ.sub (c:AQ Γ w s) {Γ':G} {f g} {s':S} (hs:Sub Γ Γ' f g) (hf:f=Bf s'.loc) (hι:∀n,f n=false->Γ'.ι (.l n)=none) (hA:s'.A=s.A) (zk:AOk s.A)
  (z59:Ft s s'.loc) (z6l:FK f g s'.loc=true) (hg:Ib s'.loc s.A s.loc)
  (hκ:∀b o sz,Γ'.κ b=some (o,sz)->∃o',Γ.κ b=some (o',sz)/\∀T,Ls o' T->Ls o T)
  (tok:∀t L,s'.live t=some L->∃x,Γ'.τ t=some (x,L)/\∀b pos sz,x=some (b,pos,sz)->(∃l,Γ.H b=some l/\l.length=pos)/\Γ'.κ b=some (.tok t,sz))
  (zc:∀t,Γ'.τ t≠none->s'.known t=true):AQ Γ' w s':=by
 subst hf;have hfl:∀n,Bf s'.loc n=true↔AR s'.loc (.l n)≠none:=by intro n;unfold Bf;cases AR s'.loc (.l n) <;> simp
 have z7P:∀k o,s'.obj k=some o->Γ'.ι k=Γ.ι k:=by
  intro k o h;cases k with
  |g k=>exact hs.ιg k|l n=>
   refine hs.ιl n ?_;rw[hfl];unfold jj Bx at h;intro e;rw[e]at h;cases h
 refine⟨fun b l h=>c.hH b l (by rw[<-hs.H];exact h),fun b o h=>c.hZ b o (by rw[<-hs.Z];exact h),fun b o sz h=>?_,fun k o h=>?_,fun k h=>?_,fun k k' b τ τ' h1 h2=>?_,fun t L h=>?_,zc,fun gg τ cc h=>?_,by rw[hs.oo];exact c.hoo,fun b sz h=>c.hσ b sz (by rw[<-hs.σ];exact h)⟩;{obtain⟨o',h',hT⟩:=hκ b o sz h;obtain⟨a1,a2,arr,T,a3,a4,a5⟩:=c.hκ b o' sz h';exact⟨by rw[hs.Z];exact a1,by rw[hs.H];exact a2,arr,T,a3,a4,hT T a5⟩}
 ·have hk:=z7P k o h;cases hl:AR s'.loc k with
  |some o1=>
   have:o1=o:=by unfold jj Bx at h;rw[hl]at h;cases h;rfl
   subst this;obtain⟨o0,ho,hi⟩:=Wj z59 hl;exact(c.obj k o0 ho).imp (fun h=>⟨hk.trans h.1,O.q7m hi h.2⟩) fun yw=>(yw.BB hi).sub hs hk (zC z6l hl)
  |none=>
   cases k with
   |l n=>unfold jj Bx at h;rw[hl]at h;cases h
   |g k=>
    have h':s.obj (.g k)=some o:=by rw[<-XD hA hg hl];exact h
    have hAk:s.A k=some o:=by
     have h2:s'.A k=some o:=by unfold jj Bx at h;rw[hl]at h;exact h
     rw[<-hA];exact h2
    exact(c.obj _ o h').imp (fun h=>⟨hk.trans h.1,h.2⟩) fun yw=>yw.sub hs hk (O.z0x (O.Ss (by simp[BS]) (by simp[BS]) o (zk k o hAk)))
 ·cases k with
  |l n=>
   cases hh:Bf s'.loc n with
   |false=>exact absurd (hι n hh) h|true=>
    have:=(hfl n).1 hh;unfold jj Bx;cases hl:AR s'.loc (.l n)with
    |none=>exact absurd hl this|some o=>simp
  |g k=>
   rw[hs.ιg]at h;have:=c.dom _ h;cases hl:AR s'.loc (.g k)with
   |some o=>unfold jj Bx;rw[hl];simp|none=>rw[XD hA hg hl];exact this
 ·have back:∀k x,Γ'.ι k=some x->Γ.ι k=some x:=by
   intro k x h;cases k with
   |g k=>rw[<-hs.ιg];exact h|l n=>
    cases hh:Bf s'.loc n with
    |false=>rw[hι n hh]at h;cases h
    |true=>rw[<-hs.ιl n hh];exact h
  have ze:∀k x,Γ'.ι k=some x->s.Bb k=true->s'.Bb k=true:=by
   intro k x hx h;cases hl:AR s'.loc k with
   |some o1=>
    obtain⟨o0,ho,hi⟩:=Wj z59 hl;rw[Ed ho]at h;have e:s'.obj k=some o1:=by unfold jj Bx;rw[hl]
    rw[Ed e];exact O.wW hi h
   |none=>
    cases k with
    |g k=>unfold S.Bb at h ⊢;rw[XD hA hg hl];exact h|l n=>
     cases hh:Bf s'.loc n with
     |false=>rw[hι n hh]at hx;cases hx
     |true=>exact absurd hl ((hfl n).1 hh)
  exact(c.inj k k' b τ τ' (back _ _ h1) (back _ _ h2)).imp id (And.imp (Or.imp (ze _ _ h1) (ze _ _ h2)) id)
 ·obtain⟨x,a1,a2⟩:=tok t L h;refine⟨x,a1,fun b pos sz hx=>?_⟩;obtain⟨a3,a4⟩:=a2 b pos sz hx;exact⟨by rw[hs.H];exact a3,a4⟩
 ·rw[hs.H];exact c.hgl gg τ cc (by rw[<-hs.gl];exact h)
end
def G.part (Γ:G) (f g:Nat->Bool):G:=
 {Γ with ι:=fun k=>match k with| .l n=>if f n then Γ.ι (.l n)else none| .g k=>Γ.ι (.g k),τ:=fun t=>if g t then Γ.τ t else none}
def q2X {X} {n:Nat} {s s':S} (hA:s'.A=s.A) (z59:Ft s s'.loc) (z6l:FK (Bf s'.loc) (CV s'.tk) s'.loc=true) (hg:Ib s'.loc s.A s.loc)
  (htk:tkW s s'.tk) (zq:Hs (Bf s'.loc) (CV s'.tk) s s'.env):DS X n s s':=by
 rintro Γ0 a w ⟨Γ,g1,g3,c,hs,hn,hf,zk⟩
 have sub:Sub Γ (Γ.part (Bf s'.loc) (CV s'.tk)) (Bf s'.loc) (CV s'.tk):=
  ⟨rfl,rfl,rfl,rfl,rfl,fun _=>rfl,fun n h=>by simp[G.part,h],fun t h=>by simp[G.part,h],fun _ _ _ _ _=>rfl⟩
 refine⟨Γ.part (Bf s'.loc) (CV s'.tk),⟨g1.H,g1.Z,g1.ZH,g1.g,g1.gl,g1.oo,g1.σ,g1.gn⟩,g3,c.sub sub rfl (fun n h=>by simp[G.part,h]) hA zk z59 z6l hg (fun b o sz h=>⟨o,h,fun _ h=>h⟩) (fun t L h=>?_) (fun t h=>?_),fun i=>?_,hn,hf,by rw[hA];exact zk⟩
 ·unfold uq EA at h;cases hl:look s'.tk t with
  |none=>simp[hl]at h|some x=>
   cases x with
   |none=>simp[hl]at h|some M=>
    simp[hl]at h;subst h;have z57:s.live t=some M:=nL htk hl;obtain⟨x,a1,a2⟩:=c.tok t M z57;exact⟨x,by simp[G.part,CV,hl,a1],fun b pos sz hx=>a2 b pos sz hx⟩
 ·cases hh:CV s'.tk t with|true=>exact hh|false=>simp[G.part,hh]at h
 ·cases hl:look s'.env i with
  |none=>simp[S.get,hl,AG]|some x=>
   obtain⟨e1,e2,e3⟩:=bQ zq hl;have z58:s'.get i=x:=by simp[S.get,hl]
   rw[z58];by_cases hx:x= .any;{subst hx;trivial}
   ·have hr:=hs i;have e3:=e3.resolve_left hx;refine AG.sub sub e2 ?_;cases hsi:s.get i with
    |any=>
     rw[hsi]at e1;cases x <;> simp[V.BB,Bp]at e1 hx
    |tup us=>
     rw[hsi]at e1 hr;cases x <;> simp[V.BB,Bp]at e1 hx;subst e1;exact hr
    |_=>
     rw[hsi]at e1 hr e3;have hpl:AA Γ none [] _ (a.tmps.getD i undef).cells.toList/\_:=hr;obtain⟨r1,r2⟩:=AA.BB x _ e1 hpl.1;have hxp:=V.TE r1 hx;exact(Bd hxp).2 ⟨r1,by rw[e3];exact hpl.2⟩
end
section
def NA (X:Cx) (s:S) (r:ResultVar):V:=
 match r with
 | .tmp t=>s.get t| .cell a t=>(match s.get a with| .ptr k q τ=>(match s.obj k with|some (.box y)=>view (y.at q)|_=>.any)|_=>.any)
def Eh (X:Cx) (s:S):List ResultVar->List V
 | []=>[]|r::rs=>NA X s r::Eh X s rs
def QA (X:Cx) (s:S) (r:ResultVar):Prop:=
 match r with
 | .tmp _=>True| .cell a t=>(match s.get a with| .ptr k q τ=>(match s.obj k with|some (.box y)=>τ=ty X.P t/\τ.known=true/\y.at q≠.any|_=>False)|_=>False)
def QD (X:Cx) (s:S):List ResultVar->Prop
 | []=>True|r::rs=>QA X s r/\QD X s rs
def Gs (s:S) (f:Nat->Bool) (x:V) (v:V):Prop:=
 match v with
 | .ts eb e cs=>(match x with| .sl eb' e' cs' t=>eb'=eb/\e'=e/\cs'=cs/\s.live t=some cs.length| .emp eb' e'=>eb'=eb/\e'=e/\cs=[]| .ym=>cs=[]|_=>False)|v=>V.BB x v/\v.ok f BS=true/\v.plain=true/\v.ty.isAgg=x.ty.isAgg
def IK (s:S) (f:Nat->Bool):List V->List V->Prop
 | [],[]=>True|x::xs,v::vs=>Gs s f x v/\IK s f xs vs|_,_=>False
def KQ:List V->V->Option (List V)
 | [_],v=>some [v]|_,.tup vs=>some vs|_,_=>none
def Fc:Nat->List V->List V->List (Nat × Option Nat)
 |m,x::xs,v::vs=>(match v,x with| .ts _ _ _,.sl _ _ _ t=>[(m,some t)]| .ts _ _ _,_=>[(m,none)]|_,_=>[])++Fc (m+1) xs vs|_,_,_=>[]
def Iz:List (Nat × Option Nat)->List Nat
 | []=>[]|(_,some t)::l=>t::Iz l|(_,none)::l=>Iz l
def Jh (X:Cx) (fn:Func) (A:Key->Option O) (v:V) (L:List (Key × O)) (s:S):Prop:=
 s.A=A/\Ft s L/\FK (Bf L) BS L=true/\Ib L A s.loc/\QD X s fn.results.toList/\
  (match KQ (Eh X s fn.results.toList) v with|some vs=>IK s (Bf L) (Eh X s fn.results.toList) vs/\GX (Iz (Fc 2000 (Eh X s fn.results.toList) vs))=true|none=>False)
def PT:List (Nat × Option Nat)->Nat->Option Nat
 | [],_=>none|(m,some t)::l,u=>if t=u then some m else PT l u|(_,none)::l,u=>PT l u
def iL:∀{l:List (Nat × Option Nat)} {m t:Nat},GX (Iz l)=true->look l m=some (some t)->PT l t=some m
 | [],_,_,_,h=>by simp[look]at h
 |(j,y)::l,m,t,hn,h=>by
  simp only[look]at h;split at h;{rename_i e;cases h;subst e;simp[PT]}
  ·cases y with
   |none=>exact iL (l:=l) hn h|some u=>
    simp only[Iz,GX,az,Bool.not_eq_true']at hn;have ih:=iL hn.2 h;have hne:u≠t:=by
     intro e;subst e;have hm:∀{l:List (Nat × Option Nat)} {m:Nat},look l m=some (some u)->u∈Iz l:=by
      intro l
      induction l with
      |nil=>intro m h;simp[look]at h|cons z l ih=>
       obtain⟨j',y'⟩:=z;intro m h;simp only[look]at h;split at h;{cases h;simp[Iz]};{cases y' with|none=>exact ih h|some t'=>simp[Iz,ih h]}
     have:=hm h;simp[this]at hn
    simp[PT,hne,ih]
def G.fin (Γ:G) (f:Nat->Bool) (z5Z:List (Nat × Option Nat)):G:=
 {Γ with
  ι:=fun k=>match k with| .l n=>if f n then Γ.ι (.l n)else none| .g k=>Γ.ι (.g k)
  τ:=fun m=>match look z5Z m with|some (some t)=>Γ.τ t|some none=>some (none,0)|none=>none
  κ:=fun b=>match Γ.κ b with
   |some (.tok t,sz)=>match PT z5Z t with|some m=>some (.tok m,sz)|none=>none
   |x=>x}
def YL:∀{n:Nat} {xs vs} {m:Nat},look (Fc n xs vs) m=if n<=m then(match xs[m-n]?,vs[m-n]? with|some (.sl _ _ _ t),some (.ts _ _ _)=>some (some t)|some _,some (.ts _ _ _)=>some none|_,_=>none)else none
 |n,[],vs,m=>by simp[Fc,look]
 |n,x::xs,[],m=>by simp only[Fc,look];split <;> simp
 |n,x::xs,v::vs,m=>by
  simp only[Fc,Md];have ih:=YL (n:=n+1) (xs:=xs) (vs:=vs) (m:=m);by_cases h1:n=m
  ·subst h1;have hr:look (Fc (n+1) xs vs) n=none:=by rw[ih,if_neg (by omega)]
   cases v <;> cases x <;> simp[look,hr]
  ·have h0:look (match v,x with| .ts _ _ _,.sl _ _ _ t=>[(n,some t)]| .ts _ _ _,_=>[(n,none)]|_,_=>[]) m=none:=by cases v <;> cases x <;> simp[look,h1]
   rw[h0,ih];by_cases h2:n<=m;{rw[if_pos h2,if_pos (by omega),show m-n=(m-(n+1))+1 by omega];simp only[gf]};{rw[if_neg h2,if_neg (by omega)]}
section
variable {X:Cx} {n:Nat} {s:S}
def UR (a:Act):ResultVar->Sem Value
 | .tmp t=>pure (a.tmps.getD t undef)| .cell b t=>do loadVar t (<-asAddr (a.tmps.getD b undef))
def z3n (fn:Func) (a:Act):results fn a.tmps=(do
  let vs <-fn.results.mapM (UR a)
  pure (if h:vs.size=1 then vs[0]else .tuple vs)):=by
 unfold results;congr 2
def z3X (hP:Aq X.P=true) {Γ w} {a:Act} (c:AQ Γ w s) (hs:GD Γ s a.tmps) {r} (hch:QA X s r):
  ∃v,(UR a r).run X.P w= .ok v w/\AG Γ (NA X s r) v:=by
 cases r with
 |tmp t=>exact⟨_,rfl,hs t⟩|cell b t=>
  have hb:=hs b;simp only[QA]at hch;split at hch;{rename_i k q τ hk;rw[hk]at hb;split at hch;{rename_i y hy;obtain⟨u,h1,h2⟩:=eS hP c hb hy hch.2.2 hch.1 hch.2.1;obtain⟨b',τ0,o,_,_,hv⟩:=Gr hb;refine⟨u,?_,?_⟩;{rw[hv]at h1;simp only[UR,hv];simpa[kx,jv,asAddr]using h1};{simp only[NA,hk,hy];exact h2}};{exact hch.elim}};{exact hch.elim}
def q1B (hP:Aq X.P=true) {Γ w} {a:Act} (c:AQ Γ w s) (hs:GD Γ s a.tmps):∀(rs:List ResultVar),QD X s rs->
  ∃vs:List Value,(rs.mapM (UR a)).run X.P w= .ok vs w/\vs.length=rs.length/\
   ∀(i:Nat) x v,(Eh X s rs)[i]? =some x->vs[i]? =some v->AG Γ x v
 | [],_=>⟨[],by simp,rfl,by simp[Eh]⟩|r::rs,hpl=>by simp only[QD]at hpl;obtain⟨v,h1,h2⟩:=z3X hP c hs hpl.1;obtain⟨vs,h3,h4,h5⟩:=q1B hP c hs rs hpl.2;refine⟨v::vs,?_,by simp[h4],?_⟩;{rw[List.mapM_cons];simp only[cu];rw[h1];simp only[cr,cu];rw[h3];simp};{intro i x u hx hu;cases i with|zero=>simp[Eh]at hx hu;subst hx;subst hu;exact h2|succ i=>exact h5 i x u (by simpa[Eh]using hx) (by simpa using hu)}
def q1d:∀(rs:List ResultVar),(Eh X s rs).length=rs.length
 | []=>rfl|r::rs=>by simp[Eh,q1d rs]
def QB {f}:∀{xs vs:List V} {i:Nat} {v:V},IK s f xs vs->vs[i]? =some v->∃x,xs[i]? =some x/\Gs s f x v
 | [],[],_,_,_,h=>by simp at h
 |x::xs,v::vs,0,v',hr,h=>by simp at h;subst h;exact⟨x,rfl,hr.1⟩
 |x::xs,v::vs,i+1,v',hr,h=>by obtain⟨y,h1,h2⟩:=QB hr.2 (show vs[i]? =some v' by simpa using h);exact⟨y,by simpa using h1,h2⟩
 | [],_::_,_,_,hr,_=>by simp[IK]at hr
 |_::_,[],_,_,hr,_=>by simp[IK]at hr
def q1b {f}:∀{xs vs:List V},IK s f xs vs->xs.length=vs.length
 | [],[],_=>rfl|x::xs,v::vs,h=>by simp[q1b h.2]
 | [],_::_,hr=>by simp[IK]at hr
 |_::_,[],hr=>by simp[IK]at hr
def z3l {Γ:G} {w} (c:AQ Γ w s) {f z5Z} {m:Nat} {x v:V} {u} (z6F:Sub Γ (Γ.fin f z5Z) f BS) (hr:AG Γ x u) (hi:Gs s f x v)
  (hp:∀eb e cs,v= .ts eb e cs->match x with| .sl _ _ _ t=>look z5Z m=some (some t)|_=>look z5Z m=some none):AG (Γ.fin f z5Z) (v.slot m) u:=by
 have other:v.LM=true->V.BB x v/\v.ok f BS=true/\v.plain=true/\v.ty.isAgg=x.ty.isAgg->AG (Γ.fin f z5Z) (v.slot m) u:=by
  intro hn ⟨h1,h2,h3,h4⟩;have hvs:v.slot m=v:=by cases v <;> simp[V.slot];simp[V.LM]at hn
  rw[hvs];refine AG.sub z6F h2 ?_;cases x with
  |any=>
   cases v <;> simp[V.BB,Bp,wj]at h1 h3
  |tup us=>
   cases v <;> simp[V.BB,Bp,wj]at h1 h3
  |_=>
   obtain⟨q1,q2⟩:=hr;obtain⟨r1,_⟩:=AA.BB v _ h1 q1;exact(Bd h3).2 ⟨r1,by rw[h4];exact q2⟩
 cases v
 case ts eb e cs=>
  have hp:=hp eb e cs rfl;simp only[Gs]at hi;cases x <;> simp only at hi hp
  case sl eb' e' cs' t=>
   obtain⟨rfl,rfl,rfl,hl⟩:=hi;obtain⟨h1,_⟩:=(Bi rfl rfl).1 hr;simp only[AA]at h1;obtain⟨a,n,cap,hv,hrc,y,L,h2,h3,h4⟩:=h1;simp at hv;subst hv;simp only[V.slot];refine(Bi rfl rfl).2 ⟨?_,rfl⟩;simp only[AA];exact⟨a,n,cap,rfl,hrc,y,L,by simp[G.fin,hp,h2],h3,h4⟩
  case emp eb' e'=>
   obtain⟨rfl,rfl,rfl⟩:=hi;obtain⟨h1,_⟩:=(Bi rfl rfl).1 hr;simp only[AA]at h1;obtain⟨a,hv⟩:=h1;simp at hv;subst hv;simp only[V.slot];refine(Bi rfl rfl).2 ⟨?_,rfl⟩;simp only[AA];exact⟨a,0,0,rfl,Dm rfl (bx _) (dv _) (by rw[gy];exact dv _) (.inl rfl),none,0,by simp[G.fin,hp],bx _,fun _=>rfl⟩
  case ym=>
   subst hi;have hp2:look z5Z m=some none:=by assumption
   rw[Fb hr];simp only[V.slot];refine(Bi rfl rfl).2 ⟨?_,rfl⟩;simp only[AA];exact⟨none,0,0,rfl,Dm rfl (bx _) (dv _) (by rw[gy];exact dv _) (.inl rfl),none,0,by simp[G.fin,hp2],bx _,fun _=>rfl⟩
 all_goals exact other rfl (by simpa only[Gs]using hi)
def q4f {Γ}:∀(xs:List V) (vs:List Value),xs.length=vs.length->(∀(i:Nat) x,xs[i]? =some x->x.plain=true)->(∀(i:Nat) x v,xs[i]? =some x->vs[i]? =some v->AG Γ x v)->BF Γ xs vs:=
 fun xs vs hl hp hr=>UI hl fun i x v hx hv=>⟨hp i x hx,hr i x v hx hv⟩
def zN:∀(xs:List V) (i j:Nat),look (PC i xs) j=if i<=j then xs[j-i]? else none
 | [],i,j=>by simp[PC,look]
 |x::xs,i,j=>by simp only[PC,look,zN xs (i+1) j];by_cases h1:i=j;{subst h1;simp};{rw[if_neg h1];by_cases h2:i<=j;{rw[if_pos h2,if_pos (by omega),show j-i=(j-(i+1))+1 by omega,gf]};{rw[if_neg h2,if_neg (by omega)]}}
def aQ (hP:Aq X.P=true) {f} {fn:Func} {c} {xs:List V} {A v L}
  (hf:X.P.funcs[f]? =some fn) (hb:fn.body=some c) (hn:fn.ntmps=n) (hlen:xs.length<=n)
  (h:∀A',(∀k o,A k=some o->A' k=some o)->DC X n c (kc xs A') fun e s'=>(e= .normal\/e= .ret)/\Jh X fn A' v L s'):Bo X f xs A v L:=by
 intro A' Γ w args hAA hgl ⟨c0,hA0⟩ yz za;subst hn;refine calls_of_wp hf hb ?_;refine wp_mono (h A' hAA Γ {tmps:=args++Array.replicate (fn.ntmps-args.size) undef,defers:=[]} w ⟨Γ,.refl Γ,hgl,c0,?_,by simp;omega,rfl,hA0⟩) ?_
 ·intro i;have z58:(kc xs A').get i=((CZ 1000 xs)[i]?).getD .any:=by simp only[S.get,kc,zN,dv,if_true,Nat.sub_zero]
  rw[z58];cases hx:(CZ 1000 xs)[i]? with
  |none=>simp[AG]|some x=>
   have hi:i<args.size:=by rw[<-yz,<-mV 1000 xs];exact(bu.1 hx).1
   have hv:args[i]? =some args[i]:=ee hi;have:=za i x _ hx hv;rw[im,Array.getElem?_append_left hi,hv];simpa using this
 ·rintro e a w' ⟨s',⟨he,hA,hL,z8g,yx,hch,z6s⟩,Γ',g1,g3,c',hs,hn,hfr,zk⟩;obtain⟨us,hvs,hvl,hvr⟩:=q1B hP c' hs _ hch;split at z6s
  ·rename_i vs zp;obtain⟨hri,hnd⟩:=z6s;generalize hxs:Eh X s' fn.results.toList=rs at*;have hrl:rs.length=fn.results.toList.length:=by rw[<-hxs];exact q1d _
   have z6F:Sub Γ' (Γ'.fin (Bf L) (Fc 2000 rs vs)) (Bf L) BS:=
    ⟨rfl,rfl,rfl,rfl,rfl,fun _=>rfl,fun n h=>by simp[G.fin,h],fun t h=>by simp[BS]at h,fun b k p sz h=>by simp[G.fin,h]⟩
   have hvlen:=q1b hri;have hul:us.length=rs.length:=by rw[hvl,hrl]
   -- what the places of the result's tokens are
   have htk:∀m,look (v.tkR 2000) m=if 2000<=m then(match vs[m-2000]? with|some (.ts _ _ cs)=>some (some cs.length)|_=>none)else none:=by
    intro m;cases rs with
    |nil=>cases v <;> simp[KQ]at zp;subst zp;simp only[V.tkR,Um] <;> rfl
    |cons x1 rs1=>cases rs1 with
     |nil=>
      simp only[KQ]at zp;cases zp;obtain⟨x',_,hi'⟩:=QB hri (i:=0) (v:=v) rfl;have hnt:v.tkR 2000=v.DR 2000:=by cases v <;> simp[V.tkR];simp[Gs,wj]at hi'
      rw[hnt,q2n];by_cases hm:2000=m;{subst hm;simp;cases v <;> rfl};{rw[if_neg hm];by_cases hm2:2000<=m;{rw[if_pos hm2,show m-2000=(m-2001)+1 by omega];simp};{rw[if_neg hm2]}}
     |cons x2 rs2=>cases v <;> simp[KQ]at zp;subst zp;simp only[V.tkR,Um] <;> rfl
   have z7x:AQ (Γ'.fin (Bf L) (Fc 2000 rs vs)) w' (S.fin v L A'):=by
    refine c'.sub (s':=S.fin v L A') z6F rfl (fun n h=>by simp[G.fin,show Bf L n=false from h]) hA.symm zk hL z8g (hA ▸ yx) (fun b o sz h=>?_) (fun m M h=>?_) (fun m h=>?_)
    ·simp only[G.fin]at h;cases hk:Γ'.κ b with
     |none=>simp[hk]at h|some y=>
      obtain⟨o',sz'⟩:=y;cases o' with
      |home k p=>simp[hk]at h;exact⟨_,by rw[h.2],fun T hT=>by rw[<-h.1];exact hT⟩|tok t=>
       simp only[hk]at h;split at h;{simp at h;exact⟨_,by rw[h.2],fun T _=>by rw[<-h.1];trivial⟩};{cases h}
    · -- a live token of the result
     have h:look (v.tkR 2000) m=some (some M):=by
      unfold uq EA at h;change (match look (v.tkR 2000) m with|some (some L)=>some L|_=>none)=some M at h;cases hl:look (v.tkR 2000) m with
      |none=>simp[hl]at h|some y=>cases y with|none=>simp[hl]at h|some M'=>simp[hl]at h;rw[h]
     rw[htk]at h;by_cases hm:2000<=m
     ·rw[if_pos hm]at h;cases hv:vs[m-2000]? with
      |none=>simp[hv]at h|some v1=>
       obtain⟨x1,hx1,hi1⟩:=QB hri hv;cases v1 <;> simp[hv]at h;rename_i eb e cs;subst h;have zx:=YL (n:=2000) (xs:=rs) (vs:=vs) (m:=m);rw[if_pos hm,hx1,hv]at zx;simp only[Gs]at hi1;cases x1 <;> simp only at hi1 zx;{obtain⟨rfl,rfl,rfl,z57⟩:=hi1;rename_i cs' t;obtain⟨y,a1,a2⟩:=c'.tok t _ z57;refine⟨y,by simp[G.fin,zx,a1],fun b pos sz hy=>?_⟩;obtain⟨a3,a4⟩:=a2 b pos sz hy;exact⟨a3,by simp[G.fin,a4,iL hnd zx]⟩};{obtain⟨rfl,rfl,rfl⟩:=hi1;exact⟨none,by simp[G.fin,zx],fun b pos sz h=>by cases h⟩};{subst hi1;exact⟨none,by simp[G.fin,zx],fun b pos sz h=>by cases h⟩}
     ·rw[if_neg hm]at h;cases h
    · -- tokens known
     have:look (Fc 2000 rs vs) m≠none:=by intro e;simp[G.fin,e]at h
     rw[YL]at this;unfold yg;change (look (v.tkR 2000) m).isSome=true;rw[htk];by_cases hm:2000<=m
     ·rw[if_pos hm]at this ⊢;cases hv:vs[m-2000]? with
      |none=>rw[hv]at this;cases hx1:rs[m-2000]? with|none=>simp[hx1]at this|some x1=>simp[hx1]at this
      |some v1=>
       rw[hv]at this;cases v1
       case ts=>rfl
       all_goals (exfalso;cases hx1:rs[m-2000]? with|none=>simp[hx1]at this|some x1=>simp[hx1]at this)
     ·rw[if_neg hm]at this;exact absurd rfl this
   have z7h:(results fn a.tmps).run X.P w'= .ok (if h:us.length=1 then us[0]else .tuple us.toArray) w':=by
    have z8h:(fn.results.mapM (UR a)).run X.P w'= .ok us.toArray w':=by rw[Array.mapM_eq_mapM_toList];simp only[Sem.run_map]at hvs ⊢;rw[hvs];rfl
    rw[z3n];simp only[cu];rw[z8h];simp only[cr,fb,List.size_toArray];split <;> simp
   have z56:∀(i:Nat) (v1:V) (u:Value),vs[i]? =some v1->us[i]? =some u->AG (Γ'.fin (Bf L) (Fc 2000 rs vs)) (v1.slot (2000+i)) u:=by intro i v1 u hv1 hu;obtain⟨x1,hx1,hi1⟩:=QB hri hv1;refine z3l c' z6F (hvr i x1 u hx1 hu) hi1 fun eb e cs hts=>?_;subst hts;have zx:=YL (n:=2000) (xs:=rs) (vs:=vs) (m:=2000+i);rw[if_pos (by omega),show 2000+i-2000=i by omega,hx1,hv1]at zx;simp only[Gs]at hi1;cases x1 <;> simp only at hi1 zx ⊢ <;> exact zx
   have hpl:∀(i:Nat) (x:V),(CZ 2000 vs)[i]? =some x->x.plain=true:=by
    intro i x hx;rw[Ue]at hx;cases hv1:vs[i]? with
    |none=>simp[hv1]at hx|some v1=>
     simp[hv1]at hx;subst hx;obtain⟨x1,_,hi1⟩:=QB hri hv1;cases v1 <;> simp only[Gs]at hi1 <;> first|rfl|(exact hi1.2.2.1)
   have hrv:AG (Γ'.fin (Bf L) (Fc 2000 rs vs)) (v.CY 2000) (if h:us.length=1 then us[0]else .tuple us.toArray):=by
    by_cases h1:us.length=1
    ·rw[dif_pos h1];cases rs with
     |nil=>rw[hul]at h1;simp at h1|cons x1 rs1=>cases rs1 with
      |nil=>
       simp only[KQ]at zp;cases zp;have:=z56 0 v us[0] rfl (bg (by omega));have hsr:v.CY 2000=v.slot 2000:=by cases v <;> simp[V.CY];obtain⟨x',_,hi'⟩:=QB hri (i:=0) rfl;simp[Gs,wj]at hi'
       rw[hsr];exact this
      |cons x2 rs2=>rw[hul]at h1;simp at h1
    ·rw[dif_neg h1];have z6C:BF (Γ'.fin (Bf L) (Fc 2000 rs vs)) (CZ 2000 vs) us:=q4f _ _ (by rw[mV];omega) hpl fun i x u hx hu=>by
      rw[Ue]at hx;cases hv1:vs[i]? with
      |none=>simp[hv1]at hx|some v1=>simp[hv1]at hx;subst hx;exact z56 i v1 u hv1 hu
     have hvt:v= .tup vs:=by
      cases rs with
      |nil=>cases v <;> simp[KQ]at zp;rw[zp]
      |cons x1 rs1=>cases rs1 with|nil=>exact absurd hul h1|cons x2 rs2=>cases v <;> simp[KQ]at zp;rw[zp]
     subst hvt;exact⟨_,rfl,by simpa using z6C⟩
   have z7y:GLe Γ' (Γ'.fin (Bf L) (Fc 2000 rs vs)):=⟨Hp.le_refl _,rfl,fun _ _=>rfl,fun _ _ h=>h,rfl,rfl,fun _ _ h=>h,fun _ h=>h⟩;rcases he with rfl|rfl;{exact⟨hfr,_,z7h,_,_,rfl,g1.trans z7y,z7x,hrv⟩};{exact⟨hfr,_,z7h,_,_,rfl,g1.trans z7y,z7x,hrv⟩}
  ·exact z6s.elim
end
end
end Go.E
