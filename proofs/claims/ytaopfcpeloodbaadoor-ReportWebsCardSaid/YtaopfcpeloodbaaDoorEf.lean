/-
 A framework for runs of Go code over abstract data: what it needs, and that it is sound, part 6.
 Conditions: none.
-/
import Derived.Test.YtaopfcpeloodbaaDoorEe
import Derived.ChangeStays
import Derived.Deep.DeepHandedRow
import Derived.Lib.LaidTab
import Derived.LoopN
set_option linter.all false
namespace Go.E
open Go Go.ChangeShapes Go.WideShapes Go.RowKit
def z00 (P:Program):Bool:=(List.range P.types.size).all fun t=>match P.underlying t with
 |some (.slice e)=>decide (0<P.cellsOf e)
 |_=>true
def z3O (w:World) (gl:Nat→Option (Ty × C)):Prop:=∀g τ c,gl g=some (τ,c)→∃l,q31 w g=some l∧τ.size≤l.length∧z7 (q31 w) τ (chunk l 0 τ.size) c
def z6F (P:Program):List (String × DataW Unit)→Nat→Option (Ty × C)
 | [],_=>none
 |(n,d)::r,g=>if P.globalNamed n=some g then(match(P.globals[g]?).map (·.type)with|some t=>some (ty P t,cOf d)|none=>none)else z6F P r g
def z2f (P:Program) (l:List (String × DataW Unit)):Bool:=l.all fun x=>match P.globalNamed x.1 with
 |some g=>match(P.globals[g]?).map (·.type)with
  |some t=>decide (t<P.types.size)&&(ty P t).dat&&(x.2.weights P t).all (·≤reachBytes)
  |none=>false
 |none=>false
theorem z4i {P:Program} (hP:x4 P=true) {w:World}:∀{l:List (String × DataW Unit)} {ps:List MemPlace},z2f P l=true→DataW.LaidVars P w l ps→z3O w (z6F P l)
 | [],_,_,_=>fun g τ c h=>by simp[z6F]at h
 |(n,d)::r,ps,hk,h=>by
  obtain⟨g0,t,cs,fuel,p,q,hg,ht,hv,hd,hr,_⟩:=h
  simp only[z2f,List.all_cons,Bool.and_eq_true,hg,ht,decide_eq_true_eq]at hk
  obtain⟨⟨⟨k1,k2⟩,k3⟩,k4⟩:=hk
  intro g τ c h
  simp only[z6F]at h
  split at h
  ·rename_i e
   rw[hg]at e;cases e
   rw[ht]at h
   simp at h
   obtain⟨rfl,rfl⟩:=h
   have hrep:=q2E hP (fun _=>rfl) fuel 12 k1 k2 hd k3
   simp only[World.var?,hg,Option.bind_some]at hv
   split at hv
   ·rename_i c T fr hc
    cases hv
    have hl:=hrep.length
    refine⟨cs.toList,by simp[q31,hc],by show(tyF P 12 t).size≤_;omega,?_⟩
    have:chunk cs.toList 0 (ty P t).size=cs.toList:=by
     show chunk cs.toList 0 (tyF P 12 t).size=_
     rw[←hl];exact q2f _
    rw[this]
    exact hrep
   ·cases hv
  ·exact z4i hP k4 hr g τ c h
theorem y2h {P:Program} (hP:x4 P=true) {w:World} {l:List (String × DataW Unit)} (hk:z2f P l=true) (hn:(l.all fun x=>x.2.handleName?.isNone)=true) (h:laidMetH P l w):z3O w (z6F P l):=by
 rw[MakeChecks.laidMetH_plain _ _ _ hn]at h
 obtain⟨ps,h1,_⟩:=h
 exact z4i hP hk h1
def G.start (w:World) (gl:Nat→Option (Ty × C)):G:=
 {H:=q31 w,Z:=fun b=>w.heap[b]?,ι:=fun _=>none,τ:=fun _=>none,κ:=fun _=>none,gl:=gl,oo:=oof w,σ:=fun _=>none}
theorem z14 (n:Nat):∀(ts:List Ty) (cs:List C),q2i n (List.zipWith V.d ts cs)=[]
 | [],_=>by simp[q2i]
 |_::_,[]=>by simp[q2i]
 |t::ts,c::cs=>by simp[q2i,V.q0N,z14 (n+1) ts cs]
theorem z8d (n:Nat):∀(ts:List Ty) (cs:List C),X6 n (List.zipWith V.d ts cs)=List.zipWith V.d ts cs
 | [],_=>by simp[X6]
 |_::_,[]=>by simp[X6]
 |t::ts,c::cs=>by simp[X6,V.slot,z8d (n+1) ts cs]
theorem z9V {w:World} {gl:Nat→Option (Ty × C)} (h:z3O w gl) (ts:List Ty) (cs:List C):z8 (G.start w gl) w (S.start (List.zipWith V.d ts cs) fun _=>none):=by
 refine⟨fun b l hb=>?_,fun b o hb=>hb,fun b o sz hb=>by simp[G.start]at hb,fun k o hk=>?_,fun k hk=>absurd rfl hk,fun k k' b τ τ' hk=>by simp[G.start]at hk,fun t L ht=>?_,fun t ht=>absurd rfl ht,h,rfl,fun b sz hb=>by simp[G.start]at hb⟩
 ·simp only[G.start,q31]at hb
  split at hb
  ·rename_i c T fr hc
   cases hb
   exact⟨c,T,fr,[],hc,by simp⟩
  ·cases hb
 ·cases k <;> simp[S.start,S.obj,b6,z6]at hk
 ·simp[S.start,S.live,z14,F1,look]at ht
theorem q6C {H:Type} {enc:TypeId × Value→H} {P:Program} {w:World} {base:Nat} {sp:Nat→Bool} {held:Bool}:∀{ts:List TypeId} {vs:List Value} {ds:List (DataW H)} {ps:List MemPlace},
  DataW.TrodAll enc P w base sp held ts vs ds ps→vs.length=ts.length∧ds.length=ts.length
 | [],vs,ds,ps,h=>by obtain⟨rfl,rfl,rfl⟩:=trodAll_nil h;simp
 |t::ts,vs,ds,ps,h=>by
  obtain⟨v,vs,d,ds,p,q,rfl,rfl,rfl,h1,h2⟩:=trodAll_cons h
  have:=q6C h2
  simp[this]
theorem z0q {H:Type} {enc:TypeId × Value→H} {P:Program} {w:World} {base:Nat} {sp:Nat→Bool} {held:Bool}:∀{ts:List TypeId} {vs:List Value} {ds:List (DataW H)} {ps:List MemPlace} {i:Nat} {t:TypeId} {v:Value} {d:DataW H},
  DataW.TrodAll enc P w base sp held ts vs ds ps→ts[i]? =some t→vs[i]? =some v→ds[i]? =some d→∃p,DataW.Trod enc P w base sp held t v d p
 | [],vs,ds,ps,i,t,v,d,h,ht,_,_=>by simp at ht
 |t::ts,vs,ds,ps,i,t',v',d',h,ht,hv,hd=>by
  obtain⟨v,vs,d,ds,p,q,rfl,rfl,rfl,h1,h2⟩:=trodAll_cons h
  cases i with
  |zero=>simp at ht hv hd;subst ht;subst hv;subst hd;exact⟨p,h1⟩
  |succ i=>exact z0q h2 (by simpa using ht) (by simpa using hv) (by simpa using hd)
theorem q8P {H:Type} {enc:TypeId × Value→H} {P:Program} (hl:laidOutB P=true) (hm:mapsRowed P=true) (hz:z00 P=true) {w w':World} (hh:∀b,b<w.heap.size→w'.heap[b]? =w.heap[b]?) {sp:Nat→Bool}:
  ∀{ts:List TypeId} {vs:List Value} {ds:List (DataW H)} {ps:List MemPlace},(∀t∈ts,t<P.types.size)→DataW.TrodAll enc P w 0 (fun _=>true) true ts vs ds ps→(∀p∈ps,sp p.block=true)→DataW.TrodAll enc P w' 0 sp true ts vs ds ps
 | [],vs,ds,ps,_,h,_=>by obtain⟨rfl,rfl,rfl⟩:=trodAll_nil h;exact trodAll_mk0
 |t::ts,vs,ds,ps,hts,h,hs=>by
  have hlt:=DataW.TrodAll.lt h
  obtain⟨v,vs,d,ds,p,q,rfl,rfl,rfl,⟨n,h1⟩,h2⟩:=trodAll_cons h
  refine⟨p,q,⟨n,DataW.trod_stays (kids_rows hl hm) (fun{t e} ht hu=>?_) (fun h=>by cases h) (hts t (by simp)) h1 (fun x hx=>?_) (fun x hx=>hs x (by simp[hx]))⟩,
   q8P hl hm hz hh (fun t ht=>hts t (by simp[ht])) h2 (fun x hx=>hs x (by simp[hx])),rfl⟩
  ·have:=List.all_eq_true.1 hz t (List.mem_range.2 ht)
   simp only[hu]at this
   simpa using this
  ·have:=hlt x (by simp;exact .inl hx)
   cases x with
   |cell b off=>simp only[World.sameAt,World.cell?];rw[hh b this]
   |map b=>simp only[World.sameAt];rw[hh b this]
theorem z6d {P:Program} {W:World} {base:Nat} {t:TypeId} {v:Value} (hd:(ty P t).dat=true) (h:Value.okWide P W .any base t v):x8 v=(ty P t).isAgg:=by
 unfold ty tyF at hd ⊢
 split at hd
 ·rename_i ht
  rw[if_pos ht]
  unfold Value.okWide at h
  cases hu:P.underlying t with
  |none=>simp[hu,Ty.dat]at hd
  |some d=>
   rw[hu]at h
   cases d <;> simp only[hu,Ty.dat,Ty.isAgg,Bool.false_eq_true]at hd h ⊢
   case struct=>obtain⟨cs,rfl,_⟩:=h;rfl
   case array=>obtain⟨cs,rfl,_⟩:=h;rfl
   all_goals
    unfold Cell.okWide at h
    rw[hu]at h
    cases v <;> simp[Cell.ok,hu]at h <;> rfl
 ·simp[Ty.dat]at hd
section
variable {H:Type} {enc:TypeId × Value→H} {P:Program}
theorem z6x (hP:x4 P=true) (hl:laidOutB P=true) (hm:mapsRowed P=true) (hz:z00 P=true) {f:FuncId} {fn:Func} {s:ChangeSpec} {W:World} {base:Nat} {args:Array Value} {ds gs:List (DataW H)} {before:List MemPlace} {apart fresh handsOn again:Bool}
  (hp:fn.params.toList.all (fun t=>decide (t<P.types.size)&&(ty P t).dat)=true) {tb:TypeId} (hr:fn.resultTypes=#[tb]) (hb:P.underlying tb=some .bool) (hvars:s.vars=[])
  (hval:∀(j:Nat) t v,fn.params[j]? =some t→args[j]? =some v→Value.okWide P W .any base t v)
  (hW:DataW.Whole enc P fn.params.toList s.vars apart W args.toList ds gs before)
  (hwt:(DataW.weightsEach P fn.params.toList ds).all (·≤reachBytes)=true) {gl:Nat→Option (Ty × C)} (hgl:z3O W gl)
  (hfr:(s.fn H (ds++gs)).results=[.lit (.bool true)]) (hfa:(s.fn H (ds++gs)).args=ds) (hfv:(s.fn H (ds++gs)).vars=[])
  (law:Q3 ⟨P,gl⟩ f (List.zipWith V.d (fn.params.toList.map (ty P)) (ds.map cOf)) (fun _=>none) (.d .bool (.bool true)) []):
  Calls P f args W fun e W'=>∃v,e= .returned v∧s.post enc P fn apart fresh handsOn again W args v W':=by
 have hW':=hW
 obtain⟨p,q,hA,hV,rfl,hfz,hnd⟩:=hW
 rw[hvars]at hV
 obtain⟨rfl,rfl⟩:=trodVars_none hV
 have hlens:=q6C hA
 have hpar:∀t∈fn.params.toList,t<P.types.size∧(ty P t).dat=true:=by
  intro t ht
  have:=List.all_eq_true.1 hp t ht
  simpa using this
 refine(law (fun _=>none) (G.start W gl) W args (fun _ _ h=>h) rfl ⟨z9V hgl _ _,fun _ _ h=>nomatch h⟩ ?_ ?_).mono ?_
 ·simp only[List.length_zipWith,List.length_map,hlens.2]
  have:=hlens.1
  simp at this ⊢
  omega
 ·intro i x u hx hu
  rw[z8d,List.getElem?_zipWith]at hx
  split at hx
  ·rename_i τ c hτ hc
   cases hx
   simp only[List.getElem?_map,Option.map_eq_some_iff]at hτ hc
   obtain⟨t,ht,rfl⟩:=hτ
   obtain⟨d,hd,rfl⟩:=hc
   have hu':args.toList[i]? =some u:=by simpa using hu
   obtain⟨ps,fuel,htr⟩:=z0q hA ht hu' hd
   have hm:=hpar t (List.mem_of_getElem? ht)
   have hv:=hval i t u (by simpa using ht) hu
   refine(y8 rfl).2 ⟨?_,?_⟩
   ·simp only[q8]
    exact q2E hP (fun _=>rfl) fuel 12 hm.1 hm.2 htr (q29 ht hd hwt)
   ·simp only[V.ty]
    exact z6d hm.2 hv
  ·cases hx
 ·rintro e W' ⟨u,Γ',rfl,gle,c',hu⟩
  have hu':u= .bool true:=(Y1 hu).1
  subst hu'
  refine⟨_,rfl,?_⟩
  have hold:∀b,b<W.heap.size→W'.heap[b]? =W.heap[b]?:=by
   intro b hb
   have:Γ'.Z b=some W.heap[b]:=by rw[gle.Z];simp[G.start,hb]
   rw[c'.hZ b _ this];simp[hb]
  have hoo:oof W'=oof W:=by rw[c'.hoo,gle.oo];rfl
  have hpl:∀t∈fn.params.toList,t<P.types.size:=fun t ht=>(hpar t ht).1
  have hblt:∀x∈p,x.block<W.heap.size:=DataW.TrodAll.lt hA
  have hres:∀(b:Nat) (sp:Nat→Bool) (hd:Bool),DataW.TrodAll enc P W' b sp hd fn.resultTypes.toList ((Value.bool true).resultList fn.resultTypes.size) [.lit (.bool true)] []:=by
   intro b sp hd
   rw[hr]
   exact trodAll_mk1 (shut_bool hb _)
  have hstay:∀sp:Nat→Bool,(∀x∈p,sp x.block=true)→DataW.TrodAll enc P W' 0 sp true fn.params.toList args.toList ds p:=fun sp hs=>q8P hl hm hz hold hpl hA hs
  refine⟨ds,[],p++[],[],p,[],hW',?_,?_,?_,?_,fun _=>⟨?_,[.lit (.bool true)]++ds,[],([]++p)++[],⟨[]++p,[],trodAll_append (hstay _ (fun _ _=>rfl)) (hres _ _ _),by rw[hvars];rfl,rfl,?_,?_⟩,?_⟩⟩
  ·rw[hfr];exact hres _ _ _
  ·rw[hfa];exact hstay _ (fun x hx=>by simpa using hblt x hx)
  ·rw[hfv,hvars];rfl
  ·refine⟨congrArg Prod.fst hoo,congrArg Prod.snd hoo,fun i hi=>?_⟩
   rw[hold i hi]
   cases hc:W.heap[i]? with
   |none=>rfl
   |some o=>cases o <;> simp
  ·intro j t r hj hrr
   rw[hr]at hj hrr
   cases j with
   |zero=>
    simp at hj;subst hj
    have:r= .bool true:=by simpa[Value.resultList]using hrr.symm
    subst this
    exact okWide_bool_mk hb _
   |succ j=>simp at hj
  ·intro b off hx
   have hx':MemPlace.cell b off∈p:=by simpa using hx
   have:=hfz b off (by simpa using hx')
   unfold World.frozen? at this ⊢
   rw[hold b (hblt _ hx')]
   exact this
  ·intro ha
   simpa using hnd ha
  ·intro x hx _
   simpa using hx
end
end Go.E
namespace Go.E
open Go
def z5k {α:Type}:List (Nat × α)→Nat→List (Nat × α)
 | [],_=>[]
 |(j,x)::l,i=>if j=i then z5k l i else(j,x)::z5k l i
def z5l {α:Type}:List (Key × α)→Key→List (Key × α)
 | [],_=>[]
 |(j,x)::l,i=>if j=i then z5l l i else(j,x)::z5l l i
def S.less (s:S) (t j:Nat):S:=⟨z5k s.env t,z5l s.loc (.l j),s.A,s.tk⟩
attribute [go_sem] z5k z5l S.less
end Go.E
namespace Go.E
open Go
section
variable {X:Cx} {md:List (Nat × Nat)} {ops:Array Oper} {Φ:S→Prop} {rest:List Oper} {ts:List Nat} {o:Oper} {base s:S}
end
end Go.E
namespace Go.E
open Go
def y15:Nat→List Nat→Bool
 |_,[]=>false
 |i,j::l=>if i=j then true else y15 i l
def z9q {α:Type}:List (Nat × α)→List Nat→List (Nat × α)
 | [],_=>[]
 |(j,x)::l,ks=>if y15 j ks then(j,x)::z9q l ks else z9q l ks
attribute [go_sem] y15 z9q
mutual
def C.beq:C→C→Bool
 | .int a,.int b=>decide (a=b)
 | .bool a,.bool b=>a==b
 | .str a,.str b=>decide (a=b)
 | .agg a,.agg b=>C.q3G a b
 | .slice a,.slice b=>C.q3G a b
 | .nil,.nil=>true
 |_,_=>false
def C.q3G:List C→List C→Bool
 | [],[]=>true
 |x::xs,y::ys=>C.beq x y&&C.q3G xs ys
 |_,_=>false
end
mutual
theorem C.beq_iff:∀(a b:C),C.beq a b=true↔a=b
 | .int a,b=>by cases b <;> simp[C.beq]
 | .bool a,b=>by cases b <;> simp[C.beq]
 | .str a,b=>by cases b <;> simp[C.beq]
 | .agg a,b=>by cases b <;> simp[C.beq,C.q4b a]
 | .slice a,b=>by cases b <;> simp[C.beq,C.q4b a]
 | .nil,b=>by cases b <;> simp[C.beq]
theorem C.q4b:∀(a b:List C),C.q3G a b=true↔a=b
 | [],b=>by cases b <;> simp[C.q3G]
 |x::xs,[]=>by simp[C.q3G]
 |x::xs,y::ys=>by simp[C.q3G,C.beq_iff x,C.q4b xs]
end
instance:DecidableEq C:=fun a b=>decidable_of_iff _ (C.beq_iff a b)
theorem C.q96 (a b:C):C.eqb a b=C.beq a b:=by
 rw[Bool.eq_iff_iff,C.J6,C.beq_iff]
def V.isAny:V→Bool
 | .any=>true
 |_=>false
theorem V.q1F {x:V} (h:x.isAny=false):x≠.any:=by
 intro e;subst e;cases h
instance (k:IntKind) (x:V):Decidable (x.isInt k):=by unfold V.isInt;split <;> infer_instance
instance (x:V):Decidable x.isBool:=by unfold V.isBool;split <;> infer_instance
instance (x:V):Decidable x.isStr:=by unfold V.isStr;split <;> infer_instance
instance (x:V):Decidable x.Y2:=by unfold V.Y2;split <;> infer_instance
instance (τ:Ty) (x:V):Decidable (x.Z4 τ):=by unfold V.Z4;split <;> infer_instance
def S.wA (s:S) (A:Key→Option O):S:={s with A:=A}
def leA (A A':Key→Option O):Prop:=∀k o,A k=some o→A' k=some o
theorem Z6 {s:S} {A':Key→Option O} (hA:leA s.A A') {k:Key} {o:O} (h:s.obj k=some o):(s.wA A').obj k=some o:=by
 simp only[S.obj,b6,S.wA]at h ⊢
 cases hl:z6 s.loc k with
 |some x=>rw[hl]at h;exact h
 |none=>
  rw[hl]at h
  cases k with
  |l n=>cases h
  |g k=>exact hA _ _ h
theorem q1k (s:S) (A':Key→Option O) (n:Nat):(s.wA A').obj (.l n)=s.obj (.l n):=rfl
theorem Y3 (gl:Nat→Option (Ty × C)) (s:S) (A':Key→Option O):y5 gl (s.wA A')=y5 gl s:=by
 funext y;cases y <;> rfl
theorem z8Q {s:S} {A':Key→Option O} (hA:leA s.A A'):leA s.up (s.wA A').up:=by
 intro k o h
 simp only[S.up,Option.map_eq_some_iff]at h ⊢
 obtain⟨x,h1,h2⟩:=h
 exact⟨x,Z6 hA h1,h2⟩
theorem y3H (s:S) (A':Key→Option O) (t:Nat):(s.wA A').live t=s.live t:=rfl
theorem z2A {s:S} {A':Key→Option O} (hA:leA s.A A') {x:V} {r:Nat × Ty × List C} (h:Y0 s x=some r):Y0 (s.wA A') x=some r:=by
 cases x <;> simp only[Y0]at h ⊢ <;> try exact h
 split at h
 ·rename_i y hy
  rw[Z6 hA hy]
  exact h
 ·cases h
def z2Q (τ:Ty):V→List (Nat × V)→Bool
 |_,[]=>true
 |x,(i,v)::rest=>(τ.child i).isSome&&decide ((Q6 (τ.get i) v).ty=τ.get i)&&(Q6 (τ.get i) v).plain&& !(x.at [i]).isAny&&z2Q τ (x.setAt [i] (Q6 (τ.get i) v)) rest
theorem z4v {τ:Ty}:∀{l:List (Nat × V)} {x:V},z2Q τ x l=true→q4a τ x l
 | [],_,_=>trivial
 |(i,v)::rest,x,h=>by
  simp only[z2Q,Bool.and_eq_true,decide_eq_true_eq,Bool.not_eq_true']at h
  exact⟨h.1.1.1.1,h.1.1.1.2,h.1.1.2,V.q1F h.1.2,z4v h.2⟩
abbrev RI:=V × List (Key × O) × List (Nat × Option Nat)
def z5a {α:Type}:List (C × α)→C→α→List (C × α)
 | [],c,v=>[(c,v)]
 |(k,u)::es,c,v=>if C.beq c k=true then(k,v)::es else(k,u)::z5a es c v
theorem z5X {α:Type} (c:C) (v:α):∀(es:List (C × α)),z5a es c v=q0O es c v
 | []=>rfl
 |(k,u)::es=>by simp only[z5a,q0O,C.q96,z5X c v es]
theorem y1M {P:Program} {s:S} {A':Key→Option O} (hA:leA s.A A') {src dst:TypeId} {x:V} {ys:List C} (h:strOf P s src dst x=some ys):strOf P (s.wA A') src dst x=some ys:=by
 cases hel:Y0 s x with
 |some r=>
  rw[←h]
  unfold strOf
  rw[hel,z2A hA hel]
 |none=>
  unfold strOf at h ⊢
  rw[hel]at h
  split at h
  ·split at h
   ·rename_i h0
    rw[if_pos h0]
    split at h
    ·exact h
    ·cases h
   ·cases h
  ·cases h
theorem z5z {P:Program} {s:S} {src dst:TypeId} {x:V} {ys:List C} {K:V→Prop} (h:strOf P s src dst x=some ys):¬q5L P src dst x K:=by
 unfold strOf at h
 split at h
 ·rename_i ht hd
  unfold q5L
  rw[ht,hd]
  exact id
 ·cases h
theorem q7W (A':Key→Option O):∀(σ:List (Nat × List Nat)) (s:S),J1 σ (s.wA A')=(J1 σ s).wA A'
 | [],_=>rfl
 |(t,_)::σ,s=>by simp only[J1];exact q7W A' σ (s.tok t none)
theorem z8k (A':Key→Option O) (d:Nat):∀(L:List (Key × O)) (s:S),q2A d L (s.wA A')=(q2A d L s).wA A'
 | [],_=>rfl
 |(k,o)::L,s=>by simp only[q2A,z8k A' d L s];rfl
theorem z8j (A':Key→Option O) (d:Nat):∀(L:List (Nat × Option Nat)) (s:S),q3m d L (s.wA A')=(q3m d L s).wA A'
 | [],_=>rfl
 |(k,o)::L,s=>by simp only[q3m,z8j A' d L s];rfl
theorem z8F (A':Key→Option O):∀(L:List Nat) (s:S),q2Y L (s.wA A')=(q2Y L s).wA A'
 | [],_=>rfl
 |t::L,s=>by simp only[q2Y,z8F A' L s];rfl
theorem y2Q (A':Key→Option O) (tip:Bool) (s:S) (x:V):Q5 tip (s.wA A') x=Q5 tip s x:=rfl
theorem q9e (A':Key→Option O) (tip:Bool) (s:S):∀(ys:List V),c7 tip (s.wA A') ys=c7 tip s ys
 | []=>rfl
 |y::ys=>by simp only[c7,q9e A' tip s ys,y2Q]
theorem z4w (A':Key→Option O) (P:Program) (tip:Bool) (s:S):∀(Ts:List TypeId) (ys:List V),b8 P tip (s.wA A') Ts ys=b8 P tip s Ts ys
 | [],_=>rfl
 |_::_,[]=>rfl
 |T::Ts,y::ys=>by
  simp only[b8,z4w A' P tip s Ts ys]
  rfl
theorem z5H (A':Key→Option O) (s:S) (tip:Bool) (ys:List V) (d:Nat) (v:V) (L:List (Key × O)):(s.wA A').ret tip ys d v L=(s.ret tip ys d v L).wA A':=by
 simp only[S.ret,q9e,z8k,z8F,z8j]
def q32 (s:S) (d:Nat):List (Key × O)→Bool
 | []=>true
 |(.g k,_)::L=>(s.obj k).isSome&&q32 s d L
 |(.l j,_)::L=>(s.obj (.l (rk d j))).isNone&&q32 s d L
theorem q92 {s:S} {A':Key→Option O} (hA:leA s.A A') {d:Nat}:∀{L:List (Key × O)},q32 s d L=true→gOk (s.wA A') d L
 | [],_=>trivial
 |(.g k,_)::L,h=>by
  simp only[q32,Bool.and_eq_true]at h
  obtain⟨o,ho⟩:=Option.isSome_iff_exists.1 h.1
  exact⟨by rw[Z6 hA ho];rfl,q92 hA h.2⟩
 |(.l j,_)::L,h=>by
  simp only[q32,Bool.and_eq_true]at h
  exact⟨by rw[q1k];simpa using h.1,q92 hA h.2⟩
def q5B (s:S) (d:Nat):List (Nat × Option Nat)→Bool
 | []=>true
 |(m,_)::l=> !s.known (rk d m)&&q5B s d l
theorem z2Y {s:S} {A':Key→Option O} {d:Nat}:∀{L:List (Nat × Option Nat)},q5B s d L=true→tOk (s.wA A') d L
 | [],_=>trivial
 |(m,_)::L,h=>by
  simp only[q5B,Bool.and_eq_true,Bool.not_eq_true']at h
  exact⟨h.1,z2Y h.2⟩
def X9 (s:S):List (Key × O)→Bool
 | []=>true
 |(.l n,_)::l=>(s.obj (.l n)).isNone&&X9 s l
 |(.g _,_)::_=>false
theorem q3w {s:S} {A':Key→Option O}:∀{L:List (Key × O)},X9 s L=true→H7 (s.wA A') L
 | [],_=>trivial
 |(.l n,_)::L,h=>by
  simp only[X9,Bool.and_eq_true]at h
  exact⟨by rw[q1k];simpa using h.1,q3w h.2⟩
 |(.g _,_)::_,h=>by simp[X9]at h
def q24 (s:S):List (Nat × Option Nat)→Bool
 | []=>true
 |(t,_)::l=> !s.known t&&q24 s l
theorem q3v {s:S} {A':Key→Option O}:∀{L:List (Nat × Option Nat)},q24 s L=true→H6 (s.wA A') L
 | [],_=>trivial
 |(t,_)::L,h=>by
  simp only[q24,Bool.and_eq_true,Bool.not_eq_true']at h
  exact⟨h.1,q3v h.2⟩
abbrev q6A:=FuncId→List V→(Key→Option O)→Option (V × List (Key × O))
abbrev q9L:=FuncId→List V→Option V
def q7y (X:Cx) (call:q6A):Prop:=∀f xs A v L,call f xs A=some (v,L)→Q3 X f xs A v L
def z0g (X:Cx) (ext:q9L):Prop:=∀f xs v,ext f xs=some v→z5s X f xs v
end Go.E
namespace Go.E
open Go
def y6A (ext:q9L) (o:Oper) (ρ:Operand→V):Option V:=
 match o.op with
 | .call c=>(match c.callee with
  | .value fo=>(match ρ fo with
   | .fn f []=>ext f (c.args.toList.map ρ)
   |_=>none)
  |_=>none)
 |_=>none
def y6z (X:Cx) (call:q6A) (o:Oper) (ρ:Operand→V) (s:S):Option (V × List (Key × O)):=
 match o.op with
 | .call c=>(match c.callee with
  | .value fo=>(match ρ fo with
   | .fn f caps=>if q0R X.P f=true∧c.argTypes.toList.length=c.args.toList.length then
      call f (b8 X.P false s (q3D c.argTypes.toList caps) (Z1 (c.args.toList.map ρ) caps)) s.up else none
   |_=>none)
  |_=>none)
 |_=>none
def J3 (o:Oper) (ρ:Operand→V):List V:=
 match o.op with
 | .call c=>(match c.callee with
  | .value fo=>(match ρ fo with
   | .fn _ caps=>Z1 (c.args.toList.map ρ) caps
   |_=>[])
  |_=>[])
 |_=>[]
def q5o:List Oper→List Nat
 | []=>[]
 |o::l=>(match o.op with
  | .call c=>(match c.callee,c.args.toList with
   | .builtin .append,(.tmp t)::_=>[t]
   |_,_=>[])
  |_=>[])++q5o l
def z6o:Nat→List Nat→Bool
 |_,[]=>false
 |i,j::l=>Nat.beq i j||z6o i l
def o8 (cand:List Nat) (tbl:List (Nat × Nat)) (o:Oper) (ρ:Operand→V) (s:S):Nat:=
 match look tbl (y6 o)with
 |some m=>m
 |none=>(match o.op with
  | .load _ x=>if z6o (y6 o) cand=true then(match ρ x with
    | .ptr k q _=>(match s.obj k with
     |some (.box y)=>(match y.at q with
      | .ts _ _ _=>1
      |_=>0)
     |_=>0)
    |_=>0)else 0
  |_=>0)
def z3p (o:Oper):Bool:=
 match o.op with
 | .call c=>(match c.callee with| .value _=>true|_=>false)
 |_=>false
section
variable {X:Cx} {call:q6A} {ext:q9L} (hc:q7y X call) (he:z0g X ext)
include hc he
end
theorem z9z (ops:Array Oper) (s:S) (A':Key→Option O) (j:Nat):gv ops (s.wA A') j=gv ops s j:=by
 unfold gv;split <;> rfl
theorem q1V (s:S) (A':Key→Option O) (d:Option Nat) (v:V):(s.wA A').set d v=(s.set d v).wA A':=by cases d <;> rfl
theorem Y5 (s:S) (d:Option Nat) (v:V):(s.set d v).A=s.A:=by cases d <;> rfl
section
variable {X:Cx} {call:q6A} {ext:q9L} (hc:q7y X call) (he:z0g X ext)
include hc he
end
end Go.E
namespace Go.E
open Go
def q6q {α β:Type} (l:List α) (l':List β):Bool:=l.isEmpty&&l'.isEmpty
inductive RD where
 |k0 (v:V)|k1 (v:V) (lo:List (Key × O)) (tn:List (Nat × Option Nat))|k2 (v:V) (s:S)
def RD.kind:RD→Nat
 | .k0 _=>0
 | .k1 _ _ _=>1
 | .k2 _ _=>2
def RD.post (s:S) (A':Key→Option O) (K0:V→Prop) (K1:V→List (Key × O)→List (Nat × Option Nat)→Prop) (K2:V→S→Prop):RD→Prop
 | .k0 v=>K0 v
 | .k1 v lo tn=>H7 (s.wA A') lo→H6 (s.wA A') tn→X9 s lo=true→K1 v lo tn
 | .k2 v s1=>K2 v (s1.wA A')
theorem q0D (s:S) (d:Option Nat) (v:V) (k:Key):(s.set d v).obj k=s.obj k:=by cases d <;> rfl
theorem q40 {s:S} {lo:List (Key × O)} {tn:List (Nat × Option Nat)} (h:X9 s lo=true) {k:Key} {o:O} (hk:s.obj k=some o):(s.add lo tn).obj k=some o:=by
 have key:∀{lo:List (Key × O)},X9 s lo=true→z6 lo k=none:=by
  intro lo
  induction lo with
  |nil=>intro _;rfl
  |cons x lo ih=>
   obtain⟨j,y⟩:=x
   cases j with
   |g j=>intro h;simp[X9]at h
   |l n=>
    intro h
    simp only[X9,Bool.and_eq_true]at h
    simp only[z6]
    rw[if_neg,ih h.2]
    intro e
    rw[e,hk]at h
    simp at h
 have e:=key h
 simp only[S.obj,b6,S.add]at hk ⊢
 rw[H2,e]
 exact hk
section
variable {X:Cx} {call:q6A} {ext:q9L} (hc:q7y X call) (he:z0g X ext)
include hc he
end
end Go.E
namespace Go.E
open Go
mutual
theorem V.q2c:∀(x:V),V.u1 x x
 | .d _ _=>by simp[V.u1,s9,V.ty]
 | .emp _ _=>.inl rfl
 | .agg _ vs=>⟨rfl,V.z2i vs⟩
 | .any=>trivial
 | .sl _ _ _ _| .ts _ _ _| .nilc| .ptr _ _ _| .cptr _ _| .sr _ _ _ _ _ _ _| .mp _| .fn _ _| .tup _| .top _=>by simp[V.u1]
theorem V.z2i:∀(xs:List V),V.q0W xs xs
 | []=>trivial
 |x::xs=>⟨V.q2c x,rfl,V.z2i xs⟩
end
def O.z9r:O→Bool
 | .box y=>y.plain&&y.v8
 | .map _ _ _=>true
 | .it _ _| .dead _=>true
theorem O.q2c {o:O} (h:o.z9r=true):O.u1 o o:=by
 cases o with
 |box y=>
  simp only[O.z9r,Bool.and_eq_true]at h
  exact⟨V.q2c y,rfl,h.1,h.2⟩
 |map=>exact⟨rfl,rfl,rfl⟩
 |it=>exact⟨rfl,rfl⟩
 |dead=>exact(rfl:_=_)
mutual
def V.keys:V→List Nat
 | .ptr (.l k) _ _| .mp (.l k)| .sr (.l k) _ _ _ _ _ _=>[k]
 | .agg _ vs| .fn _ vs| .tup vs=>V.q4u vs
 |_=>[]
def V.q4u:List V→List Nat
 | []=>[]
 |x::xs=>x.keys++V.q4u xs
end
mutual
def V.y4q:V→List Nat
 | .sl _ _ _ t=>[t]
 | .agg _ vs| .fn _ vs| .tup vs=>V.y20 vs
 |_=>[]
def V.y20:List V→List Nat
 | []=>[]
 |x::xs=>x.y4q++V.y20 xs
end
def O.keys:O→List Nat
 | .box x=>x.keys
 | .map _ _ es=>V.q4u (es.map (·.2))
 | .it _ _| .dead _=>[]
def reach (loc:List (Key × O)):Nat→List Nat→List Nat→List Nat
 |0,_,acc=>acc
 |_,[],acc=>acc
 |f+1,k::ks,acc=>if z6o k acc=true then reach loc f ks acc else match z6 loc (.l k)with
  |some o=>reach loc f (o.keys++ks) (k::acc)
  |none=>reach loc f ks acc
def q4v:List (Key × O)→List Nat
 | []=>[]
 |(.g _,o)::l=>o.keys++q4v l
 |(.l _,_)::l=>q4v l
def q1m (loc:List (Key × O)) (ks:List Nat):List (Key × O)
 →List (Key × O)
 | []=>[]
 |(.g k,_)::l=>(match z6 loc (.g k)with|some o=>[(.g k,o)] |none=>[])++q1m loc ks l
 |(.l k,_)::l=>(if z6o k ks=true then(match z6 loc (.l k)with|some o=>[(.l k,o)] |none=>[])else[])++q1m loc ks l
def q27:List (Key × O)→Bool
 | []=>true
 |(_,o)::l=>o.z9r&&q27 l
def q3I (L:List (Key × O)):List (Key × O)→Bool
 | []=>true
 |(.g k,_)::l=>(z6 L (.g k)).isSome&&q3I L l
 |(.l _,_)::l=>q3I L l
theorem q4d {L:List (Key × O)} {A:Key→Option O}:∀{l:List (Key × O)},q3I L l=true→q56 L A l
 | [],_=>trivial
 |(.g k,_)::l,h=>by
  simp only[q3I,Bool.and_eq_true]at h
  exact⟨.inl h.1,q4d h.2⟩
 |(.l _,_)::l,h=>q4d (l:=l) h
theorem q4o {s:S} {k:Key} {o:O} (h:z6 s.loc k=some o):s.obj k=some o:=by
 simp only[S.obj,b6,h]
theorem q21 {s:S} (ks:List Nat):∀{l:List (Key × O)},q27 (q1m s.loc ks l)=true→q2B s (q1m s.loc ks l)
 | [],_=>trivial
 |(.g k,_)::l,h=>by
  simp only[q1m]at h ⊢
  cases hl:z6 s.loc (.g k)with
  |none=>rw[hl]at h;exact q21 ks h
  |some o=>
   rw[hl]at h
   simp only[List.cons_append,List.nil_append,q27,Bool.and_eq_true]at h ⊢
   refine⟨?_,q21 ks h.2⟩
   rw[q4o hl]
   exact O.q2c h.1
 |(.l k,_)::l,h=>by
  simp only[q1m]at h ⊢
  by_cases hk:z6o k ks=true
  ·rw[if_pos hk]at h ⊢
   cases hl:z6 s.loc (.l k)with
   |none=>rw[hl]at h;exact q21 ks h
   |some o=>
    rw[hl]at h
    simp only[List.cons_append,List.nil_append,q27,Bool.and_eq_true]at h ⊢
    refine⟨?_,q21 ks h.2⟩
    rw[q4o hl]
    exact O.q2c h.1
  ·rw[if_neg hk]at h ⊢
   exact q21 ks h
def q0x (s:S):List Nat→List (Nat × V)
 | []=>[]
 |i::l=>(i,s.get i)::q0x s l
def q2K (f g:Nat→Bool):List (Nat × V)→Bool
 | []=>true
 |(_,x)::l=>x.ok f g&&q2K f g l
theorem z3x {s:S} {f g:Nat→Bool}:∀{l:List Nat},q2K f g (q0x s l)=true→q48 f g s (q0x s l)
 | [],_=>trivial
 |i::l,h=>by
  simp only[q0x,q2K,Bool.and_eq_true]at h
  exact⟨V.q2c _,h.1,.inr rfl,z3x h.2⟩
def q0N (s:S):List Nat→List (Nat × Option Nat)
 | []=>[]
 |t::l=>(match look s.tk t with|some x=>[(t,x)] |none=>[])++q0N s l
theorem z1D {s:S}:∀{l:List Nat},tkW s (q0N s l)
 | []=>trivial
 |t::l=>by
  simp only[q0N]
  cases hl:look s.tk t with
  |none=>exact z1D
  |some x=>
   refine⟨?_,z1D⟩
   cases x with
   |none=>simp[S.known,hl]
   |some L=>simp[S.live,F1,hl]
def z8C:List (Nat × V)→List Nat
 | []=>[]
 |(_,x)::l=>x.keys++z8C l
def z3y:List (Nat × V)→List Nat
 | []=>[]
 |(_,x)::l=>x.y4q++z3y l
def gcS (keep:List Nat) (s:S):S:=
 ⟨q0x s keep,q1m s.loc (reach s.loc 100000 (z8C (q0x s keep)++q4v s.loc) []) s.loc,s.A,q0N s (z3y (q0x s keep))⟩
def gcB (keep:List Nat) (s:S):Bool:=
 q27 (gcS keep s).loc&&q0u (c9 (gcS keep s).loc) (W5 (gcS keep s).tk) (gcS keep s).loc&&q3I (gcS keep s).loc s.loc&&q2K (c9 (gcS keep s).loc) (W5 (gcS keep s).tk) (q0x s keep)
theorem y3Q {X:Cx} {n:Nat} {keep:List Nat} {s:S} (A':Key→Option O) (h:gcB keep s=true):q0g X n (s.wA A') ((gcS keep s).wA A'):=by
 simp only[gcB,Bool.and_eq_true]at h
 obtain⟨⟨⟨h1,h2⟩,h3⟩,h4⟩:=h
 refine z77 rfl ?_ h2 (q4d h3) ?_ ?_
 ·exact q21 (s:=s.wA A') _ h1
 ·have:∀l,q0N (s.wA A') l=q0N s l:=by
   intro l
   induction l with
   |nil=>rfl
   |cons i l ih=>simp only[q0N,ih];rfl
  show tkW (s.wA A') (q0N s (z3y (q0x s keep)))
  rw[←this]
  exact z1D
 ·have:q0x (s.wA A') keep=q0x s keep:=by
   generalize keep=l
   induction l with
   |nil=>rfl
   |cons i l ih=>simp only[q0x,ih];rfl
  show q48 _ _ (s.wA A') (q0x s keep)
  rw[←this]at h4 ⊢
  exact z3x h4
def q7d (ml:List (Nat × Nat)):List (Nat × Nat)→Bool
 | []=>true
 |(d,m)::l=>Nat.beq (r7 ml d) m&&q7d ml l
theorem q6s {ml:List (Nat × Nat)}:∀{l:List (Nat × Nat)},q7d ml l=true→∀p∈l,r7 ml p.1=p.2
 |(d,m)::l,h,p,hp=>by
  simp only[q7d,Bool.and_eq_true]at h
  rcases List.mem_cons.1 hp with rfl|hp
  ·exact Nat.eq_of_beq_eq_true h.1
  ·exact q6s h.2 p hp
def slotsOf:List (Nat × V)→List Nat
 | []=>[]
 |(i,_)::l=>i::slotsOf l
section
variable {X:Cx} {call:q6A} {ext:q9L} (hP:x4 X.P=true) (hmo:X.P.follows .mixedOrders=true) (hc:q7y X call) (he:z0g X ext)
include hP hmo hc he
end
end Go.E
namespace Go.E
open Go
section
variable {X:Cx} {call:q6A} {ext:q9L} (hP:x4 X.P=true) (hmo:X.P.follows .mixedOrders=true) (hc:q7y X call) (he:z0g X ext)
include hP hmo hc he
end
mutual
def V.q14:V→V
 | .sl eb e cs _=>.d (.slice eb e) (.slice cs)
 | .agg τ vs=>.agg τ (V.z9d vs)
 |x=>x
def V.z9d:List V→List V
 | []=>[]
 |x::xs=>x.q14::V.z9d xs
end
theorem V.z8l (x:V):x.q14.ty=x.ty:=by cases x <;> rfl
mutual
theorem V.z3X:∀(x:V),V.u1 x x.q14
 | .sl _ _ cs _=>by simp[V.q14,V.u1,s9,V.ty]
 | .agg τ vs=>⟨rfl,V.z11 vs⟩
 | .d _ _=>by simp[V.q14,V.u1,s9,V.ty]
 | .emp _ _=>.inl rfl
 | .any=>trivial
 | .ts _ _ _| .nilc| .ptr _ _ _| .cptr _ _| .sr _ _ _ _ _ _ _| .mp _| .fn _ _| .tup _| .top _=>by simp[V.q14,V.u1]
theorem V.z11:∀(xs:List V),V.q0W xs (V.z9d xs)
 | []=>trivial
 |x::xs=>⟨V.z3X x,V.z8l x,V.z11 xs⟩
end
def z07 (s:S) (x:V):V:=
 match x with
 | .sl eb e cs t=>if s.live t=some cs.length then .ts eb e cs else .d (.slice eb e) (.slice cs)
 |x=>x.q14
def q3p (s:S):List V→List V
 | []=>[]
 |x::xs=>z07 s x::q3p s xs
def z55 (f:Nat→Bool):List V→Bool
 | []=>true
 |v::vs=>(match v with| .ts _ _ _=>true|v=>v.ok f Q4&&v.plain)&&z55 f vs
def z15:List V→Bool
 | []=>true
 |v::vs=>v.q6o&&z15 vs
theorem y3C {s:S} {f:Nat→Bool} {x:V} (hx:x.q6o=true) (h:(match z07 s x with| .ts _ _ _=>true|v=>v.ok f Q4&&v.plain)=true):H9 s f x (z07 s x):=by
 have gen:∀{x:V},x.q14.q6o=true→(x.q14.ok f Q4&&x.q14.plain)=true→H9 s f x x.q14:=by
  intro x hn h
  have:V.u1 x x.q14∧x.q14.ok f Q4=true∧x.q14.plain=true∧x.q14.ty.isAgg=x.ty.isAgg:=by
   simp only[Bool.and_eq_true]at h
   exact⟨V.z3X x,h.1,h.2,by rw[V.z8l]⟩
  unfold H9
  split
  ·rename_i e1;rw[e1]at hn;cases hn
  ·exact this
 cases x with
 |sl eb e cs t=>
  simp only[z07]at h ⊢
  by_cases hl:s.live t=some cs.length
  ·rw[if_pos hl];exact⟨rfl,rfl,rfl,hl⟩
  ·rw[if_neg hl]at h ⊢
   exact gen (x:=.sl eb e cs t) rfl h
 |ts=>cases hx
 |agg τ vs=>exact gen (x:=.agg τ vs) rfl h
 |d|emp|any|nilc|ptr|cptr|sr|mp|fn|tup|top=>exact gen rfl h
theorem z54 {s:S} {f:Nat→Bool}:∀{xs:List V},z15 xs=true→z55 f (q3p s xs)=true→F6 s f xs (q3p s xs)
 | [],_,_=>trivial
 |x::xs,h1,h2=>by
  simp only[z15,Bool.and_eq_true]at h1
  simp only[q3p,z55,Bool.and_eq_true]at h2
  exact⟨y3C h1.1 h2.1,z54 h1.2 h2.2⟩
def z27 (X:Cx) (s:S) (r:ResultVar):Bool:=
 match r with
 | .tmp _=>true
 | .cell a t=>(match s.get a with
   | .ptr k q τ=>(match s.obj k with
     |some (.box y)=>decide (τ=ty X.P t)&&τ.known&& !(y.at q).isAny
     |_=>false)
   |_=>false)
def q5G (X:Cx) (s:S):List ResultVar→Bool
 | []=>true
 |r::rs=>z27 X s r&&q5G X s rs
theorem z81 {X:Cx} {s:S} {A':Key→Option O} (hA:leA s.A A') {r:ResultVar} (h:z27 X s r=true):q6Z X (s.wA A') r∧q7F X (s.wA A') r=q7F X s r:=by
 cases r with
 |tmp t=>exact⟨trivial,rfl⟩
 |cell a t=>
  have hg:(s.wA A').get a=s.get a:=rfl
  simp only[z27]at h
  simp only[q6Z,q7F,hg]
  split at h
  ·rename_i e0
   split at h
   ·rename_i e1
    simp only[Bool.and_eq_true,decide_eq_true_eq,Bool.not_eq_true']at h
    simp only[e0,Z6 hA e1,e1]
    exact⟨⟨h.1.1,h.1.2,V.q1F h.2⟩,by first|rfl|trivial⟩
   ·cases h
  ·cases h
theorem z0t {X:Cx} {s:S} {A':Key→Option O} (hA:leA s.A A'):∀{rs:List ResultVar},q5G X s rs=true→q5p X (s.wA A') rs∧q1g X (s.wA A') rs=q1g X s rs
 | [],_=>⟨trivial,rfl⟩
 |r::rs,h=>by
  simp only[q5G,Bool.and_eq_true]at h
  obtain⟨h1,h2⟩:=z81 hA h.1
  obtain⟨h3,h4⟩:=z0t hA h.2
  exact⟨⟨h1,h3⟩,by simp only[q1g,h2,h4]⟩
def z9c:List V→V
 | [x]=>x
 |xs=>.tup xs
theorem y0u {xs:List V} {vs:List V} (h:xs.length=vs.length):q7E xs (z9c vs)=some vs:=by
 match xs,vs,h with
 | [],[],_=>rfl
 | [_],[_],_=>rfl
 |_::_::_,_::_::_,_=>rfl
theorem q9f (s:S):∀(xs:List V),(q3p s xs).length=xs.length
 | []=>rfl
 |x::xs=>by simp[q3p,q9f s xs]
def z9J (X:Cx) (fn:Func) (s:S):Option (V × List (Key × O)):=
 let rs:=q1g X s fn.results.toList
 let vs:=q3p s rs
 let L:=q1m s.loc (reach s.loc 100000 (V.q4u vs++q4v s.loc) []) s.loc
 if q5G X s fn.results.toList=true∧z15 rs=true∧z55 (c9 L) vs=true∧q0o (q3d (q0H 2000 rs vs))=true∧q27 L=true∧q0u (c9 L) Q4 L=true∧q3I L s.loc=true then some (z9c vs,L)else none
theorem y2s {X:Cx} {fn:Func} {s:S} {v:V} {L:List (Key × O)} {A':Key→Option O} (hA:leA s.A A') (h:z9J X fn s=some (v,L)):z48 X fn A' v L (s.wA A'):=by
 simp only[z9J,Option.ite_none_right_eq_some,Option.some.injEq,Prod.mk.injEq]at h
 obtain⟨⟨h1,h2,h3,h4,h5,h6,h7⟩,rfl,rfl⟩:=h
 obtain⟨c1,c2⟩:=z0t hA h1
 have hL:∀(x:S) (xs vs:List V) f,F6 x f xs vs→F6 (x.wA A') f xs vs:=by
  intro x xs
  induction xs with
  |nil=>intro vs f h;cases vs <;> exact h
  |cons y ys ih=>
   intro vs f h
   cases vs with
   |nil=>exact h
   |cons v vs=>exact⟨h.1,ih vs f h.2⟩
 refine⟨rfl,q21 (s:=s.wA A') _ h5,h6,q4d h7,c1,?_⟩
 rw[c2,y0u (q9f s _).symm]
 exact⟨hL _ _ _ _ (z54 h2 h3),h4⟩
section
variable {X:Cx} {ov:q6A} {ext:q9L} (hP:x4 X.P=true) (hmo:X.P.follows .mixedOrders=true) (hov:q7y X ov) (he:z0g X ext)
include hP hmo hov he
end
def A0:Key→Option O:=fun _=>none
theorem Q3.any {X:Cx} {f:FuncId} {xs:List V} {v:V} {L:List (Key × O)} (h:Q3 X f xs A0 v L) (A:Key→Option O):Q3 X f xs A v L:=h.mono fun _ _ h=>by cases h
end Go.E
namespace Go.E
open Go
def z0b {R:Type} (op:BinOp) (k:IntKind) (a b:Int) (K:V→Option R):Option R:=
 match op with
 | .add=>K (.d (.int k) (.int (k.wrap (a+b))))
 | .sub=>K (.d (.int k) (.int (k.wrap (a-b))))
 | .mul=>K (.d (.int k) (.int (k.wrap (a*b))))
 | .quo=>if b≠0 then K (.d (.int k) (.int (k.wrap (a.tdiv b))))else none
 | .rem=>if b≠0 then K (.d (.int k) (.int (a.tmod b)))else none
 | .and| .or| .xor| .andNot=>K (.d (.int k) (.int (y3f op k a b)))
 | .eql=>K (.d .bool (.bool (decide (a=b))))
 | .neq=>K (.d .bool (.bool (!decide (a=b))))
 | .lss=>K (.d .bool (.bool (decide (a<b))))
 | .leq=>K (.d .bool (.bool (decide (a≤b))))
 | .gtr=>K (.d .bool (.bool (decide (b<a))))
 | .geq=>K (.d .bool (.bool (decide (b≤a))))
 |_=>none
theorem y2B {R:Type} {r:R} {Kr:V→Option R} {op:BinOp} {k:IntKind} {a b:Int} {K:V→Prop} (h:z0b op k a b Kr=some r) (hK:∀v,Kr v=some r→K v):q3u op k a b K:=by
 cases op <;> simp only[z0b,q3u,Option.some.injEq,Option.ite_none_right_eq_some,reduceCtorEq]at h ⊢ <;>
  first|exact hK _ h|(obtain⟨h1,h⟩:=h;exact⟨h1,hK _ h⟩)
def z3A {R:Type} (op:BinOp) (k:IntKind) (a b:Int) (K:V→Option R):Option R:=
 match op with
 | .shl=>if 0≤b then K (.d (.int k) (.int (k.wrap (a*2^(min b.toNat k.bits)))))else none
 | .shr=>if 0≤b then K (.d (.int k) (.int (a.fdiv (2^(min b.toNat k.bits)))))else none
 |_=>none
theorem y3Z {R:Type} {r:R} {Kr:V→Option R} {op:BinOp} {k:IntKind} {a b:Int} {K:V→Prop} (h:z3A op k a b Kr=some r) (hK:∀v,Kr v=some r→K v):q7B op k a b K:=by
 cases op <;> simp only[z3A,q7B,Option.some.injEq,Option.ite_none_right_eq_some,reduceCtorEq]at h ⊢ <;>
  (obtain⟨h1,h⟩:=h;exact⟨h1,hK _ h⟩)
def q99 {R:Type} (op:BinOp) (a b:List UInt8) (K:V→Option R):Option R:=
 match op with
 | .add=>if a.length+b.length≤140737488355328 then K (.d .str (.str (a++b)))else none
 | .eql=>K (.d .bool (.bool (a==b)))
 | .neq=>K (.d .bool (.bool (!(a==b))))
 | .lss=>K (.d .bool (.bool (Op.bytesLess a b)))
 | .leq=>K (.d .bool (.bool (Op.bytesLess a b||a==b)))
 | .gtr=>K (.d .bool (.bool (!(Op.bytesLess a b||a==b))))
 | .geq=>K (.d .bool (.bool (!Op.bytesLess a b)))
 |_=>none
theorem y2v {R:Type} {r:R} {Kr:V→Option R} {op:BinOp} {a b:List UInt8} {K:V→Prop} (h:q99 op a b Kr=some r) (hK:∀v,Kr v=some r→K v):q4D op a b K:=by
 cases op <;> simp only[q99,q4D,Option.some.injEq,Option.ite_none_right_eq_some,reduceCtorEq]at h ⊢ <;>
  first|exact hK _ h|(obtain⟨h1,h⟩:=h;exact⟨h1,hK _ h⟩)
def q79 {R:Type} (op:BinOp) (b:Bool) (K:V→Option R):Option R:=
 match op with
 | .eql=>K (.d .bool (.bool b))
 | .neq=>K (.d .bool (.bool (!b)))
 |_=>none
theorem z66 {R:Type} {r:R} {Kr:V→Option R} {op:BinOp} {b:Bool} {K:V→Prop} (h:q79 op b Kr=some r) (hK:∀v,Kr v=some r→K v):q2L op b K:=by
 cases op <;> simp only[q79,q2L,reduceCtorEq]at h ⊢ <;> exact hK _ h
def q4S {R:Type} (op:BinOp) (x y:Bool) (K:V→Option R):Option R:=
 match op with
 | .eql=>K (.d .bool (.bool (x==y)))
 | .neq=>K (.d .bool (.bool (!(x==y))))
 |_=>none
def q5Y {R:Type} (op:BinOp) (x y:Option Bool) (K:V→Option R):Option R:=
 match op,x,y with
 | .eql,some a,some true=>K (.d .bool (.bool a))
 | .neq,some a,some true=>K (.d .bool (.bool (!a)))
 | .eql,some true,some b=>K (.d .bool (.bool b))
 | .neq,some true,some b=>K (.d .bool (.bool (!b)))
 |_,_,_=>none
def q7q {R:Type} (op:BinOp) (x:Option (Option Bool)) (y:V) (K:V→Option R):Option R:=
 match op,x,y with
 | .eql,some r,.nilc=>K (q5M r)
 | .neq,some r,.nilc=>K (q5M (r.map (!·)))
 |_,_,_=>none
def z0c {R:Type} (P:Program) (op:BinOp) (T:TypeId) (x y:V) (K:V→Option R):Option R:=
 match ty P T with
 | .int k=>if x.isInt k then(if BinOp.q23 op then(if y.Y2 then z3A op k x.toInt y.toInt K else none)else(if y.isInt k then z0b op k x.toInt y.toInt K else none))else none
 | .bool=>if x.isBool∧y.isBool then q4S op x.toBool y.toBool K else none
 | .str=>if x.isStr∧y.isStr then q99 op x.toStr y.toStr K else none
 | .ptr=>q5Y op x.q3W y.q3W K
 | .arr n e=>if q0a P T=true∧x.Z4 (.arr n e)∧y.Z4 (.arr n e)then q79 op (C.beq x.toC y.toC) K else none
 | .struct sz os fs=>if q0a P T=true∧x.Z4 (.struct sz os fs)∧y.Z4 (.struct sz os fs)then q79 op (C.beq x.toC y.toC) K else none
 | .slice _ _=>q7q op x.z6m y K
 |_=>none
theorem y2C {R:Type} {r:R} {Kr:V→Option R} {P:Program} {op:BinOp} {T:TypeId} {x y:V} {K:V→Prop} (h:z0c P op T x y Kr=some r) (hK:∀v,Kr v=some r→K v):q9S P op T x y K:=by
 unfold z0c at h
 unfold q9S
 generalize ty P T=τ at h ⊢
 split at h
 ·simp only[Option.ite_none_right_eq_some]at h
  obtain⟨h1,h2⟩:=h
  refine⟨h1,?_⟩
  split at h2
  ·rename_i hs
   rw[if_pos hs]
   simp only[Option.ite_none_right_eq_some]at h2
   exact⟨h2.1,y3Z h2.2 hK⟩
  ·rename_i hs
   rw[if_neg hs]
   simp only[Option.ite_none_right_eq_some]at h2
   exact⟨h2.1,y2B h2.2 hK⟩
 ·simp only[Option.ite_none_right_eq_some]at h
  obtain⟨⟨h1,h2⟩,h3⟩:=h
  refine⟨h1,h2,?_⟩
  cases op <;> simp only[q4S,reduceCtorEq]at h3 ⊢ <;> exact hK _ h3
 ·simp only[Option.ite_none_right_eq_some]at h
  exact⟨h.1.1,h.1.2,y2v h.2 hK⟩
 ·simp only[q5Y]at h
  split at h <;> (try (cases h)) <;> simp_all
 ·simp only[Option.ite_none_right_eq_some]at h
  exact⟨h.1.1,h.1.2.1,h.1.2.2,by rw[C.q96];exact z66 h.2 hK⟩
 ·simp only[Option.ite_none_right_eq_some]at h
  exact⟨h.1.1,h.1.2.1,h.1.2.2,by rw[C.q96];exact z66 h.2 hK⟩
 ·simp only[q7q]at h
  split at h <;> (try (cases h)) <;> simp_all
 ·cases h
def q5u {R:Type} (P:Program) (T:TypeId) (x:V) (lo hi mx:Option V) (K:V→Option R):Option R:=
 match ty P T with
 | .str=>(match j5 lo 0,j5 hi x.toStr.length with
   |some l,some h=>if x.isStr∧mx.isNone then(if 0≤l∧l≤h∧h≤x.toStr.length then K (.d .str (.str ((x.toStr.take h.toNat).drop l.toNat)))else none)else none
   |_,_=>none)
 | .slice eb e=>(match x with
   | .sr k q lo0 n cp eb' e'=>if eb'=eb∧e'=e then(match j5 lo 0,j5 hi n,mx with
     |some l,some h,none=>if 0≤l∧l≤h∧h≤n then K (.sr k q (lo0+l.toNat) (h-l).toNat (cp.map (· -l.toNat)) eb e)else none
     |some l,some h,some m=>if hi.isSome=true then(match j5 (some m) 0 with
       |some m=>if 0≤l∧l=h∧h=m∧m≤n then K (.emp eb e)else none
       |none=>none)else none
     |_,_,_=>none)else none
   |x=>(match x.q1O with
    |some (eb',e',cs)=>if eb'=eb∧e'=e then(match j5 lo 0,j5 hi cs.length,mx with
     |some l,some h,none=>if 0≤l∧l≤h∧h≤cs.length then K (.d (.slice eb e) (.slice (cut cs l h)))else none
     |some l,some h,some m=>if hi.isSome=true then(match j5 (some m) 0 with
       |some m=>if 0≤l∧l=h∧h=m∧m≤cs.length then K (.emp eb e)else none
       |none=>none)else none
     |_,_,_=>none)else none
    |none=>none))
 |_=>(match z1Y P T with
  |some (n,eb,e)=>if n*eb≤140737488355328∧n≤maxLen∧mx.isNone then(match j5 lo 0,j5 hi n with
    |some l,some h=>if 0≤l∧l≤h∧h≤n then(match x with
      | .ptr k q τ=>if τ= .arr n e then K (.sr k q l.toNat (h-l).toNat (some (n-l.toNat)) eb e)else none
      | .cptr τ c=>if τ= .arr n e then K (.d (.slice eb e) (.slice (cut c.elems l h)))else none
      |_=>none)else none
    |_,_=>none)else none
  |none=>none)
theorem z9M {R:Type} {r:R} {Kr:V→Option R} {P:Program} {T:TypeId} {x:V} {lo hi mx:Option V} {K:V→Prop} (h:q5u P T x lo hi mx Kr=some r) (hK:∀v,Kr v=some r→K v):q5q P T x lo hi mx K:=by
 unfold q5u at h
 unfold q5q
 generalize ty P T=τ at h ⊢
 split at h
 ·split at h
  ·rename_i l hh e1 e2
   simp only[Option.ite_none_right_eq_some]at h
   obtain⟨⟨h1,h2⟩,h3,h⟩:=h
   refine⟨h1,by simpa using h2,?_⟩
   rw[e1,e2]
   exact⟨h3.1,h3.2.1,h3.2.2,hK _ h⟩
  ·cases h
 ·split at h
  ·simp only[Option.ite_none_right_eq_some]at h
   obtain⟨⟨h1,h2⟩,h⟩:=h
   refine⟨h1,h2,?_⟩
   split at h
   ·rename_i e1 e2
    simp only[Option.ite_none_right_eq_some]at h
    obtain⟨h3,h⟩:=h
    rw[e1,e2]
    exact⟨h3.1,h3.2.1,h3.2.2,hK _ h⟩
   ·rename_i e1 e2
    simp only[Option.ite_none_right_eq_some]at h
    obtain⟨h3,h⟩:=h
    rw[e1,e2]
    refine⟨h3,?_⟩
    split at h
    ·rename_i e3
     simp only[Option.ite_none_right_eq_some]at h
     obtain⟨h4,h⟩:=h
     rw[e3]
     exact⟨h4.1,h4.2.1,h4.2.2.1,h4.2.2.2,hK _ h⟩
    ·cases h
   ·cases h
  ·rename_i x' hx'
   cases x <;> (try exact(hx' _ _ _ _ _ _ _ rfl).elim) <;> (
    split at h
    ·rename_i e0
     simp only[e0]
     simp only[Option.ite_none_right_eq_some]at h
     obtain⟨⟨h1,h2⟩,h⟩:=h
     refine⟨h1,h2,?_⟩
     split at h
     ·rename_i e1 e2
      simp only[Option.ite_none_right_eq_some]at h
      obtain⟨h3,h⟩:=h
      rw[e1,e2]
      exact⟨h3.1,h3.2.1,h3.2.2,hK _ h⟩
     ·rename_i e1 e2
      simp only[Option.ite_none_right_eq_some]at h
      obtain⟨h3,h⟩:=h
      rw[e1,e2]
      refine⟨h3,?_⟩
      split at h
      ·rename_i e3
       simp only[Option.ite_none_right_eq_some]at h
       obtain⟨h4,h⟩:=h
       rw[e3]
       exact⟨h4.1,h4.2.1,h4.2.2.1,h4.2.2.2,hK _ h⟩
      ·cases h
     ·cases h
    ·cases h)
 ·rename_i hn1 hn2
  split at h
  ·rename_i e0
   split <;> first|exact(hn1 rfl).elim|exact(hn2 _ _ rfl).elim|skip
   rw[e0]
   simp only[Option.ite_none_right_eq_some]at h
   obtain⟨⟨h1,h2,h3⟩,h⟩:=h
   refine⟨h1,h2,by simpa using h3,?_⟩
   split at h
   ·rename_i e1 e2
    rw[e1,e2]
    simp only[Option.ite_none_right_eq_some]at h
    obtain⟨h4,h⟩:=h
    refine⟨h4.1,h4.2.1,h4.2.2,?_⟩
    split at h
    ·simp only[Option.ite_none_right_eq_some]at h
     obtain⟨h5,h⟩:=h
     exact⟨h5,hK _ h⟩
    ·simp only[Option.ite_none_right_eq_some]at h
     obtain⟨h5,h⟩:=h
     exact⟨h5,hK _ h⟩
    ·cases h
   ·cases h
  ·cases h
def z0a {R:Type} (P:Program) (T:TypeId) (x:V) (K:V→Option R):Option R:=
 match ty P T,x with
 | .str,.d τ c=>if τ= .str then K (.d (.int .i64) (.int c.toStr.length))else none
 | .slice _ _,.nilc=>K (.d (.int .i64) (.int 0))
 | .slice _ _,.sr _ _ _ n _ _ _=>K (.d (.int .i64) (.int n))
 | .slice eb e,x=>(match x.q1O with
   |some (eb',e',cs)=>if eb'=eb∧e'=e then K (.d (.int .i64) (.int cs.length))else none
   |none=>none)
 | .arr n _,_=>if(n:Int)≤9223372036854775807 then K (.d (.int .i64) (.int n))else none
 |_,_=>none
theorem y2A {R:Type} {r:R} {Kr:V→Option R} {P:Program} {T:TypeId} {x:V} {K:V→Prop} (h:z0a P T x Kr=some r) (hK:∀v,Kr v=some r→K v):q9R P T x K:=by
 unfold z0a at h
 unfold q9R
 generalize ty P T=τ at h ⊢
 cases τ <;> (try (cases h;done)) <;> cases x <;> (try (cases h;done)) <;> simp only[Option.ite_none_right_eq_some]at h ⊢ <;>
  first
  |exact hK _ h
  |(obtain⟨h1,h⟩:=h;exact⟨h1,hK _ h⟩)
  |(split at h
    ·rename_i e0
     simp only[Option.ite_none_right_eq_some]at h
     obtain⟨h1,h⟩:=h
     rw[e0]
     exact⟨h1.1,h1.2,hK _ h⟩
    ·cases h)
def q1H {R:Type} (P:Program) (T:TypeId) (x i:V) (K:V→Option R):Option R:=
 if i.Y2 then
 match ty P T,x with
 | .slice eb e,.sr k q lo n _ eb' e'=>if eb'=eb∧e'=e then(if 0≤i.toInt∧i.toInt<n then K (.ptr k (q++[lo+i.toInt.toNat]) e)else none)else none
 | .slice eb e,x=>(match x.q1O with
   |some (eb',e',cs)=>if eb'=eb∧e'=e then(if 0≤i.toInt∧i.toInt<cs.length then K (.cptr e (cs.getD i.toInt.toNat .nil))else none)else none
   |none=>none)
 | .arr n e,.ptr k q τ=>if τ= .arr n e then(if 0≤i.toInt∧i.toInt<n then K (.ptr k (q++[i.toInt.toNat]) e)else none)else none
 | .arr n e,.cptr τ c=>if τ= .arr n e then(if 0≤i.toInt∧i.toInt<n then K (.cptr e (c.get i.toInt.toNat))else none)else none
 |_,_=>none
 else none
theorem z3B {R:Type} {r:R} {Kr:V→Option R} {P:Program} {T:TypeId} {x i:V} {K:V→Prop} (h:q1H P T x i Kr=some r) (hK:∀v,Kr v=some r→K v):q1D P T x i K:=by
 unfold q1H at h
 unfold q1D
 simp only[Option.ite_none_right_eq_some]at h
 obtain⟨h0,h⟩:=h
 refine⟨h0,?_⟩
 generalize ty P T=τ at h ⊢
 cases τ <;> (try (cases h;done)) <;> cases x <;> (try (cases h;done)) <;> simp only[Option.ite_none_right_eq_some]at h ⊢ <;>
  first
  |(obtain⟨h1,h2,h⟩:=h;exact⟨h1.1,h1.2,h2.1,h2.2,hK _ h⟩)
  |(obtain⟨h1,h2,h⟩:=h;exact⟨h1,h2.1,h2.2,hK _ h⟩)
  |(split at h
    ·rename_i e0
     simp only[Option.ite_none_right_eq_some]at h
     obtain⟨h1,h2,h⟩:=h
     rw[e0]
     exact⟨h1.1,h1.2,h2.1,h2.2,hK _ h⟩
    ·cases h)
def q1I {R:Type} (P:Program) (T:TypeId) (x:V) (i:Nat) (K:V→Option R):Option R:=
 match x with
 | .ptr k q τ=>if τ=ty P T∧τ.U6=true∧(τ.child i).isSome=true∧(τ.get i).size≠0 then K (.ptr k (q++[i]) (τ.get i))else none
 | .cptr τ c=>if τ=ty P T∧τ.U6=true∧(τ.child i).isSome=true∧(τ.get i).size≠0 then K (.cptr (τ.get i) (c.get i))else none
 |_=>none
theorem z3C {R:Type} {r:R} {Kr:V→Option R} {P:Program} {T:TypeId} {x:V} {i:Nat} {K:V→Prop} (h:q1I P T x i Kr=some r) (hK:∀v,Kr v=some r→K v):q1E P T x i K:=by
 unfold q1I at h
 unfold q1E
 split at h
 ·simp only[Option.ite_none_right_eq_some]at h
  obtain⟨h1,h⟩:=h
  exact⟨h1.1,h1.2.1,h1.2.2.1,h1.2.2.2,hK _ h⟩
 ·simp only[Option.ite_none_right_eq_some]at h
  obtain⟨h1,h⟩:=h
  exact⟨h1.1,h1.2.1,h1.2.2.1,h1.2.2.2,hK _ h⟩
 ·cases h
def z3z {R:Type} (P:Program) (op:UnOp) (T:TypeId) (x:V) (K:V→Option R):Option R:=
 match ty P T,op with
 | .bool,.not=>if x.isBool then K (.d .bool (.bool (!x.toBool)))else none
 | .int k,.neg=>if x.isInt k then K (.d (.int k) (.int (k.wrap (0-x.toInt))))else none
 |_,_=>none
theorem y3X {R:Type} {r:R} {Kr:V→Option R} {P:Program} {op:UnOp} {T:TypeId} {x:V} {K:V→Prop} (h:z3z P op T x Kr=some r) (hK:∀v,Kr v=some r→K v):z5T P op T x K:=by
 unfold z3z at h
 unfold z5T
 generalize ty P T=τ at h ⊢
 split at h
 ·simp only[Option.ite_none_right_eq_some]at h
  obtain⟨h1,h⟩:=h
  exact⟨h1,hK _ h⟩
 ·simp only[Option.ite_none_right_eq_some]at h
  obtain⟨h1,h⟩:=h
  exact⟨h1,hK _ h⟩
 ·cases h
def q7s {R:Type} (P:Program) (src dst:TypeId) (x:V) (K:V→Option R):Option R:=
 match ty P src,ty P dst with
 | .int k,.int k2=>if x.isInt k then K (.d (.int k2) (.int (k2.wrap x.toInt)))else none
 | .str,.str=>if x.isStr then K x else none
 |_,_=>none
theorem y1b {R:Type} {r:R} {Kr:V→Option R} {P:Program} {src dst:TypeId} {x:V} {K:V→Prop} (h:q7s P src dst x Kr=some r) (hK:∀v,Kr v=some r→K v):q5L P src dst x K:=by
 unfold q7s at h
 unfold q5L
 generalize ty P src=τ at h ⊢
 generalize ty P dst=τ2 at h ⊢
 split at h
 ·simp only[Option.ite_none_right_eq_some]at h
  obtain⟨h1,h⟩:=h
  exact⟨h1,hK _ h⟩
 ·simp only[Option.ite_none_right_eq_some]at h
  obtain⟨h1,h⟩:=h
  exact⟨h1,hK _ h⟩
 ·cases h
def q26 {R:Type} (P:Program) (b:Builtin) (ts:Array TypeId) (xs:List V) (K:V→Option R):Option R:=
 match b,xs with
 | .len,[x]=>if 0<ts.size then z0a P (ts.getD 0 0) x K else none
 | .min,[x,y]=>(match x with
   | .d (.int k) _=>if y.isInt k then K (.d (.int k) (.int (if y.toInt<x.toInt then y.toInt else x.toInt)))else none
   |_=>none)
 | .max,[x,y]=>(match x with
   | .d (.int k) _=>if y.isInt k then K (.d (.int k) (.int (if x.toInt<y.toInt then y.toInt else x.toInt)))else none
   |_=>none)
 |_,_=>none
theorem z64 {R:Type} {r:R} {Kr:V→Option R} {P:Program} {b:Builtin} {ts:Array TypeId} {xs:List V} {K:V→Prop} (h:q26 P b ts xs Kr=some r) (hK:∀v,Kr v=some r→K v):q4K P b ts xs K:=by
 unfold q26 at h
 unfold q4K
 split at h
 ·simp only[Option.ite_none_right_eq_some]at h
  exact⟨h.1,y2A h.2 hK⟩
 ·split at h
  ·simp only[Option.ite_none_right_eq_some]at h
   obtain⟨h1,h⟩:=h
   exact⟨h1,hK _ h⟩
  ·cases h
 ·split at h
  ·simp only[Option.ite_none_right_eq_some]at h
   obtain⟨h1,h⟩:=h
   exact⟨h1,hK _ h⟩
  ·cases h
 ·cases h
def q38 {R:Type} (P:Program) (op:Op) (ρ:Operand→V) (K:V→Option R):Option R:=
 match op with
 | .move x=>K (ρ x)
 | .assign x=>K (ρ x)
 | .pick c a b=>if(ρ c).isBool then(bif (ρ c).toBool then K (ρ a)else K (ρ b))else none
 | .nilCheck x=>if(ρ x).q3W=some false then K (ρ x)else none
 | .binOp op T x y _=>z0c P op T (ρ x) (ρ y) K
 | .unOp op T x=>z3z P op T (ρ x) K
 | .convert src dst x=>q7s P src dst (ρ x) K
 | .fieldAddr T x i=>q1I P T (ρ x) i K
 | .field T x i=>if(ρ x).ty=ty P T∧(ρ x).ty.U6=true∧((ρ x).ty.child i).isSome=true∧((ρ x).ty.get i).known=true∧(ρ x).plain=true∧((ρ x).get i).isAny=false then K ((ρ x).get i)else none
 | .indexAddr T x i=>q1H P T (ρ x) (ρ i) K
 | .index T x i=>if(ρ i).Y2 then(match ty P T with
   | .arr n e=>if(ρ x).ty= .arr n e∧(ρ x).plain=true∧e.known=true then(if 0≤(ρ i).toInt∧(ρ i).toInt<n then(if((ρ x).get (ρ i).toInt.toNat).isAny=false then K ((ρ x).get (ρ i).toInt.toNat)else none)else none)else none
   | .str=>if(ρ x).isStr then(if 0≤(ρ i).toInt∧(ρ i).toInt<(ρ x).toStr.length then K (.d (.int .u8) (.int ((ρ x).toStr.getD (ρ i).toInt.toNat 0).toNat))else none)else none
   |_=>none)else none
 | .slice T x lo hi mx=>q5u P T (ρ x) (lo.map ρ) (hi.map ρ) (mx.map ρ) K
 | .extract x i=>(match ρ x with
   | .tup xs=>(match xs[i]? with|some y=>K y|none=>none)
   |_=>none)
 | .sliceToArrayPointer T x=>(match ρ x with
   | .sr k q lo n (some _) _ e=>(match ty P T with
    | .arr m e'=>if e'=e∧0<m then(if m≤n then K (.ptr k (q++[lo]) e)else none)else none
    |_=>none)
   |_=>(match ty P T,(ρ x).q1O with
    | .arr n e,some (_,e',cs)=>if e'=e∧0<n then(if n≤cs.length then K (.cptr (.arr n e) (.agg (cs.take n)))else none)else none
    |_,_=>none))
 | .makeFunc fn first caps=>(match fn,first.toList with
   | .func f,[]=>if(caps.toList.map ρ).all V.plain=true then K (.fn f (caps.toList.map ρ))else none
   |_,_=>none)
 | .call c=>(match c.callee with
   | .builtin b=>q26 P b c.argTypes (c.args.toList.map ρ) K
   |_=>none)
 |_=>none
theorem q7r {R:Type} {r:R} {Kr:V→Option R} {P:Program} {op:Op} {ρ:Operand→V} {K:V→Prop} (h:q38 P op ρ Kr=some r) (hK:∀v,Kr v=some r→K v):pv P op ρ K:=by
 unfold q38 at h
 unfold pv
 split at h
 ·exact hK _ h
 ·exact hK _ h
 ·simp only[Option.ite_none_right_eq_some]at h
  obtain⟨h1,h⟩:=h
  refine⟨h1,fun e=>?_,fun e=>?_⟩ <;> rw[e]at h <;> exact hK _ h
 ·simp only[Option.ite_none_right_eq_some]at h
  obtain⟨h1,h⟩:=h
  exact⟨h1,hK _ h⟩
 ·exact y2C h hK
 ·exact y3X h hK
 ·exact y1b h hK
 ·exact z3C h hK
 ·simp only[Option.ite_none_right_eq_some]at h
  obtain⟨h1,h⟩:=h
  exact⟨h1.1,h1.2.1,h1.2.2.1,h1.2.2.2.1,h1.2.2.2.2.1,V.q1F h1.2.2.2.2.2,hK _ h⟩
 ·exact z3B h hK
 ·simp only[Option.ite_none_right_eq_some]at h
  obtain⟨h0,h⟩:=h
  refine⟨h0,?_⟩
  rename_i T _ _
  generalize ty P T=τ at h ⊢
  split at h
  ·simp only[Option.ite_none_right_eq_some]at h
   obtain⟨h1,h2,h3,h⟩:=h
   exact⟨h1.1,h1.2.1,h1.2.2,h2.1,h2.2,V.q1F h3,hK _ h⟩
  ·simp only[Option.ite_none_right_eq_some]at h
   obtain⟨h1,h2,h⟩:=h
   exact⟨h1,h2.1,h2.2,hK _ h⟩
  ·cases h
 ·exact z9M h hK
 ·split at h
  ·rename_i e0
   simp only[e0]
   split at h
   ·rename_i e1;simp only[e1];exact hK _ h
   ·cases h
  ·cases h
 ·split at h
  ·rename_i e0
   dsimp only
   split at h
   ·rename_i e1
    simp only[e0,e1]
    simp only[Option.ite_none_right_eq_some]at h
    obtain⟨h1,h2,h⟩:=h
    exact⟨h1.1,h1.2,h2,hK _ h⟩
   ·cases h
  ·rename_i hno
   split at h
   ·rename_i e0 e1
    simp only[Option.ite_none_right_eq_some]at h
    obtain⟨h1,h2,h⟩:=h
    dsimp only
    split
    ·rename_i e2
     exact absurd e2 (hno _ _ _ _ _ _ _)
    ·simp only[e0,e1]
     exact⟨h1.1,h1.2,h2,hK _ h⟩
   ·cases h
 ·split at h
  ·rename_i e0
   simp only[e0]
   simp only[Option.ite_none_right_eq_some]at h
   obtain⟨h1,h⟩:=h
   exact⟨h1,hK _ h⟩
  ·cases h
 ·split at h
  ·rename_i e0
   simp only[e0]
   exact z64 h hK
  ·cases h
 ·cases h
def q3x {R:Type} (P:Program) (s:S) (t':TypeId) (eb:Nat) (e:Ty) (Y:V) (K:List C→Option R):Option R:=
 match ty P t' with
 | .slice _ _=>(match Y with
  | .nilc=>K []
  |Y=>match Y0 s Y with
   |some (eb',e',ys)=>if eb'=eb∧e'=e then K ys else none
   |none=>none)
 | .str=>if e= .int .u8∧eb=1∧Y.isStr then K (Y.toStr.map fun b=>C.int b.toNat)else none
 |_=>none
theorem q76 {R:Type} {r:R} {Kr:List C→Option R} {P:Program} {s:S} {A':Key→Option O} (hA:leA s.A A') {t':TypeId} {eb:Nat} {e:Ty} {Y:V} {K:List C→Prop} (h:q3x P s t' eb e Y Kr=some r) (hK:∀ys,Kr ys=some r→K ys):q4W P (s.wA A') t' eb e Y K:=by
 unfold q3x at h
 unfold q4W
 generalize ty P t'=τ at h ⊢
 cases τ <;> (try (cases h;done))
 ·simp only[Option.ite_none_right_eq_some]at h
  obtain⟨h1,h⟩:=h
  exact⟨h1.1,h1.2.1,h1.2.2,hK _ h⟩
 ·cases Y <;> simp only at h ⊢ <;> first
   |exact hK _ h
   |(split at h
     ·rename_i e0
      simp only[Option.ite_none_right_eq_some]at h
      obtain⟨h1,h⟩:=h
      rw[z2A hA e0]
      exact⟨h1.1,h1.2,hK _ h⟩
     ·cases h)
abbrev K3 (R:Type):=V→List (Key × O)→List (Nat × Option Nat)→Option R
def q39 {R:Type} (P:Program) (m:Nat) (dst:Nat) (s:S) (t t':TypeId) (x y:V) (K:K3 R):Option R:=
 if Q9 P (y7 P t)=true then
 match ty P t with
 | .slice eb e=>(match x with
  | .emp _ _| .nilc=>q3x P s t' eb e y fun ys=>
    if m=3 then(if ys.isEmpty=false then K (.sr (.l dst) [] 0 ys.length none eb e) [(.l dst,.box (.d (.arr ys.length e) (.agg ys)))] []else none)else K (.sl eb e ys dst) [] [(dst,some ys.length)]
  |_=>none)
 |_=>none
 else none
def q9A {R:Type} (P:Program) (s:S) (T:TypeId) (k:Key) (K:V→Option R):Option R:=
 match q3X P T,s.obj k with
 |some _,some (.map _ _ es)=>if es.length≤9223372036854775807 then K (.d (.int .i64) (.int es.length))else none
 |_,_=>none
def z3q:List (C × V)→C→Bool
 | [],_=>false
 |(k,_)::l,c=>bif C.beq c k then true else z3q l c
def z9B:List (C × V)→C→C
 | [],_=>.nil
 |(k,v)::l,c=>bif C.beq c k then(match v with| .d _ x=>x|_=>.nil)else z9B l c
theorem z8q {τ:Ty} {c:C}:∀{es:List (C × V)},q0f τ es=true→q0t es c=bif z3q es c then some (.d τ (z9B es c))else none
 | [],_=>rfl
 |(k,v)::l,h=>by
  simp only[q0f,Bool.and_eq_true]at h
  simp only[q0t,C.q96,z3q,z9B]
  cases hb:C.beq c k with
  |true=>
   simp only[cond_true,if_true]
   obtain⟨h1,_⟩:=h
   split at h1
   ·rw[Ty.beq_iff]at h1;subst h1;rfl
   ·cases h1
  |false=>
   simp only[cond_false,Bool.false_eq_true,if_false]
   exact z8q h.2
def q5v {R:Type} (τ:Ty) (es:List (C × V)) (c:C) (K:Option V→Option R):Option R:=
 bif q0f τ es then(bif z3q es c then K (some (.d τ (z9B es c)))else K none)else none
theorem z9P {R:Type} {r:R} {τ:Ty} {c:C} {Kr:Option V→Option R} {es:List (C × V)} (h:q5v τ es c Kr=some r):Kr (q0t es c)=some r:=by
 unfold q5v at h
 cases ha:q0f τ es with
 |false=>rw[ha]at h;cases h
 |true=>
  rw[ha]at h
  rw[z8q ha]
  cases hb:z3q es c <;> rw[hb]at h <;> exact h
def z9L {R:Type} (y:V) (q:List Nat) (t τ:Ty) (K:V→Option R):Option R:=
 match y,t with
 | .d (.arr M e) c,.arr m e'=>if q≠[]∧e'=e∧τ=e∧(Ty.arr m e).known=true∧q.getLastD 0+m≤M then K (.d (.arr m e) (.agg ((c.elems.drop (q.getLastD 0)).take m)))else none
 |_,_=>none
def ekI {R:Type} (X:Cx) (m:Nat) (dst:Nat) (o:Oper) (ρ:Operand→V) (s:S) (K:K3 R):Option R:=
 match o.op with
 | .load T x=>if Nat.beq m 18=true then(match ρ x with
   | .ptr k q τ=>(match s.obj k with
     |some (.box y)=>z9L (y.at q.dropLast) q (ty X.P T) τ fun v=>K v [] []
     |_=>none)
   |_=>none)
  else(match ρ x with
   | .ptr k q τ=>(match s.obj k with
     |some (.box y)=>if(y.at q).isAny=false∧τ=ty X.P T∧τ.known=true then K (view (y.at q)) [] []else none
     |_=>none)
   | .cptr τ c=>if τ=ty X.P T∧τ.known=true then K (.d τ c) [] []else none
   |_=>none)
 | .alloc T=>if Q9 X.P T=true then K (.ptr (.l dst) [] (ty X.P T)) [(.l dst,z6j (ty X.P T) T)] []else none
 | .box _ x=>if m=5 then(if(ρ x).plain=true then(match s9 (ρ x)with
    |some cc=>K (.cptr (ρ x).ty cc) [] []
    |none=>none)else none)
   else if(ρ x).plain=true∧(ρ x).v8=true then K (.ptr (.l dst) [] (ρ x).ty) [(.l dst,.box (ρ x))] []else none
 | .buildSlice t len parts=>(match ty X.P t with
   | .slice eb e=>(match len with
    |0=>if parts.toList.length=0 then K (.emp eb e) [] []else none
    |len+1=>if Q9 X.P (y7 X.P t)=true∧e.size≠0∧(len+1)*e.size≤16777216∧(len+1)*eb≤140737488355328∧parts.toList.map (·.1)=List.range (len+1)then
      (if Nat.beq m 20=true then(if(parts.toList.map (fun x=>ρ x.2)).all (fun x=>decide (x.ty=e)&&x.plain)=true∧V.Q0 (parts.toList.map fun x=>ρ x.2)=true then K (.sr (.l dst) [] 0 (len+1) (some (len+1)) eb e) [(.l dst,.box (.agg (.arr (len+1) e) (parts.toList.map fun x=>ρ x.2)))] []else none)else match Z7 (parts.toList.map fun x=>ρ x.2)with
       |some cs=>if(parts.toList.map (fun x=>ρ x.2)).all (fun x=>decide (x.ty=e)&&x.plain)=true then(if m=4 then K (.sl eb e cs dst) [] [(dst,some cs.length)]else K (.d (.slice eb e) (.slice cs)) [] [])else none
       |none=>none)else none)
   |_=>none)
 | .build T parts=>if Q9 X.P T=true∧(ty X.P T).W6=true∧(ty X.P T).isAgg=true∧z2Q (ty X.P T) (o9 (ty X.P T)) (parts.toList.map fun p=>(p.1,ρ p.2))=true then
   K (q3E (ty X.P T) (o9 (ty X.P T)) (parts.toList.map fun p=>(p.1,ρ p.2))) [] []else none
 | .makeSlice t l c=>(match ty X.P t with
   | .slice eb e=>if Q9 X.P (y7 X.P t)=true∧(ρ l).Y2∧(ρ c).Y2∧e.size≠0 then(if 0≤(ρ l).toInt∧(ρ l).toInt≤(ρ c).toInt∧(ρ c).toInt≤9223372036854775807∧(ρ c).toInt.toNat*eb≤140737488355328 then
     K (.sr (.l dst) [] 0 (ρ l).toInt.toNat (if m=9 then none else some (ρ c).toInt.toNat) eb e) [(.l dst,.box (.d (.arr (ρ l).toInt.toNat e) (.agg (List.replicate (ρ l).toInt.toNat (b5 e)))))] []else none)else none
   |_=>none)
 | .makeMap T r=>(match r,q3X X.P T with
   |none,some (kt,et)=>K (.mp (.l dst)) [(.l dst,.map (ty X.P kt) (ty X.P et) [])] []
   |_,_=>none)
 | .lookup T x i ok=>(match q3X X.P T,ρ x with
   |some (kt,et),.mp k=>(match s.obj k with
     |some (.map kτ _ es)=>if kτ=ty X.P kt∧q0a X.P kt=true∧Q9 X.P et=true∧(ρ i).Z4 kτ then
       q5v (ty X.P et) es (ρ i).toC (fun r=>K (if ok then .tup [r.getD (o9 (ty X.P et)),.d .bool (.bool r.isSome)]else r.getD (o9 (ty X.P et))) [] [])else none
     |_=>none)
   |_,_=>none)
 | .call c=>(match c.callee with
   | .value _=>none
   | .builtin .append=>(match c.args.toList,c.argTypes.toList with
     | [x,y],[t,t']=>q39 X.P m dst s t t' (ρ x) (ρ y) K
     |_,_=>none)
   | .builtin .len=>(match c.args.toList,c.argTypes.toList with
     | [x],[T]=>(match ρ x with
       | .mp k=>q9A X.P s T k fun v=>K v [] []
       |_=>q38 X.P o.op ρ fun v=>K v [] [])
     |_,_=>q38 X.P o.op ρ fun v=>K v [] [])
   |_=>q38 X.P o.op ρ fun v=>K v [] [])
 | .convert src dst' x=>(match strOf X.P s src dst' (ρ x)with
   |some ys=>K (.d .str (.str (ys.map q1U))) [] []
   |none=>q38 X.P o.op ρ fun v=>K v [] [])
 |_=>q38 X.P o.op ρ fun v=>K v [] []
theorem z7Y {P:Program} {md:List (Nat × Nat)} {m dst:Nat} (hm:r7 md dst=m) {s:S} {A':Key→Option O} (hA:leA s.A A') {t t':TypeId} {x y:V} {R:Type} {r:R} {Kr:K3 R} {K:V→List (Key × O)→List (Nat × Option Nat)→Prop}:
  q39 P m dst s t t' x y Kr=some r→(∀v lo tn,Kr v lo tn=some r→K v lo tn)→Q9 P (y7 P t)=true∧(match ty P t,x with
       | .slice eb e,.emp _ _=>q4W P (s.wA A') t' eb e y fun ys=>if r7 md dst=3 then ys≠[]∧K (.sr (.l dst) [] 0 ys.length none eb e) [(.l dst,.box (.d (.arr ys.length e) (.agg ys)))] []else K (.sl eb e ys dst) [] [(dst,some ys.length)]
       | .slice eb e,.nilc=>q4W P (s.wA A') t' eb e y fun ys=>if r7 md dst=3 then ys≠[]∧K (.sr (.l dst) [] 0 ys.length none eb e) [(.l dst,.box (.d (.arr ys.length e) (.agg ys)))] []else K (.sl eb e ys dst) [] [(dst,some ys.length)]
       |_,_=>False):=by
 intro h hK
 unfold q39 at h
 simp only[Option.ite_none_right_eq_some]at h
 obtain⟨h0,h⟩:=h
 refine⟨h0,?_⟩
 generalize ty P t=τ at h ⊢
 cases τ <;> (try (cases h;done))
 cases x <;> (try (cases h;done)) <;> simp only at h ⊢ <;>
  (refine q76 hA h fun ys h=>?_
   split at h
   ·rename_i hm3
    rw[if_pos (hm.trans hm3)]
    simp only[Option.ite_none_right_eq_some]at h
    obtain⟨h1,h⟩:=h
    exact⟨by intro e1;subst e1;simp at h1,hK _ _ _ h⟩
   ·rename_i hm3
    rw[if_neg (by rw[hm];exact hm3)]
    exact hK _ _ _ h)
theorem y4S {X:Cx} {md:List (Nat × Nat)} {m dst:Nat} (hm:r7 md dst=m) {o:Oper} {ρ:Operand→V} {s base:S} {A':Key→Option O} (hA:leA s.A A') {R:Type} {r:R} {Kr:K3 R} {K:V→List (Key × O)→List (Nat × Option Nat)→Prop} (h:ekI X m dst o ρ s Kr=some r) (hK:∀v lo tn,Kr v lo tn=some r→K v lo tn):
  iop X md base dst o ρ (s.wA A') K:=by
 unfold ekI at h
 unfold iop
 generalize o.op=op at h ⊢
 split at h
 ·dsimp only
  split at h
  ·rename_i hm18
   rw[if_pos (by rw[hm];exact Nat.eq_of_beq_eq_true hm18)]
   split at h
   ·rename_i e0
    simp only[e0]
    split at h
    ·rename_i e1
     simp only[Z6 hA e1]
     unfold z9L at h
     unfold y1L
     split at h
     ·rename_i e2 e3
      simp only[e2,e3]
      simp only[Option.ite_none_right_eq_some]at h
      obtain⟨h1,h⟩:=h
      exact⟨h1.1,h1.2.1,h1.2.2.1,h1.2.2.2.1,h1.2.2.2.2,hK _ _ _ h⟩
     ·cases h
    ·cases h
   ·cases h
  rename_i hm18
  rw[if_neg fun e=>hm18 (by rw[←hm,e];rfl)]
  split at h
  ·rename_i e0
   simp only[e0]
   split at h
   ·rename_i e1
    simp only[Z6 hA e1]
    simp only[Option.ite_none_right_eq_some]at h
    obtain⟨h1,h⟩:=h
    exact⟨V.q1F h1.1,h1.2.1,h1.2.2,hK _ _ _ h⟩
   ·cases h
  ·rename_i e0
   simp only[e0]
   simp only[Option.ite_none_right_eq_some]at h
   obtain⟨h1,h⟩:=h
   exact⟨h1.1,h1.2,hK _ _ _ h⟩
  ·cases h
 ·simp only[Option.ite_none_right_eq_some]at h
  obtain⟨h1,h⟩:=h
  exact⟨h1,hK _ _ _ h⟩
 ·dsimp only
  split at h
  ·rename_i hm5
   rw[if_pos (hm.trans hm5)]
   simp only[Option.ite_none_right_eq_some]at h
   obtain⟨h1,h⟩:=h
   split at h
   ·rename_i cc hcc
    rw[hcc]
    exact⟨h1,hK _ _ _ h⟩
   ·cases h
  ·rename_i hm5
   rw[if_neg (by rw[hm];exact hm5)]
   simp only[Option.ite_none_right_eq_some]at h
   obtain⟨h1,h⟩:=h
   exact⟨h1.1,h1.2,hK _ _ _ h⟩
 ·rename_i t len parts
  dsimp only
  generalize ty X.P t=τ at h ⊢
  cases τ <;> (try (cases h;done))
  cases len with
  |zero=>
   simp only[Option.ite_none_right_eq_some]at h
   obtain⟨h1,h⟩:=h
   exact⟨h1,hK _ _ _ h⟩
  |succ len=>
   simp only[Option.ite_none_right_eq_some]at h
   obtain⟨h1,h⟩:=h
   refine⟨h1.1,h1.2.1,h1.2.2.1,h1.2.2.2.1,h1.2.2.2.2,?_⟩
   split at h
   ·rename_i h20
    rw[if_pos (by rw[hm];exact Nat.eq_of_beq_eq_true h20)]
    simp only[Option.ite_none_right_eq_some]at h
    obtain⟨h2,h⟩:=h
    exact⟨fun x hx=>by have:=List.all_eq_true.1 h2.1 x hx;simpa using this,h2.2,hK _ _ _ h⟩
   rename_i h20
   rw[if_neg fun e=>h20 (by rw[←hm,e];rfl)]
   split at h
   ·rename_i e0
    rw[e0]
    simp only[Option.ite_none_right_eq_some]at h
    obtain⟨h2,h⟩:=h
    refine⟨fun x hx=>?_,?_⟩
    ·have:=List.all_eq_true.1 h2 x hx
     simpa using this
    ·rw[hm]
     split at h
     ·rename_i e4;rw[if_pos e4];exact hK _ _ _ h
     ·rename_i e4;rw[if_neg e4];exact hK _ _ _ h
   ·cases h
 ·simp only[Option.ite_none_right_eq_some]at h
  obtain⟨h1,h⟩:=h
  exact⟨h1.1,h1.2.1,h1.2.2.1,z4v h1.2.2.2,hK _ _ _ h⟩
 ·rename_i t _ _
  dsimp only
  generalize ty X.P t=τ at h ⊢
  cases τ <;> (try (cases h;done))
  simp only[Option.ite_none_right_eq_some]at h
  obtain⟨h1,h⟩:=h
  obtain⟨h2,h⟩:=h
  exact⟨h1.1,h1.2.1,h1.2.2.1,h2.1,h2.2.1,h2.2.2.1,h2.2.2.2,h1.2.2.2,by rw[hm];exact hK _ _ _ h⟩
 ·split at h
  ·rename_i e0
   simp only[e0]
   exact hK _ _ _ h
  ·cases h
 ·split at h
  ·rename_i e0 e1
   simp only[e0,e1]
   split at h
   ·rename_i e2
    simp only[Z6 hA e2]
    simp only[Option.ite_none_right_eq_some]at h
    obtain⟨h1,h⟩:=h
    refine⟨h1.1,h1.2.1,h1.2.2.1,h1.2.2.2,?_⟩
    exact hK _ _ _ (z9P h)
   ·cases h
  ·cases h
 ·split at h
  ·cases h
  ·rename_i e0
   simp only[e0]
   split at h
   ·rename_i e1 e2
    simp only[e1,e2]
    exact z7Y hm hA h hK
   ·cases h
  ·rename_i e0
   simp only[e0]
   split at h
   ·rename_i e1 e2
    simp only[e1,e2]
    split at h
    ·rename_i e3
     simp only[e3]
     unfold q9A at h
     split at h
     ·rename_i e4 e5
      simp only[Option.ite_none_right_eq_some]at h
      obtain⟨h2,h⟩:=h
      simp only[e4,Z6 hA e5]
      exact⟨h2,hK _ _ _ h⟩
     ·cases h
    ·rename_i hx
     split
     ·rename_i k hk
      exact(hx k hk).elim
     ·exact q7r h (fun v h=>hK _ _ _ h)
   ·rename_i hx
    split
    ·rename_i a b hk hk2
     exact(hx _ _ hk hk2).elim
    ·exact q7r h (fun v h=>hK _ _ _ h)
  ·rename_i h1 h2 h3
   dsimp only
   split
   ·rename_i e;exact(h1 _ e).elim
   ·rename_i e;exact(h2 e).elim
   ·rename_i e;exact(h3 e).elim
   ·exact q7r h (fun v h=>hK _ _ _ h)
 ·split at h
  ·rename_i e0
   simp only[y1M hA e0]
   exact hK _ _ _ h
  ·have hp:=q7r (K:=fun y=>K y [] []) h (fun v h=>hK _ _ _ h)
   dsimp only
   split
   ·rename_i e1
    exact(z5z (K:=fun y=>K y [] []) e1 hp).elim
   ·exact hp
 ·split <;> first
   |exact q7r h (fun v h=>hK _ _ _ h)
   |(rename_i hx;exact(hx _ rfl).elim)
   |(rename_i hx _;exact(hx _ _ rfl).elim)
   |(rename_i hx _ _ _ _;exact(hx _ _ _ _ rfl).elim)
   |(rename_i hx _ _ _ _ _;exact(hx _ _ _ _ rfl).elim)
   |(exfalso;simp[q38]at h;done)
   |simp_all
abbrev KS (R:Type):=V→S→Option R
def q4P (s:S) (t n:Nat):Option Bool:=
 match s.live t with
 |some m=>some (Nat.beq m n)
 |none=>none
mutual
def V.q3e (lv:Nat→Option Nat):List Nat→V→List (Nat × List Nat)
 |p,.sl _ _ _ t=>(match lv t with
  |some _=>[(t,p)]
  |none=>[])
 |p,.agg _ vs=>V.q9N lv p 0 vs
 |_,_=>[]
def V.q9N (lv:Nat→Option Nat):List Nat→Nat→List V→List (Nat × List Nat)
 |_,_,[]=>[]
 |p,i,x::xs=>V.q3e lv (p++[i]) x++V.q9N lv p (i+1) xs
end
mutual
def V.q5U (σ:List (Nat × List Nat)) (lv:Nat→Option Nat):List Nat→V→V
 |p,.sl eb e cs t=>(match lv t with
  |some _=>if look σ t=some p then .ts eb e cs else .d (.slice eb e) (.slice cs)
  |none=>.d (.slice eb e) (.slice cs))
 |p,.agg τ vs=>.agg τ (V.q91 σ lv p 0 vs)
 |_,x=>x
def V.q91 (σ:List (Nat × List Nat)) (lv:Nat→Option Nat):List Nat→Nat→List V→List V
 |_,_,[]=>[]
 |p,i,x::xs=>V.q5U σ lv (p++[i]) x::V.q91 σ lv p (i+1) xs
end
mutual
def V.q1S (lv:Nat→Option Nat):V→Bool
 | .sl _ _ cs t=>(match lv t with
  |some m=>Nat.beq m cs.length
  |none=>true)
 | .agg _ vs=>V.q3q lv vs
 |_=>true
def V.q3q (lv:Nat→Option Nat):List V→Bool
 | []=>true
 |x::xs=>(match x with
  | .sl _ _ _ _| .agg _ _=>x.q1S lv&&V.q3q lv xs
  |_=>V.q3q lv xs)
end
mutual
theorem V.q8V {lv:Nat→Option Nat}:∀(x:V) (p:List Nat),x.q1S lv=true→x.sites lv p=x.q3e lv p
 | .sl _ _ cs t,p,h=>by
  simp only[V.q1S]at h
  simp only[V.sites,V.q3e]
  split at h
  ·rename_i m e
   rw[e,Nat.eq_of_beq_eq_true h];simp
  ·rename_i e
   rw[e];simp
 | .agg _ vs,p,h=>by simp only[V.q1S]at h;simp only[V.sites,V.q3e,V.z1G vs p 0 h]
 | .d _ _,_,_| .ts _ _ _,_,_| .emp _ _,_,_| .nilc,_,_| .ptr _ _ _,_,_| .cptr _ _,_,_| .sr _ _ _ _ _ _ _,_,_| .mp _,_,_| .fn _ _,_,_| .tup _,_,_| .top _,_,_| .any,_,_=>by simp[V.sites,V.q3e]
theorem V.z1G {lv:Nat→Option Nat}:∀(xs:List V) (p:List Nat) (i:Nat),V.q3q lv xs=true→V.q8U lv p i xs=V.q9N lv p i xs
 | [],_,_,_=>rfl
 |x::xs,p,i,h=>by
  have hx:x.q1S lv=true∧V.q3q lv xs=true:=by
   simp only[V.q3q]at h
   split at h
   ·simpa using h
   ·simpa using h
   ·rename_i h1 h2
    refine⟨?_,h⟩
    cases x <;> first|rfl|exact absurd rfl (h1 _ _ _ _)|exact absurd rfl (h2 _ _)
  simp only[V.q8U,V.q9N,V.q8V x _ hx.1,V.z1G xs p (i+1) hx.2]
end
mutual
theorem V.q9o {lv:Nat→Option Nat} {σ:List (Nat × List Nat)}:∀(x:V) (p:List Nat),x.q1S lv=true→x.o7 σ lv p=x.q5U σ lv p
 | .sl _ _ cs t,p,h=>by
  simp only[V.q1S]at h
  simp only[V.o7,V.q5U]
  split at h
  ·rename_i m e
   rw[e,Nat.eq_of_beq_eq_true h];simp
  ·rename_i e
   rw[e];simp
 | .agg _ vs,p,h=>by simp only[V.q1S]at h;simp only[V.o7,V.q5U,V.z2j vs p 0 h]
 | .d _ _,_,_| .ts _ _ _,_,_| .emp _ _,_,_| .nilc,_,_| .ptr _ _ _,_,_| .cptr _ _,_,_| .sr _ _ _ _ _ _ _,_,_| .mp _,_,_| .fn _ _,_,_| .tup _,_,_| .top _,_,_| .any,_,_=>by simp[V.o7,V.q5U]
theorem V.z2j {lv:Nat→Option Nat} {σ:List (Nat × List Nat)}:∀(xs:List V) (p:List Nat) (i:Nat),V.q3q lv xs=true→V.q1x σ lv p i xs=V.q91 σ lv p i xs
 | [],_,_,_=>rfl
 |x::xs,p,i,h=>by
  have hx:x.q1S lv=true∧V.q3q lv xs=true:=by
   simp only[V.q3q]at h
   split at h
   ·simpa using h
   ·simpa using h
   ·rename_i h1 h2
    refine⟨?_,h⟩
    cases x <;> first|rfl|exact absurd rfl (h1 _ _ _ _)|exact absurd rfl (h2 _ _)
  simp only[V.q1x,V.q91,V.q9o x _ hx.1,V.z2j xs p (i+1) hx.2]
end
def z42 (s:S):Nat→Nat→Nat
 |0,d=>d
 |f+1,d=>if(s.obj (.l d)).isNone=true then d else z42 s f (d+100000000)
def ekT {R:Type} (X:Cx) (m:Nat) (dst:Nat) (o:Oper) (ρ:Operand→V) (s:S) (K:KS R):Option R:=
 match o.op with
 | .store T p y=>(match ρ p with
   | .ptr k q τ=>(match s.obj k with
     |some (.box x)=>if τ=ty X.P T∧τ.known=true∧(Q6 τ (ρ y)).ty=τ∧(Q6 τ (ρ y)).plain=true∧(x.at q).isAny=false∧x.ty.W6=true∧(Q6 τ (ρ y)).okH=true then
       (match Q6 τ (ρ y)with
       | .sl eb e cs t=>(match q4P s t cs.length with
        |some b=>(bif b then K .any ((s.put k (.box (x.setAt q (.ts eb e cs)))).tok t none)else none)
        |none=>K .any (s.put k (.box (x.setAt q (.d (.slice eb e) (.slice cs))))))
       |z=>(bif z.q1S s.live then K .any (J1 (z.q3e s.live q) (s.put k (.box (x.setAt q (z.q5U (z.q3e s.live q) s.live q)))))else none))else none
     |_=>none)
   |_=>none)
 | .box _ x=>if(ρ x).plain=true∧(ρ x).okH=true∧(s.obj (.l dst)).isNone then
   (bif (ρ x).q1S s.live then K (.ptr (.l dst) [] (ρ x).ty) (J1 ((ρ x).q3e s.live []) (s.put (.l dst) (.box ((ρ x).q5U ((ρ x).q3e s.live []) s.live []))))else none)else none
 | .load T x=>(match ρ x with
   | .ptr k q τ=>(match s.obj k with
     |some (.box y)=>(match y.at q with
      | .ts eb e cs=>if m=1∧τ=ty X.P T∧τ= .slice eb e∧y.ty.W6=true∧s.known dst=false then K (.sl eb e cs dst) ((s.put k (.box (y.setAt q (.d (.slice eb e) (.slice cs))))).tok dst (some cs.length))else none
      |_=>none)
     |_=>none)
   |_=>none)
 | .mapUpdate T x i y=>(match q3X X.P T,ρ x with
   |some (kt,et),.mp k=>(match s.obj k with
     |some (.map kτ vτ es)=>if kτ=ty X.P kt∧vτ=ty X.P et∧q0a X.P kt=true∧kτ.flat=true∧(ρ i).Z4 kτ∧(Q6 vτ (ρ y).k9).ty=vτ∧(Q6 vτ (ρ y).k9).plain=true∧(Q6 vτ (ρ y).k9).v8=true then
       K .any (s.put k (.map kτ vτ (z5a es (ρ i).toC (Q6 vτ (ρ y).k9))))else none
     |_=>none)
   |_,_=>none)
 | .call c=>(match c.callee with
   | .builtin .append=>(match c.args.toList,c.argTypes.toList with
     | [x,y],[t,t']=>if Q9 X.P (y7 X.P t)=true then(match ty X.P t,ρ x with
       | .slice eb e,.sl eb' e' cs tk=>if eb'=eb∧e'=e then(match q4P s tk cs.length with
         |some b=>(bif b then(q3x X.P s t' eb e (ρ y) fun ys=>if(cs.length+ys.length)*eb≤140737488355328∧cs.length+ys.length≤maxLen then K (.sl eb e (cs++ys) tk) (s.tok tk (some (cs.length+ys.length)))else none)else none)
         |none=>none)else none
       | .slice eb e,.sr k q lo n cp eb' e'=>if q=[]∧lo=0∧cp.isNone=true∧eb'=eb∧e'=e then(match s.obj k with
         |some (.box (.d τ cc))=>(match τ with
          | .arr M e2=>if e2=e∧(s.obj (.l (z42 s 8 dst))).isNone then
            q3x X.P s t' eb e (ρ y) (fun ys=>if(n+ys.length)*eb≤140737488355328∧n+ys.length≤maxLen then
             K (.sr (.l (z42 s 8 dst)) [] 0 (n+ys.length) none eb e) ((s.put k (.dead (.arr M e))).put (.l (z42 s 8 dst)) (.box (.d (.arr (n+ys.length) e) (.agg (cc.elems.take n++ys)))))else none)else none
          |_=>none)
         |_=>none)else none
       |_,_=>none)else none
     |_,_=>none)
   | .builtin .copy=>(match c.args.toList,c.argTypes.toList with
     | [x,y],[t,t']=>if Q9 X.P (y7 X.P t)=true then(match ty X.P t,ρ x with
       | .slice eb e,.sr k q lo n cp eb' e'=>if cp.isSome=true∧eb'=eb∧e'=e then(match s.obj k with
         |some (.box Z)=>(match Z.at q with
          | .d τ cc=>(match τ with
           | .arr m e2=>if e2=e∧Z.ty.W6=true then(if 0<n then
             q3x X.P s t' eb e (ρ y) (fun ys=>K (.d (.int .i64) (.int (min ys.length n:Nat))) (s.put k (.box (Z.setAt q (.d (.arr m e) (.agg (q3C cc.elems lo n ys)))))))else none)else none
           |_=>none)
          |_=>none)
         |_=>none)else none
       |_,_=>none)else none
     |_,_=>none)
   |_=>none)
 |_=>none
theorem z9x {lv:Nat→Option Nat} {σ:List (Nat × List Nat)} {p:List Nat} {eb:Nat} {e:Ty} {cs:List C} {t:Nat} (h:look σ t=some p) (hl:lv t=some cs.length):V.o7 σ lv p (.sl eb e cs t)= .ts eb e cs:=by
 simp only[V.o7]
 exact if_pos ⟨h,hl⟩
theorem z9y {lv:Nat→Option Nat} {σ:List (Nat × List Nat)} {p:List Nat} {eb:Nat} {e:Ty} {cs:List C} {t:Nat} (hl:lv t=none):V.o7 σ lv p (.sl eb e cs t)= .d (.slice eb e) (.slice cs):=by
 simp only[V.o7]
 exact if_neg (by rw[hl];simp)
theorem q9k {s:S} {t n:Nat} (h:q4P s t n=some true):s.live t=some n:=by
 unfold q4P at h
 split at h
 ·rename_i m e
  rw[e,Nat.eq_of_beq_eq_true (Option.some.inj h)]
 ·cases h
theorem y4R {X:Cx} {md:List (Nat × Nat)} {m dst:Nat} (hm:r7 md dst=m) {o:Oper} {ρ:Operand→V} {s:S} {A':Key→Option O} (hA:leA s.A A') {R:Type} {r:R} {Kr:KS R} {K:V→S→Prop} (h:ekT X m dst o ρ s Kr=some r) (hK:∀v s1,Kr v s1=some r→K v (s1.wA A')):
  top X md dst o ρ (s.wA A') K:=by
 unfold ekT at h
 unfold top
 generalize o.op=op at h ⊢
 split at h
 ·split at h
  ·rename_i e0
   simp only[e0]
   split at h
   ·rename_i e1
    simp only[Z6 hA e1]
    simp only[Option.ite_none_right_eq_some]at h
    obtain⟨h1,h⟩:=h
    refine⟨h1.1,h1.2.1,h1.2.2.1,h1.2.2.2.1,V.q1F h1.2.2.2.2.1,h1.2.2.2.2.2.1,h1.2.2.2.2.2.2,?_⟩
    split at h
    ·rename_i eb e cs t e2
     rw[e2]
     split at h
     ·rename_i b e3
      cases b with
      |false=>cases h
      |true=>
       have hl:=q9k (s:=s) e3
       have hK:=hK _ _ h
       have e4:∀p,V.sites (s.wA A').live p (V.sl eb e cs t)=[(t,p)]:=by
        intro p
        simp only[V.sites]
        exact if_pos hl
       rw[e4,z9x (lv:=(s.wA A').live) (σ:=[(t,_)]) (by simp[look]) hl]
       exact hK
     ·rename_i e3
      have hl:s.live t=none:=by
       unfold q4P at e3
       split at e3
       ·cases e3
       ·rename_i e5;exact e5
      have hK:=hK _ _ h
      have e4:∀p,V.sites (s.wA A').live p (V.sl eb e cs t)=[]:=by
       intro p
       simp only[V.sites]
       exact if_neg (by rw[y3H,hl];simp)
      rw[e4,z9y (lv:=(s.wA A').live) hl]
      exact hK
    ·rename_i z hz
     generalize Q6 _ (ρ _)=z at h ⊢
     cases hn:z.q1S s.live with
     |false=>rw[hn]at h;cases h
     |true=>
     rw[hn,cond_true,←V.q8V z _ hn,←V.q9o z _ hn]at h
     have hK:=hK _ _ h
     rw[←q7W]at hK
     exact hK
   ·cases h
  ·cases h
 ·simp only[Option.ite_none_right_eq_some]at h
  obtain⟨h1,h⟩:=h
  rename_i _ x
  cases hn:(ρ x).q1S s.live with
  |false=>rw[hn]at h;cases h
  |true=>
  rw[hn,cond_true,←V.q8V (ρ x) _ hn,←V.q9o (ρ x) _ hn]at h
  have hK:=hK _ _ h
  rw[←q7W]at hK
  exact⟨h1.1,h1.2.1,by rw[q1k];simpa using h1.2.2,hK⟩
 ·split at h
  ·rename_i e0
   simp only[e0]
   split at h
   ·rename_i e1
    simp only[Z6 hA e1]
    split at h
    ·rename_i e2
     simp only[e2]
     simp only[Option.ite_none_right_eq_some]at h
     obtain⟨h1,h⟩:=h
     exact⟨hm.trans h1.1,h1.2.1,h1.2.2.1,h1.2.2.2.1,h1.2.2.2.2,hK _ _ h⟩
    ·cases h
   ·cases h
  ·cases h
 ·split at h
  ·rename_i e0 e1
   simp only[e0,e1]
   split at h
   ·rename_i e2
    simp only[Z6 hA e2]
    simp only[Option.ite_none_right_eq_some]at h
    obtain⟨h1,h⟩:=h
    have hK:=hK _ _ h
    rw[z5X]at hK
    exact⟨h1.1,h1.2.1,h1.2.2.1,h1.2.2.2.1,h1.2.2.2.2.1,h1.2.2.2.2.2.1,h1.2.2.2.2.2.2.1,h1.2.2.2.2.2.2.2,hK⟩
   ·cases h
  ·cases h
 ·split at h
  ·rename_i e0
   simp only[e0]
   split at h
   ·rename_i e1 e2
    simp only[e1,e2]
    simp only[Option.ite_none_right_eq_some]at h
    obtain⟨h0,h⟩:=h
    refine⟨h0,?_⟩
    split at h
    ·rename_i e3 e4
     simp only[e3,e4]
     simp only[Option.ite_none_right_eq_some]at h
     obtain⟨h1,h⟩:=h
     split at h
     ·rename_i b e5
      cases b with
      |false=>cases h
      |true=>
       simp only[cond_true]at h
       refine⟨h1.1,h1.2,q9k (s:=s) e5,?_⟩
       refine q76 hA h fun ys h=>?_
       simp only[Option.ite_none_right_eq_some]at h
       obtain⟨h2,h⟩:=h
       exact⟨h2.1,h2.2,hK _ _ h⟩
     ·cases h
    ·rename_i e3 e4
     simp only[e3,e4]
     simp only[Option.ite_none_right_eq_some]at h
     obtain⟨⟨rfl,rfl,hcp,h1⟩,h⟩:=h
     rename_i cp _ _
     cases cp with
     |some c=>cases hcp
     |none=>
      split at h
      ·rename_i e5
       simp only[Z6 hA e5]
       split at h
       ·simp only[Option.ite_none_right_eq_some]at h
        obtain⟨⟨h2,h3⟩,h⟩:=h
        refine⟨h1.1,h1.2,h2,_,by rw[q1k];simpa using h3,?_⟩
        refine q76 hA h fun ys h=>?_
        simp only[Option.ite_none_right_eq_some]at h
        obtain⟨h4,h⟩:=h
        exact⟨h4.1,h4.2,hK _ _ h⟩
       ·cases h
      ·cases h
    ·cases h
   ·cases h
  ·rename_i e0
   simp only[e0]
   split at h
   ·rename_i e1 e2
    simp only[e1,e2]
    simp only[Option.ite_none_right_eq_some]at h
    obtain⟨h0,h⟩:=h
    refine⟨h0,?_⟩
    split at h
    ·rename_i e3 e4
     simp only[e3,e4]
     simp only[Option.ite_none_right_eq_some]at h
     obtain⟨⟨hcp,rfl,rfl⟩,h⟩:=h
     rename_i cp _ _
     cases cp with
     |none=>cases hcp
     |some c0=>
      split at h
      ·rename_i e5
       simp only[Z6 hA e5]
       split at h
       ·rename_i e6
        split at h
        ·rename_i m e2'
         simp only[e6]
         simp only[Option.ite_none_right_eq_some]at h
         obtain⟨⟨rfl,h3⟩,h4,h⟩:=h
         refine⟨by trivial,by trivial,by trivial,h3,h4,?_⟩
         refine q76 hA h fun ys h=>?_
         exact hK _ _ h
        ·cases h
       ·cases h
      ·cases h
    ·cases h
   ·cases h
  ·cases h
 ·cases h
theorem y1a {R:Type} (op:BinOp) (k:IntKind) (a b:Int) (K:V→Option R):z0b op k a b K=(z0b op k a b some).bind K:=by
 unfold z0b
 split <;> first|rfl|(split <;> rfl)
theorem y2x {R:Type} (op:BinOp) (k:IntKind) (a b:Int) (K:V→Option R):z3A op k a b K=(z3A op k a b some).bind K:=by
 unfold z3A
 split <;> first|rfl|(split <;> rfl)
theorem y06 {R:Type} (op:BinOp) (a b:List UInt8) (K:V→Option R):q99 op a b K=(q99 op a b some).bind K:=by
 unfold q99
 split <;> first|rfl|(split <;> rfl)
theorem z4s {R:Type} (op:BinOp) (b:Bool) (K:V→Option R):q79 op b K=(q79 op b some).bind K:=by
 unfold q79
 split <;> rfl
theorem z4V {R:Type} (op:BinOp) (a b:Bool) (K:V→Option R):q4S op a b K=(q4S op a b some).bind K:=by
 unfold q4S
 split <;> rfl
theorem z61 {R:Type} (op:BinOp) (a b:Option Bool) (K:V→Option R):q5Y op a b K=(q5Y op a b some).bind K:=by
 unfold q5Y
 split <;> rfl
theorem z7X {R:Type} (op:BinOp) (a:Option (Option Bool)) (b:V) (K:V→Option R):q7q op a b K=(q7q op a b some).bind K:=by
 unfold q7q
 split <;> rfl
theorem y1c {R:Type} (P:Program) (op:BinOp) (T:TypeId) (x y:V) (K:V→Option R):z0c P op T x y K=(z0c P op T x y some).bind K:=by
 unfold z0c
 split
 ·split
  ·split
   ·split
    ·exact y2x ..
    ·rfl
   ·split
    ·exact y1a ..
    ·rfl
  ·rfl
 ·split
  ·exact z4V ..
  ·rfl
 ·split
  ·exact y06 ..
  ·rfl
 ·exact z61 ..
 ·split
  ·exact z4s ..
  ·rfl
 ·split
  ·exact z4s ..
  ·rfl
 ·exact z7X ..
 ·rfl
theorem z7W {R:Type} (P:Program) (T:TypeId) (x:V) (lo hi mx:Option V) (K:V→Option R):q5u P T x lo hi mx K=(q5u P T x lo hi mx some).bind K:=by
 unfold q5u
 repeat' (first|rfl|split)
theorem y08 {R:Type} (P:Program) (T:TypeId) (x:V) (K:V→Option R):z0a P T x K=(z0a P T x some).bind K:=by
 unfold z0a
 repeat' (first|rfl|split)
theorem z2E {R:Type} (P:Program) (T:TypeId) (x i:V) (K:V→Option R):q1H P T x i K=(q1H P T x i some).bind K:=by
 unfold q1H
 repeat' (first|rfl|split)
theorem z2G {R:Type} (P:Program) (T:TypeId) (x:V) (i:Nat) (K:V→Option R):q1I P T x i K=(q1I P T x i some).bind K:=by
 unfold q1I
 repeat' (first|rfl|split)
theorem y2u {R:Type} (P:Program) (op:UnOp) (T:TypeId) (x:V) (K:V→Option R):z3z P op T x K=(z3z P op T x some).bind K:=by
 unfold z3z
 repeat' (first|rfl|split)
theorem z9Q {R:Type} (P:Program) (a b:TypeId) (x:V) (K:V→Option R):q7s P a b x K=(q7s P a b x some).bind K:=by
 unfold q7s
 repeat' (first|rfl|split)
theorem z4U {R:Type} (P:Program) (b:Builtin) (ts:Array TypeId) (xs:List V) (K:V→Option R):q26 P b ts xs K=(q26 P b ts xs some).bind K:=by
 unfold q26
 repeat' (first|rfl|exact y08 .. |split)
theorem z60 {R:Type} (P:Program) (op:Op) (ρ:Operand→V) (K:V→Option R):q38 P op ρ K=(q38 P op ρ some).bind K:=by
 unfold q38
 split
 ·rfl
 ·rfl
 ·split
  ·cases(ρ _).toBool <;> rfl
  ·rfl
 ·split <;> rfl
 ·exact y1c ..
 ·exact y2u ..
 ·exact z9Q ..
 ·exact z2G ..
 ·split <;> rfl
 ·exact z2E ..
 ·repeat' (first|rfl|split)
 ·exact z7W ..
 ·repeat' (first|rfl|split)
 ·repeat' (first|rfl|split)
 ·repeat' (first|rfl|split)
 ·repeat' (first|rfl|exact z4U .. |split)
 ·rfl
theorem q1c {R:Type} (P:Program) (s:S) (t':TypeId) (eb:Nat) (e:Ty) (Y:V) (K:List C→Option R):q3x P s t' eb e Y K=(q3x P s t' eb e Y some).bind K:=by
 unfold q3x
 repeat' (first|rfl|split)
def K3.run {R:Type} (K:K3 R) (r:RI):Option R:=K r.1 r.2.1 r.2.2
def ri:K3 RI:=fun v lo tn=>some (v,lo,tn)
theorem q2g {α β γ:Type} (x:Option α) (f:α→Option β) (g:β→Option γ):(x.bind f).bind g=x.bind fun a=>(f a).bind g:=by cases x <;> rfl
theorem z65 {R:Type} (P:Program) (m dst:Nat) (s:S) (t t':TypeId) (x y:V) (K:K3 R):q39 P m dst s t t' x y K=(q39 P m dst s t t' x y ri).bind K.run:=by
 have key:∀eb e,(q3x P s t' eb e y fun ys=>if m=3 then(if ys.isEmpty=false then K (.sr (.l dst) [] 0 ys.length none eb e) [(.l dst,.box (.d (.arr ys.length e) (.agg ys)))] []else none)else K (.sl eb e ys dst) [] [(dst,some ys.length)])=
   (q3x P s t' eb e y fun ys=>if m=3 then(if ys.isEmpty=false then ri (.sr (.l dst) [] 0 ys.length none eb e) [(.l dst,.box (.d (.arr ys.length e) (.agg ys)))] []else none)else ri (.sl eb e ys dst) [] [(dst,some ys.length)]).bind K.run:=by
  intro eb e
  rw[q1c,q1c P s t' eb e y (fun ys=>if m=3 then(if ys.isEmpty=false then ri _ _ _ else none)else ri _ _ _),q2g]
  congr 1
  funext ys
  repeat' (first|rfl|split)
 unfold q39
 split
 ·split
  ·split
   ·exact key _ _
   ·exact key _ _
   ·rfl
  ·rfl
 ·rfl
theorem z2D {R:Type} (P:Program) (s:S) (T:TypeId) (k:Key) (K:V→Option R):q9A P s T k K=(q9A P s T k some).bind K:=by
 unfold q9A
 repeat' (first|rfl|split)
theorem z0S {R:Type} (τ:Ty) (c:C) (K:Option V→Option R) (es:List (C × V)):q5v τ es c K=(q5v τ es c some).bind K:=by
 unfold q5v
 cases q0f τ es <;> cases z3q es c <;> rfl
theorem y31 {R:Type} (X:Cx) (m dst:Nat) (o:Oper) (ρ:Operand→V) (s:S) (K:K3 R):ekI X m dst o ρ s K=(ekI X m dst o ρ s ri).bind K.run:=by
 have pv:∀op,q38 X.P op ρ (fun v=>K v [] [])=(q38 X.P op ρ fun v=>ri v [] []).bind K.run:=by
  intro op
  rw[z60,z60 X.P op ρ (fun v=>ri v [] []),q2g]
  rfl
 unfold ekI
 generalize o.op=op
 split
 ·unfold z9L;repeat' (first|rfl|split)
 ·repeat' (first|rfl|split)
 ·repeat' (first|rfl|split)
 ·repeat' (first|rfl|split)
 ·repeat' (first|rfl|split)
 ·repeat' (first|rfl|split)
 ·repeat' (first|rfl|split)
 ·split
  ·split
   ·split
    ·rw[z0S,z0S _ _ (fun r=>ri _ [] []),q2g]
     rfl
    ·rfl
   ·rfl
  ·rfl
 ·split
  ·rfl
  ·split
   ·exact z65 ..
   ·rfl
  ·split
   ·split
    ·rw[z2D,z2D X.P s _ _ (fun v=>ri v [] []),q2g]
     rfl
    ·exact pv _
   ·exact pv _
  ·exact pv _
 ·split
  ·rfl
  ·exact pv _
 ·exact pv _
def rs:KS (V × S):=fun v s=>some (v,s)
def KS.run {R:Type} (K:KS R) (r:V × S):Option R:=K r.1 r.2
theorem z8L {α R:Type} (b:Bool) (x:Option α) (f:α→Option R):(bif b then x.bind f else none)=(bif b then x else none).bind f:=by cases b <;> rfl
theorem y3Y {R:Type} (X:Cx) (m dst:Nat) (o:Oper) (ρ:Operand→V) (s:S) (K:KS R):ekT X m dst o ρ s K=(ekT X m dst o ρ s rs).bind K.run:=by
 unfold ekT
 split
 ·repeat' (first|rfl|exact z8L _ (rs _ _) K.run|split)
 ·repeat' (first|rfl|exact z8L _ (rs _ _) K.run|split)
 ·repeat' (first|rfl|split)
 ·repeat' (first|rfl|split)
 ·split
  ·split
   ·split
    ·split
     ·split
      ·split
       ·rename_i b _
        cases b
        ·rfl
        ·simp only[cond_true]
         rw[q1c,q1c X.P s _ _ _ _ (fun ys=>if(_+ys.length)*_≤140737488355328∧_ then rs _ _ else none),q2g]
         congr 1
         funext ys
         repeat' (first|rfl|split)
       ·rfl
      ·rfl
     ·split
      ·split
       ·split
        ·split
         ·rw[q1c,q1c X.P s _ _ _ _ (fun ys=>if _∧_ then rs _ _ else none),q2g]
          congr 1
          funext ys
          repeat' (first|rfl|split)
         ·rfl
        ·rfl
       ·rfl
      ·rfl
     ·rfl
    ·rfl
   ·rfl
  ·split
   ·split
    ·split
     ·split
      ·split
       ·split
        ·split
         ·split
          ·split
           ·rw[q1c,q1c X.P s _ _ _ _ (fun ys=>rs _ _),q2g]
            rfl
           ·rfl
          ·rfl
         ·rfl
        ·rfl
       ·rfl
      ·rfl
     ·rfl
    ·rfl
   ·rfl
  ·rfl
 ·rfl
theorem z2F {X:Cx} {m dst:Nat} {o:Oper} {ρ:Operand→V} {s:S} {R:Type} {r:R} {Kr:K3 R} (h:ekI X m dst o ρ s Kr=some r):
  ∃v lo tn,Kr v lo tn=some r∧∀A',leA s.A A'→∀(md:List (Nat × Nat)) (base:S),r7 md dst=m→∀K:V→List (Key × O)→List (Nat × Option Nat)→Prop,K v lo tn→iop X md base dst o ρ (s.wA A') K:=by
 rw[y31]at h
 cases h1:ekI X m dst o ρ s ri with
 |none=>rw[h1]at h;cases h
 |some x=>
  obtain⟨v,lo,tn⟩:=x
  rw[h1]at h
  refine⟨v,lo,tn,h,fun A' hA md base hm K hK=>y4S hm hA h1 fun v' lo' tn' e=>?_⟩
  simp only[ri,Option.some.injEq,Prod.mk.injEq]at e
  obtain⟨rfl,rfl,rfl⟩:=e
  exact hK
theorem z6Z {X:Cx} {m dst:Nat} {o:Oper} {ρ:Operand→V} {s:S} {R:Type} {r:R} {Kr:KS R} (h:ekT X m dst o ρ s Kr=some r):
  ∃v s1,Kr v s1=some r∧∀A',leA s.A A'→∀(md:List (Nat × Nat)),r7 md dst=m→∀K:V→S→Prop,K v (s1.wA A')→top X md dst o ρ (s.wA A') K:=by
 rw[y3Y]at h
 cases h1:ekT X m dst o ρ s rs with
 |none=>rw[h1]at h;cases h
 |some x=>
  obtain⟨v,s1⟩:=x
  rw[h1]at h
  refine⟨v,s1,h,fun A' hA md hm K hK=>y4R hm hA h1 fun v' s' e=>?_⟩
  simp only[rs,Option.some.injEq,Prod.mk.injEq]at e
  obtain⟨rfl,rfl⟩:=e
  exact hK
abbrev J2 (R:Type):=FuncId→List V→(Key→Option O)→(V→List (Key × O)→Option R)→Option R
def q1M (X:Cx) {R:Type} (call:J2 R):Prop:=∀f xs A Kr r,call f xs A Kr=some r→∃v L,Q3 X f xs A v L∧Kr v L=some r
def q6r {R:Type} (tip:Bool) (s:S):List V→Option R→Option R
 | [],r=>r
 |x::xs,r=>match x with
  | .sl _ _ cs t=>bif tip then(match s.live t with
   |some m=>bif Nat.beq m cs.length then q6r tip s xs r else none
   |none=>q6r tip s xs r)else q6r tip s xs r
  |_=>q6r tip s xs r
def z3L (P:Program) (tip:Bool) (s:S) (T:TypeId) (x:V):V:=
 match x with
 | .sl eb e cs t=>bif tip then(match s.live t with
  |some _=>.ts eb e cs
  |none=>.d (.slice eb e) (.slice cs))else .d (.slice eb e) (.slice cs)
 |x=>W8 P tip s T x
def z5n (P:Program) (tip:Bool) (s:S):List TypeId→List V→List V
 |T::Ts,x::xs=>z3L P tip s T x::z5n P tip s Ts xs
 |_,_=>[]
def q7x (tip:Bool) (s:S) (x:V):Option (Option Nat):=
 match x with
 | .sl _ _ _ t=>bif tip then(match s.live t with
  |some _=>some (some t)
  |none=>none)else none
 |x=>Q5 tip s x
def q68 (tip:Bool) (s:S):List V→List Nat
 | []=>[]
 |x::xs=>(match q7x tip s x with|some (some t)=>[t] |_=>[])++q68 tip s xs
def S.z8Y (s:S) (tip:Bool) (ys:List V) (d:Nat) (v:V) (L:List (Key × O)):S:=q3m d (v.tkR 2000) (q2Y (q68 tip s ys) (q2A d L s))
theorem z1b {R:Type} {P:Program} {tip:Bool} {s:S} {r0:Option R} {r:R}:∀{ys:List V},q6r tip s ys r0=some r→
  r0=some r∧q68 tip s ys=c7 tip s ys∧∀Ts,z5n P tip s Ts ys=b8 P tip s Ts ys
 | [],h=>⟨h,rfl,fun Ts=>by cases Ts <;> rfl⟩
 |x::xs,h=>by
  suffices hs:q6r tip s xs r0=some r∧q7x tip s x=Q5 tip s x∧∀T,z3L P tip s T x=W8 P tip s T x by
   obtain⟨h1,h2,h3⟩:=hs
   obtain⟨g1,g2,g3⟩:=z1b (P:=P) h1
   refine⟨g1,by simp only[q68,c7,h2,g2];rfl,fun Ts=>?_⟩
   cases Ts with
   |nil=>rfl
   |cons T Ts=>simp only[z5n,b8,h3,g3]
  unfold q6r at h
  split at h
  ·rename_i eb e cs t
   cases tip with
   |false=>exact⟨h,by simp[q7x,Q5],fun T=>by simp[z3L,W8]⟩
   |true=>
    simp only[cond_true]at h
    split at h
    ·rename_i m hm
     cases hb:Nat.beq m cs.length with
     |false=>rw[hb]at h;cases h
     |true=>
      rw[hb]at h
      have:=Nat.eq_of_beq_eq_true hb
      subst this
      exact⟨h,by simp[q7x,Q5,hm],fun T=>by simp[z3L,W8,hm]⟩
    ·rename_i hm
     exact⟨h,by simp[q7x,Q5,hm],fun T=>by simp[z3L,W8,hm]⟩
  ·rename_i hx
   refine⟨h,?_,fun T=>?_⟩
   ·unfold q7x
    split
    ·exact absurd rfl (hx _ _ _ _)
    ·rfl
   ·unfold z3L
    split
    ·exact absurd rfl (hx _ _ _ _)
    ·rfl
def q3y {R:Type} (X:Cx) (call:J2 R) (tip:Bool) (o:Oper) (ρ:Operand→V) (s:S) (K:V→List (Key × O)→Option R):Option R:=
 match o.op with
 | .call c=>(match c.callee with
  | .value fo=>(match ρ fo with
   | .fn f caps=>q6r tip s (Z1 (c.args.toList.map ρ) caps) (if q0R X.P f=true∧c.argTypes.toList.length=c.args.toList.length∧q0o (q68 tip s (Z1 (c.args.toList.map ρ) caps))=true then
      call f (z5n X.P tip s (q3D c.argTypes.toList caps) (Z1 (c.args.toList.map ρ) caps)) s.up K else none)
   |_=>none)
  |_=>none)
 |_=>none
theorem q78 {X:Cx} {R:Type} {call:J2 R} (hc:q1M X call) {dst:Nat} {o:Oper} {ρ:Operand→V} {base s B:S} (hB:B=base∨B=base.see s (J3 o ρ)) {r:R} {Kr:V→List (Key × O)→Option R} (h:q3y X call false o ρ B Kr=some r):
  ∃v L,Kr v L=some r∧∀A',leA B.A A'→∀(md:List (Nat × Nat)) (K:V→List (Key × O)→List (Nat × Option Nat)→Prop),(q2o L=true→K ((v.X7 2000).ren (dn dst) (rk dst)) (dnL dst L) (dnT dst (v.tkR 2000))→iop X md (base.wA A') dst o ρ (s.wA A') K)∧
   (r7 md dst=0→(∀k o,B.obj k=some o→s.obj k=some o)→leA s.A A'→q32 s dst L=true→q5B s dst (v.tkR 2000)=true→∀K2:V→S→Prop,K2 ((v.X7 2000).ren (dn dst) (rk dst)) ((s.ret false (J3 o ρ) dst v L).wA A')→top X md dst o ρ (s.wA A') K2):=by
 unfold q3y at h
 unfold J3 at hB ⊢
 unfold iop top
 generalize o.op=op at h hB ⊢
 split at h
 ·dsimp only
  split at h
  ·rename_i e0
   simp only[e0]at hB ⊢
   split at h
   ·rename_i e1
    simp only[e1]at hB ⊢
    obtain⟨h,n1,n2⟩:=z1b (P:=X.P) h
    rw[n1,n2]at h
    simp only[Option.ite_none_right_eq_some]at h
    obtain⟨h1,h⟩:=h
    obtain⟨v,L,hD,hr⟩:=hc _ _ _ _ _ h
    refine⟨v,L,hr,fun A' hA md K=>⟨fun hl hK=>.inl ⟨h1.1,h1.2.1,B.wA A',v,L,hB.imp (congrArg (S.wA · A')) (congrArg (S.wA · A')),?_,hl,hK⟩,fun hm hb hA2 hg ht K2 hK=>?_⟩⟩
    ·rw[q3H (s.wA A') B]
     exact hD.mono (z8Q hA)
    ·have hm1:(r7 md dst==1)=false:=by rw[hm];rfl
     rw[hm1]
     refine⟨h1.1,h1.2.1,by rw[q3o];rfl,v,L,?_,q92 hA2 hg,z2Y ht,by rw[z5H];exact hK⟩
     rw[q3H (s.wA A') B]
     refine hD.mono fun k x hk=>z8Q hA2 k x ?_
     simp only[S.up,Option.map_eq_some_iff]at hk ⊢
     obtain⟨y,h2,h3⟩:=hk
     exact⟨y,hb _ _ h2,h3⟩
   ·cases h
  ·cases h
 ·cases h
theorem z2H {X:Cx} {R:Type} {call:J2 R} (hc:q1M X call) {tip:Bool} {dst:Nat} {o:Oper} {ρ:Operand→V} {s:S} {r:R} {Kr:V→List (Key × O)→Option R} (h:q3y X call tip o ρ s Kr=some r):
  ∃v L,Kr v L=some r∧s.z8Y tip (J3 o ρ) dst v L=s.ret tip (J3 o ρ) dst v L∧(q32 s dst L=true→q5B s dst (v.tkR 2000)=true→∀A',leA s.A A'→∀md:List (Nat × Nat),(r7 md dst==1)=tip→∀K2:V→S→Prop,K2 ((v.X7 2000).ren (dn dst) (rk dst)) ((s.ret tip (J3 o ρ) dst v L).wA A')→top X md dst o ρ (s.wA A') K2):=by
 unfold q3y at h
 unfold J3
 unfold top
 generalize o.op=op at h ⊢
 split at h
 ·dsimp only
  split at h
  ·rename_i e0
   simp only[e0]
   split at h
   ·rename_i e1
    simp only[e1]
    obtain⟨h,n1,n2⟩:=z1b (P:=X.P) h
    rw[n1,n2]at h
    simp only[Option.ite_none_right_eq_some]at h
    obtain⟨h1,h⟩:=h
    obtain⟨v,L,hD,hr⟩:=hc _ _ _ _ _ h
    refine⟨v,L,hr,by simp only[e0,S.z8Y,S.ret,n1],fun hg ht A' hA md hm K2 hK=>?_⟩
    rw[hm]
    refine⟨h1.1,h1.2.1,by rw[q9e];exact h1.2.2,v,L,?_,q92 hA hg,z2Y ht,by rw[z5H];exact hK⟩
    rw[z4w]
    exact hD.mono (z8Q hA)
   ·cases h
  ·cases h
 ·cases h
end Go.E
namespace Go.E
open Go
abbrev q0r:=FuncId→Option (List V→Option V)
def q2h (X:Cx) (ext:q0r):Prop:=∀f g xs v,ext f=some g→g xs=some v→z5s X f xs v
def z2s (ext:q0r) (o:Oper) (ρ:Operand→V):Option (Option V):=
 match o.op with
 | .call c=>(match c.callee with
  | .value fo=>(match ρ fo with
   | .fn f []=>(match ext f with
    |some g=>some (g (c.args.toList.map ρ))
    |none=>none)
   |_=>none)
  |_=>none)
 |_=>none
theorem z6S {X:Cx} {ext:q0r} (he:q2h X ext) {md:List (Nat × Nat)} {dst:Nat} {o:Oper} {ρ:Operand→V} {s base:S} {v:V} (h:z2s ext o ρ=some (some v)) {K:V→List (Key × O)→List (Nat × Option Nat)→Prop} (hK:K v [] []):
  iop X md base dst o ρ s K:=by
 unfold z2s at h
 unfold iop
 generalize o.op=op at h ⊢
 split at h
 ·dsimp only
  split at h
  ·rename_i e0
   simp only[e0]
   split at h
   ·rename_i e1
    simp only[e1]
    split at h
    ·rename_i e2
     exact .inr (.inl ⟨by first|rfl|trivial,_,he _ _ _ _ e2 (Option.some.inj h),hK⟩)
    ·cases h
   ·cases h
  ·cases h
 ·cases h
def y29 (m:Nat) (o:Oper) (ρ:Operand→V):Bool:=
 match o.op with
 | .store _ _ _| .mapUpdate _ _ _ _=>true
 | .load _ _=>Nat.beq m 1
 | .box _ x=> !(Nat.beq m 5)&& !(ρ x).v8
 | .call c=>(match c.callee,c.args.toList with
  | .builtin .copy,_=>true
  | .builtin .append,x::_=>(match ρ x with| .sl _ _ _ _=>true| .sr _ _ _ _ _ _ _=>true|_=>false)
  |_,_=>false)
 |_=>false
def y4O (o:Oper) (ρ:Operand→V):Bool:=
 match o.op with
 | .load _ x=>(match ρ x with| .cptr _ _=>true|_=>false)
 | .convert _ _ x=>(match ρ x with| .sr _ _ _ _ _ _ _=>false|_=>true)
 | .alloc _| .box _ _| .makeSlice _ _ _| .makeMap _ _| .lookup _ _ _ _=>false
 | .call c=>(match c.callee,c.args.toList with
  | .builtin .append,_=>false
  | .builtin .copy,_=>false
  | .builtin .len,x::_=>(match ρ x with| .mp _=>false|_=>true)
  | .builtin _,_=>true
  |_,_=>false)
 |_=>true
def y18 (c:C) (b:Bool):C:=match c with
 | .bool _=>.bool b
 |c=>c
theorem y0G {c:C} {b:Bool} (h:c.toBool=b):y18 c b=c:=by
 cases c <;> first|rfl|(simp only[C.toBool]at h;subst h;rfl)
def S.lit (s:S) (t:Nat) (c:C) (b:Bool):S:={s with env:=q6j s.env t (.d .bool (y18 c b))}
theorem z1O {α:Type}:∀{l:List (Nat × α)} {t:Nat} {x:α},look l t=some x→q6j l t x=l
 | [],t,x,h=>by simp[look]at h
 |(j,y)::l,t,x,h=>by
  simp only[look]at h
  simp only[q6j]
  split
  ·rename_i e
   rw[if_pos e]at h
   cases h;rfl
  ·rename_i e
   rw[if_neg e]at h
   rw[z1O h]
theorem z6s {s:S} {t:Nat} {c:C} {b:Bool} (h:s.get t= .d .bool c) (hb:c.toBool=b):s.lit t c b=s:=by
 have:look s.env t=some (.d .bool c):=by
  unfold S.get at h
  cases hl:look s.env t with
  |none=>rw[hl]at h;cases h
  |some x=>rw[hl]at h;simp at h;rw[h]
 rw[←y0G hb]at this
 simp only[S.lit,z1O this]
def q7k (ops:Array Oper) (j:Nat):Nat:=(q1p ops j).getD 0
def z6G {R:Type} (ops:Array Oper) (s:S) (j:Nat) (want:Bool) (go skip:S→Option R):Option R:=
 match gv ops s j with
 | .d .bool c=>(match want with
  |true=>bif c.toBool then go (s.lit (q7k ops j) c true)else skip (s.lit (q7k ops j) c false)
  |false=>bif c.toBool then skip (s.lit (q7k ops j) c true)else go (s.lit (q7k ops j) c false))
 | .tup []=>skip s
 |_=>none
theorem y4Q {ops:Array Oper} {s:S} {j:Nat} {c:C} {b:Bool} (h:gv ops s j= .d .bool c) (hb:c.toBool=b):s.lit (q7k ops j) c b=s:=by
 unfold gv at h
 unfold q7k
 split at h
 ·cases h
 ·rename_i t e
  rw[e]
  exact z6s h hb
theorem z3r {R:Type} {ops:Array Oper} {s:S} {j:Nat} {want:Bool} {go skip:S→Option R} {r:R} (h:z6G ops s j want go skip=some r):(go s=some r∧∀p q:Prop,p→gx (gv ops s j) want p q)∨(skip s=some r∧∀p q:Prop,q→gx (gv ops s j) want p q):=by
 unfold z6G at h
 unfold gx
 split at h
 ·rename_i c hb
  simp only[hb]
  cases hc:c.toBool <;> rw[hc]at h <;> cases want <;> simp only[cond_true,cond_false]at h <;> rw[y4Q hb hc]at h
  ·exact .inl ⟨h,fun p q hp=>⟨fun _=>hp,fun h=>absurd rfl h⟩⟩
  ·exact .inr ⟨h,fun p q hq=>⟨fun h=>(by cases h),fun _=>hq⟩⟩
  ·exact .inr ⟨h,fun p q hq=>⟨fun h=>(by cases h),fun _=>hq⟩⟩
  ·exact .inl ⟨h,fun p q hp=>⟨fun _=>hp,fun h=>absurd rfl h⟩⟩
 ·rename_i hb
  simp only[hb]
  exact .inr ⟨h,fun p q hq=>hq⟩
 ·cases h
theorem z6t (s:S) (A':Key→Option O) (x:V):Y6 (s.wA A') x=Y6 s x:=by
 unfold Y6
 split
 ·split
  ·rw[q1k]
  ·rfl
 ·rfl
theorem z1g (A':Key→Option O):∀(js:List Nat) (s:S),U5 js (s.wA A')=(U5 js s).wA A'
 | [],_=>rfl
 |j::l,s=>by
  simp only[U5]
  rw[←z1g A' l]
  congr 1
  rw[q1k]
  split
  ·split <;> rfl
  ·rfl
def z2C {R:Type} (X:Cx) (call:J2 R) (o:Oper) (ρ:Operand→V) (s:S) (K:V→Option R):Option R:=
 match o.op with
 | .call c=>(match c.callee with
  | .value fo=>(match ρ fo with
   | .fn f caps=>(match caps with
    | []=>if q0R X.P f=true∧q1s (c.args.toList.map fun y=>q0T s (ρ y))=true then
      call f (c.args.toList.map fun y=>q0T s (ρ y)) (fun _=>none) (fun v L=>if L.isEmpty=true∧v.W7=true then K v else none)else none
    |_=>none)
   |_=>none)
  |_=>none)
 |_=>none
theorem z0Z {s:S} {A':Key→Option O} (hA:leA s.A A'):∀(f:Nat) {x:V} {τ:Ty} {c:C},q0G f s x= .d τ c→q0G f (s.wA A') x= .d τ c
 |0,_,_,_,h=>by cases h
 |f+1,x,τ,c,h=>by
  have ih:∀(xs:List V) (cs:List C),Z7 (xs.map (q0G f s))=some cs→Z7 (xs.map (q0G f (s.wA A')))=some cs:=by
   intro xs
   induction xs with
   |nil=>exact fun _ h=>h
   |cons x xs ih=>
    intro cs h
    simp only[List.map_cons,Z7]at h ⊢
    rcases z8c s f x with e|⟨τ,c,e⟩
    ·rw[e]at h;simp[s9]at h
    ·rw[z0Z hA f e]
     rw[e]at h
     cases e2:Z7 (xs.map (q0G f s))with
     |none=>rw[e2]at h;simp[s9]at h
     |some cs'=>rw[e2]at h;rw[ih _ e2];exact h
  cases x <;> (try exact h)
  case agg τ0 xs=>
   simp only[q0G]at h ⊢
   split at h
   ·rename_i cs hcs
    rw[ih _ _ hcs]
    exact h
   ·cases h
  case sr k q lo n cp eb e=>
   simp only[q0G]at h ⊢
   split at h
   ·rename_i y ho
    rw[Z6 hA ho]
    dsimp only
    split at h
    ·rename_i e2
     rw[z0Z hA f e2]
     exact h
    ·cases h
   ·cases h
theorem y1P {s:S} {A':Key→Option O} (hA:leA s.A A') {x:V} {τ:Ty} {c:C} (h:q0T s x= .d τ c):q0T (s.wA A') x= .d τ c:=z0Z hA _ h
theorem z5C {s:S} {A':Key→Option O} (hA:leA s.A A'):∀{l:List V},q1s (l.map (q0T s))=true→l.map (q0T (s.wA A'))=l.map (q0T s)
 | [],_=>rfl
 |x::l,h=>by
  simp only[List.map_cons,q1s,Bool.and_eq_true]at h
  simp only[List.map_cons]
  rw[z5C hA h.2]
  congr 1
  cases hs:q0T s x <;> rw[hs]at h <;> simp at h
  exact y1P hA hs
theorem z4q {X:Cx} {R:Type} {call:J2 R} (hc:q1M X call) {o:Oper} {ρ:Operand→V} {s:S} {r:R} {Kr:V→Option R} (h:z2C X call o ρ s Kr=some r):
  ∃v,Kr v=some r∧∀A',leA s.A A'→∀(md:List (Nat × Nat)) (base:S) (dst:Nat) (K:V→List (Key × O)→List (Nat × Option Nat)→Prop),K v [] []→iop X md base dst o ρ (s.wA A') K:=by
 unfold z2C at h
 unfold iop
 generalize o.op=op at h ⊢
 split at h
 ·dsimp only
  split at h
  ·rename_i c _ fo e0
   simp only[e0]
   split at h
   ·rename_i f caps e1
    simp only[e1]
    split at h
    ·simp only[Option.ite_none_right_eq_some]at h
     obtain⟨⟨h1,h2⟩,h⟩:=h
     obtain⟨v,L,hD,hr⟩:=hc _ _ _ _ _ h
     simp only[Option.ite_none_right_eq_some]at hr
     obtain⟨⟨h3,h4⟩,hr⟩:=hr
     have hL:L=[]:=by simpa using h3
     subst hL
     refine⟨v,hr,fun A' hA md base dst K hK=>.inr (.inr ⟨by first|rfl|trivial,h1,v,?_⟩)⟩
     have e:(c.args.toList.map fun y=>q0T (s.wA A') (ρ y))=c.args.toList.map fun y=>q0T s (ρ y):=by
      have h2':q1s ((c.args.toList.map ρ).map (q0T s))=true:=by rw[List.map_map];exact h2
      have:=z5C (A':=A') hA h2'
      rw[List.map_map,List.map_map]at this
      exact this
     rw[e]
     exact⟨h2,hD,h4,hK⟩
    ·cases h
   ·cases h
  ·cases h
 ·cases h
def y3a (o:Oper) (ρ:Operand→V):Bool:=
 match o.op with
 | .makeInterface _ _=>true
 | .binOp _ _ _ y _=>q4R y
 | .convert _ dst x=>(match ρ x with
  | .d τ _=>(match τ with
   | .str=> !(Nat.beq dst 0)&&true
   |_=>false)
  |_=>false)
 |_=>false
def z5j {R:Type} (X:Cx) (o:Oper) (ρ:Operand→V) (K:V→Option R) (other:Option R):Option R:=
 match o.op with
 | .convert src dst x=>(match q8e X.P src dst (ρ x)with
  |some ys=>K (.d (.slice 1 (.int .u8)) (.slice ys))
  |none=>other)
 | .makeInterface T _=>if z2M X.P T=true then K (.d .iface (.bool true))else none
 | .binOp op T x y _=>if q4R y=true∧ty X.P T= .iface then(match op,ρ x with
  | .eql,.d .iface c=>K (.d .bool (.bool c.isNil))
  | .neq,.d .iface c=>K (.d .bool (.bool (!c.isNil)))
  |_,_=>none)else none
 |_=>none
theorem z63 {R:Type} {X:Cx} {o:Oper} {ρ:Operand→V} {r:R} {Kr:V→Option R} {other:Option R} (h:z5j X o ρ Kr other=some r):
  (∃v,Kr v=some r∧∀K:V→Prop,K v→fop X o ρ K)∨other=some r:=by
 unfold z5j at h
 unfold fop
 generalize o.op=op at h ⊢
 split at h
 ·dsimp only
  split at h
  ·rename_i e0
   simp only[e0]
   exact .inl ⟨_,h,fun K hK=>hK⟩
  ·exact .inr h
 ·simp only[Option.ite_none_right_eq_some]at h
  exact .inl ⟨_,h.2,fun K hK=>⟨h.1,hK⟩⟩
 ·simp only[Option.ite_none_right_eq_some]at h
  obtain⟨h1,h⟩:=h
  split at h
  ·rename_i e0
   simp only[e0]
   exact .inl ⟨_,h,fun K hK=>⟨h1.1,h1.2,hK⟩⟩
  ·rename_i e0
   simp only[e0]
   exact .inl ⟨_,h,fun K hK=>⟨h1.1,h1.2,hK⟩⟩
  ·cases h
 ·cases h
def z9t (m:Nat) (o:Oper):Bool:=
 match o.op with
 | .slice _ _ _ _ _=>Nat.beq m 4
 | .convert _ _ _=>Nat.beq m 9
 |_=>false
def z9N {R:Type} (X:Cx) (dst:Nat) (o:Oper) (ρ:Operand→V) (s:S) (K:KS R):Option R:=
 match o.op with
 | .slice T x lo hi mx=>if s.known dst=false∧hi.isSome=true∧mx.isSome=true then(match ty X.P T with
  | .slice eb e=>(match(ρ x).q1O with
   |some (eb',e',cs)=>(match j5 (lo.map ρ) 0,j5 (hi.map ρ) 0,j5 (mx.map ρ) 0 with
    |some l,some h,some m=>if eb'=eb∧e'=e∧l=0 then(if 0≤h∧h=m∧m≤cs.length then K (.sl eb e (cs.take h.toNat) dst) {s with tk:=(dst,some (cs.take h.toNat).length)::s.tk} else none)else none
    |_,_,_=>none)
   |none=>none)
  |_=>none)else none
 | .convert src dst' x=>if(s.obj (.l dst)).isNone=true then(match q8e X.P src dst' (ρ x)with
  |some ys=>K (.sr (.l dst) [] 0 ys.length none 1 (.int .u8)) {s with loc:=(.l dst,.box (.d (.arr ys.length (.int .u8)) (.agg ys)))::s.loc}
  |none=>none)else none
 |_=>none
theorem y2w {R:Type} {X:Cx} {dst:Nat} {o:Oper} {ρ:Operand→V} {s:S} {r:R} {Kr:KS R} {m:Nat} (hm0:z9t m o=true) (h:z9N X dst o ρ s Kr=some r):
  ∃v s1,Kr v s1=some r∧∀A',∀md:List (Nat × Nat),r7 md dst=m→∀K:V→S→Prop,K v (s1.wA A')→sl3 X md dst o ρ (s.wA A') K:=by
 unfold z9t at hm0
 unfold z9N at h
 unfold sl3
 generalize o.op=op at h hm0 ⊢
 split at h
 ·simp only[Option.ite_none_right_eq_some]at h
  obtain⟨h1,h⟩:=h
  have hm4:=Nat.eq_of_beq_eq_true hm0
  subst hm4
  dsimp only
  split at h
  ·rename_i e0
   simp only[e0]
   split at h
   ·rename_i e1
    simp only[e1]
    split at h
    ·rename_i e2 e3 e4
     simp only[e2,e3,e4]
     simp only[Option.ite_none_right_eq_some]at h
     obtain⟨h2,h3,h⟩:=h
     exact⟨_,_,h,fun A' md hm K hK=>⟨hm,h1.1,h1.2.1,h1.2.2,h2.1,h2.2.1,h2.2.2,h3.1,h3.2.1,h3.2.2,hK⟩⟩
    ·cases h
   ·cases h
  ·cases h
 ·simp only[Option.ite_none_right_eq_some]at h
  obtain⟨h1,h⟩:=h
  have hm4:=Nat.eq_of_beq_eq_true hm0
  subst hm4
  dsimp only
  split at h
  ·rename_i ys e0
   refine⟨_,_,h,fun A' md hm K hK=>⟨hm,by rw[q1k];simpa using h1,?_⟩⟩
   rw[e0]
   exact hK
  ·cases h
 ·cases h
def q5t {R:Type} (X:Cx) (call:J2 R) (ext:q0r) (m:Nat) (o:Oper) (ρ:Operand→V) (s:S) (K:KS R):Option R:=
 if z3p o=true then
  (match z2s ext o ρ with
  |some r=>(match r with
   |some v=>if m=0 then K v s else none
   |none=>none)
  |none=>if Nat.beq m 8=true then z2C X call o ρ s (fun v=>K v s)else q3y X call (m==1) o ρ s fun v L=>if q32 s (y6 o) L=true∧q5B s (y6 o) (v.tkR 2000)=true then K ((v.X7 2000).ren (dn (y6 o)) (rk (y6 o))) (s.z8Y (m==1) (J3 o ρ) (y6 o) v L)else none)
 else if y29 m o ρ=true then ekT X m (y6 o) o ρ s K
 else ekI X m (y6 o) o ρ s fun v lo tn=>if Nat.beq m 1=false∧X9 s lo=true∧q24 s tn=true then K v (s.add lo tn)else none
def q9y {R:Type} (X:Cx) (call:J2 R) (ext:q0r) (m:Nat) (o:Oper) (s:S) (K:KS R):Option R:=
 if Nat.beq m 100=true then q5t X call ext 0 o (fun y=>Y6 s (y5 X.gl s y)) (U5 (q0p (o.op.operands.toList.map (y5 X.gl s))) s) K
 else if z9t m o=true then z9N X (y6 o) o (y5 X.gl s) s K
 else if y3a o (y5 X.gl s)=true then z5j X o (y5 X.gl s) (fun v=>K v s) (q5t X call ext m o (y5 X.gl s) s K)
 else q5t X call ext m o (y5 X.gl s) s K
section
variable {X:Cx} {R:Type} {call:J2 R} {ext:q0r} (hc:q1M X call) (he:q2h X ext)
include hc he
theorem z2B {m:Nat} {o:Oper} {ρ:Operand→V} {s:S} {Kr:KS R} {r:R} (h:q5t X call ext m o ρ s Kr=some r):
  ∃v s1,Kr v s1=some r∧∀A',leA s.A A'→∀md:List (Nat × Nat),r7 md (y6 o)=m→∀K:V→S→Prop,K v (s1.wA A')→
   (m≠1∧iop X md (s.wA A') (y6 o) o ρ (s.wA A') (fun v lo tn=>H7 (s.wA A') lo∧H6 (s.wA A') tn∧K v ((s.wA A').add lo tn)))∨top X md (y6 o) o ρ (s.wA A') K:=by
 unfold q5t at h
 split at h
 ·split at h
  ·rename_i x e0
   split at h
   ·simp only[Option.ite_none_right_eq_some]at h
    obtain⟨h1,h⟩:=h
    exact⟨_,_,h,fun A' hA md hm K hK=>.inl ⟨by rw[h1];decide,z6S he e0 ⟨trivial,trivial,hK⟩⟩⟩
   ·cases h
  ·split at h
   ·rename_i hm8
    have hm8:m=8:=Nat.eq_of_beq_eq_true hm8
    obtain⟨v,h1,h2⟩:=z4q hc h
    exact⟨_,_,h1,fun A' hA md hm K hK=>.inl ⟨by rw[hm8];decide,h2 A' hA md _ _ _ ⟨trivial,trivial,hK⟩⟩⟩
   obtain⟨v,L,h1,hq,h2⟩:=z2H (dst:=y6 o) hc h
   rw[hq]at h1
   simp only[Option.ite_none_right_eq_some]at h1
   obtain⟨⟨h3,h4⟩,h1⟩:=h1
   exact⟨_,_,h1,fun A' hA md hm K hK=>.inr (h2 h3 h4 A' hA md (by rw[hm]) K hK)⟩
 ·split at h
  ·obtain⟨v,s1,h1,h2⟩:=z6Z h
   exact⟨v,s1,h1,fun A' hA md hm K hK=>.inr (h2 A' hA md hm K hK)⟩
  ·obtain⟨v,lo,tn,h1,h2⟩:=z2F h
   simp only[Option.ite_none_right_eq_some]at h1
   obtain⟨⟨h3,h4,h5⟩,h1⟩:=h1
   refine⟨v,_,h1,fun A' hA md hm K hK=>.inl ⟨?_,h2 A' hA md _ hm _ ⟨q3w h4,q3v h5,hK⟩⟩⟩
   intro e;subst e;simp at h3
theorem y07 {m:Nat} {o:Oper} {s:S} {Kr:KS R} {r:R} (h:q9y X call ext m o s Kr=some r):
  ∃v s1,Kr v s1=some r∧∀A',leA s.A A'→∀md:List (Nat × Nat),r7 md (y6 o)=m→∀K:V→S→Prop,K v (s1.wA A')→sop X md (y6 o) o (s.wA A') K:=by
 unfold q9y at h
 split at h
 ·rename_i hm100
  have hm100:m=100:=Nat.eq_of_beq_eq_true hm100
  obtain⟨v,s1,h1,h2⟩:=z2B hc he h
  refine⟨v,s1,h1,fun A' hA md hm K hK=>.inl ⟨by rw[hm,hm100],?_⟩⟩
  have hA2:leA (U5 (q0p (o.op.operands.toList.map (y5 X.gl s))) s).A A':=by rw[(q4Q _ s).2];exact hA
  have:=h2 A' hA2 [] rfl K hK
  unfold y4M
  simp only[Y3,z6t,z1g]
  exact this.imp (fun h=>h.2) id
 ·have normal:q5t X call ext m o (y5 X.gl s) s Kr=some r→∃v s1,Kr v s1=some r∧∀A',leA s.A A'→∀md:List (Nat × Nat),r7 md (y6 o)=m→∀K:V→S→Prop,K v (s1.wA A')→sop X md (y6 o) o (s.wA A') K:=by
   intro h
   obtain⟨v,s1,h1,h2⟩:=z2B hc he h
   refine⟨v,s1,h1,fun A' hA md hm K hK=>.inr ?_⟩
   have:=h2 A' hA md hm K hK
   simp only[Y3]
   rw[hm]
   exact this.imp id .inl
  split at h
  ·rename_i hsl
   obtain⟨v,s1,h1,h2⟩:=y2w hsl h
   refine⟨v,s1,h1,fun A' hA md hm K hK=>.inr (.inr (.inr (.inr ?_)))⟩
   rw[Y3]
   exact h2 A' md hm K hK
  ·split at h
   ·rcases z63 h with⟨v,h1,h2⟩|h
    ·refine⟨v,s,h1,fun A' hA md hm K hK=>.inr (.inr (.inr ?_))⟩
     rw[Y3]
     exact .inl (h2 _ hK)
    ·exact normal h
   ·exact normal h
end
end Go.E
namespace Go.E
open Go
def q77 {R:Type} (X:Cx) (call:J2 R) (ext:q0r) (ops:Array Oper) (cand:List Nat) (tbl:List (Nat × Nat)):List Oper→S→(List (Nat × Nat)→S→Option R)→Option R
 | [],s,K=>K [] s
 |o::rest,s,K=>
  match o.guard with
  |none=>q9y X call ext (o8 cand tbl o (y5 X.gl s) s) o s fun v s1=>q77 X call ext ops cand tbl rest ((s1.wA s.A).set o.dst v) fun ml s2=>K ((y6 o,o8 cand tbl o (y5 X.gl s) s)::ml) s2
  |some (j,want)=>z6G ops s j want (fun s=>q9y X call ext (o8 cand tbl o (y5 X.gl s) s) o s fun v s1=>q77 X call ext ops cand tbl rest ((s1.wA s.A).set o.dst v) fun ml s2=>K ((y6 o,o8 cand tbl o (y5 X.gl s) s)::ml) s2)
    (fun s=>q77 X call ext ops cand tbl rest (s.set o.dst (.tup [])) K)
theorem z1V:∀(n:Nat) {loc:List (Key × O)} (ks:List Key),∀p∈q2F n loc ks,z6 loc p.1=some p.2
 |0,_,_,p,hp=>by simp[q2F]at hp
 |n+1,loc,ks,p,hp=>by
  simp only[q2F,List.mem_flatMap]at hp
  obtain⟨k,h1,hp⟩:=hp
  split at hp
  ·rename_i o ho
   rcases List.mem_cons.1 hp with rfl|hp
   ·exact ho
   ·split at hp
    ·exact z1V n _ p hp
    ·simp at hp
  ·simp at hp
def q7C (base s:S) (xs:List V):S:=bif (V.q3n xs).all (fun k=>(base.obj k).isSome)then base else base.see s xs
theorem q9O (base s:S) (xs:List V):q7C base s xs=base∨q7C base s xs=base.see s xs:=by
 unfold q7C
 cases(V.q3n xs).all _
 ·exact .inr rfl
 ·exact .inl rfl
theorem z1H (base s:S) (xs:List V):(q7C base s xs).A=base.A:=by
 rcases q9O base s xs with h|h <;> rw[h] <;> rfl
theorem z5D {base s:S} {xs:List V} (hb:∀k o,base.obj k=some o→s.obj k=some o) (k:Key) (o:O) (h:(q7C base s xs).obj k=some o):s.obj k=some o:=by
 rcases q9O base s xs with e|e <;> rw[e]at h
 ·exact hb k o h
 ·unfold S.obj S.see b6 at h
  simp only[H2]at h
  cases hl:z6 (q2F 3 s.loc (V.q3n xs)) k with
  |some o'=>
   rw[hl]at h
   cases h
   exact z38 (z1V 3 _ (k,o) (q7P hl))
  |none=>
   rw[hl]at h
   exact hb k o h
def ekK {R:Type} (X:Cx) (call:J2 R) (ext:q0r) (m:Nat) (o:Oper) (base s:S) (K:RD→Option R):Option R:=
 if z3p o=true then
  (match z2s ext o (y5 X.gl s)with
  |some r=>(match r with
   |some v=>K (.k0 v)
   |none=>none)
  |none=>if Nat.beq m 8=true then z2C X call o (y5 X.gl s) s (fun v=>K (.k1 v [] []))else if Nat.beq m 7=true then q3y X call false o (y5 X.gl s) s00 fun v L=>if q6q L (v.tkR 2000)=true then K (.k0 ((v.X7 2000).ren (dn (y6 o)) (rk (y6 o))))else none else(match m with
   |0=>q3y X call false o (y5 X.gl s) (q7C base s (J3 o (y5 X.gl s))) fun v L=>if q2o L=true then(if X9 s (dnL (y6 o) L)=true∧q24 s (dnT (y6 o) (v.tkR 2000))=true then K (.k1 ((v.X7 2000).ren (dn (y6 o)) (rk (y6 o))) (dnL (y6 o) L) (dnT (y6 o) (v.tkR 2000)))else none)
      else if q32 s (y6 o) L=true∧q5B s (y6 o) (v.tkR 2000)=true then K (.k2 ((v.X7 2000).ren (dn (y6 o)) (rk (y6 o))) (s.ret false (J3 o (y5 X.gl s)) (y6 o) v L))else none
   |m=>q3y X call (m==1) o (y5 X.gl s) s fun v L=>if q32 s (y6 o) L=true∧q5B s (y6 o) (v.tkR 2000)=true then K (.k2 ((v.X7 2000).ren (dn (y6 o)) (rk (y6 o))) (s.z8Y (m==1) (J3 o (y5 X.gl s)) (y6 o) v L))else none))
 else if y29 m o (y5 X.gl s)=true then ekT X m (y6 o) o (y5 X.gl s) s fun v s1=>K (.k2 v s1)
 else if y3a o (y5 X.gl s)=true then z5j X o (y5 X.gl s) (fun v=>K (.k0 v)) (ekI X m (y6 o) o (y5 X.gl s) s00 fun v lo tn=>if q6q lo tn=true then K (.k0 v)else none)
 else if(y4O o (y5 X.gl s)&& !(Nat.beq m 4||Nat.beq m 20))=true then ekI X m (y6 o) o (y5 X.gl s) s00 fun v lo tn=>if q6q lo tn=true then K (.k0 v)else none
 else ekI X m (y6 o) o (y5 X.gl s) s fun v lo tn=>if X9 s lo=true∧q24 s tn=true then K (.k1 v lo tn)else none
def q37 {R:Type} (X:Cx) (call:J2 R) (ext:q0r) (ops:Array Oper) (cand:List Nat) (tbl:List (Nat × Nat)):List Oper→S→S→(List (Nat × Nat)→List Nat→S→Option R)→Option R
 | [],_,s,K=>K [] [] s
 |o::rest,base,s,K=>
  match o.guard with
  |none=>ekK X call ext (o8 cand tbl o (y5 X.gl s) s) o base s fun r=>match r with
    | .k0 v=>q37 X call ext ops cand tbl rest base (s.set o.dst v) fun ml ts s2=>K ((y6 o,o8 cand tbl o (y5 X.gl s) s)::ml) (0::ts) s2
    | .k1 v lo tn=>q37 X call ext ops cand tbl rest base ((s.add lo tn).set o.dst v) fun ml ts s2=>K ((y6 o,o8 cand tbl o (y5 X.gl s) s)::ml) (1::ts) s2
    | .k2 v s1=>q37 X call ext ops cand tbl rest ((s1.wA s.A).set o.dst v) ((s1.wA s.A).set o.dst v) fun ml ts s2=>K ((y6 o,o8 cand tbl o (y5 X.gl s) s)::ml) (2::ts) s2
  |some (j,want)=>z6G ops s j want (fun s=>ekK X call ext (o8 cand tbl o (y5 X.gl s) s) o base s fun r=>match r with
    | .k0 v=>q37 X call ext ops cand tbl rest base (s.set o.dst v) fun ml ts s2=>K ((y6 o,o8 cand tbl o (y5 X.gl s) s)::ml) (0::ts) s2
    | .k1 v lo tn=>q37 X call ext ops cand tbl rest base ((s.add lo tn).set o.dst v) fun ml ts s2=>K ((y6 o,o8 cand tbl o (y5 X.gl s) s)::ml) (1::ts) s2
    | .k2 v s1=>q37 X call ext ops cand tbl rest ((s1.wA s.A).set o.dst v) ((s1.wA s.A).set o.dst v) fun ml ts s2=>K ((y6 o,o8 cand tbl o (y5 X.gl s) s)::ml) (2::ts) s2)
    (fun s=>q37 X call ext ops cand tbl rest base (s.set o.dst (.tup [])) fun ml ts s2=>K ml (0::ts) s2)
section
variable {X:Cx} {R:Type} {call:J2 R} {ext:q0r} (hc:q1M X call) (he:q2h X ext)
include hc he
theorem z1p {ops:Array Oper} {cand:List Nat} {tbl:List (Nat × Nat)} {r:R}:∀(l:List Oper) (s:S) {K:List (Nat × Nat)→S→Option R},q77 X call ext ops cand tbl l s K=some r→
  ∃ml s2,K ml s2=some r∧s2.A=s.A∧∀A',leA s.A A'→∀md:List (Nat × Nat),(∀p∈ml,r7 md p.1=p.2)→∀Φ:S→Prop,Φ (s2.wA A')→vc X md ops Φ l (s.wA A')
 | [],s,K,h=>⟨_,_,h,rfl,fun A' hA md hm Φ hΦ=>hΦ⟩
 |o::rest,s,K,h=>by
  have go:(q9y X call ext (o8 cand tbl o (y5 X.gl s) s) o s fun v s1=>q77 X call ext ops cand tbl rest ((s1.wA s.A).set o.dst v) fun ml s2=>K ((y6 o,o8 cand tbl o (y5 X.gl s) s)::ml) s2)=some r→
    ∃ml s2,K ml s2=some r∧s2.A=s.A∧∀A',leA s.A A'→∀md:List (Nat × Nat),(∀p∈ml,r7 md p.1=p.2)→∀Φ:S→Prop,Φ (s2.wA A')→sop X md (y6 o) o (s.wA A') fun v s'=>vc X md ops Φ rest (s'.set o.dst v):=by
   intro h
   obtain⟨v,s1,h1,h2⟩:=y07 hc he h
   obtain⟨ml,s2,h3,h4,h5⟩:=z1p rest _ h1
   refine⟨_,s2,h3,by rw[h4,Y5];rfl,fun A' hA md hm Φ hΦ=>h2 A' hA md (hm (y6 o,_) (List.mem_cons_self ..)) _ ?_⟩
   have:=h5 A' (by rw[Y5];exact hA) md (fun p hp=>hm p (List.mem_cons_of_mem _ hp)) Φ hΦ
   rw[←q1V]at this
   exact this
  simp only[q77]at h
  simp only[vc]
  cases hg:o.guard with
  |none=>
   rw[hg]at h
   exact go h
  |some jw=>
   obtain⟨j,want⟩:=jw
   rw[hg]at h
   dsimp only at h ⊢
   simp only[z9z]
   rcases z3r h with⟨h1,h2⟩|⟨h1,h2⟩
   ·obtain⟨ml,s2,h3,h4,h5⟩:=go h1
    exact⟨ml,s2,h3,h4,fun A' hA md hm Φ hΦ=>h2 _ _ (h5 A' hA md hm Φ hΦ)⟩
   ·obtain⟨ml,s2,h3,h4,h5⟩:=z1p rest _ h1
    refine⟨ml,s2,h3,by rw[h4,Y5],fun A' hA md hm Φ hΦ=>h2 _ _ ?_⟩
    rw[q1V]
    exact h5 A' (by rw[Y5];exact hA) md hm Φ hΦ
theorem y09 {m:Nat} {o:Oper} {base s:S} (hb:∀k o,base.obj k=some o→s.obj k=some o) (hAb:base.A=s.A) {Kr:RD→Option R} {r:R} (h:ekK X call ext m o base s Kr=some r):
  ∃rd,Kr rd=some r∧(∀v lo tn,rd= .k1 v lo tn→X9 s lo=true)∧∀A',leA s.A A'→∀md:List (Nat × Nat),r7 md (y6 o)=m→∀(K0:V→Prop) (K1:V→List (Key × O)→List (Nat × Option Nat)→Prop) (K2:V→S→Prop),RD.post s A' K0 K1 K2 rd→kop X md (some rd.kind) (base.wA A') (s.wA A') o K0 K1 K2:=by
 have hAb':∀A',leA s.A A'→leA base.A A':=fun A' hA=>by rw[hAb];exact hA
 unfold ekK at h
 split at h
 ·split at h
  ·rename_i x e0
   split at h
   ·refine⟨_,h,fun _ _ _ e=>(by cases e),fun A' hA md hm K0 K1 K2 hK=>?_⟩
    simp only[kop,RD.kind]
    rw[Y3]
    exact .inl (z6S he e0 ⟨rfl,rfl,hK⟩)
   ·cases h
  ·split at h
   ·obtain⟨v,h1,h2⟩:=z4q hc h
    refine⟨_,h1,fun v' lo' tn' e=>(by cases e;rfl),fun A' hA md hm K0 K1 K2 hK=>?_⟩
    simp only[kop,RD.kind]
    rw[Y3]
    exact h2 A' hA md _ _ _ (hK trivial trivial rfl)
   split at h
   ·obtain⟨v,L,h1,h2⟩:=q78 (dst:=y6 o) (s:=s00) (base:=s00) hc (.inl rfl) h
    simp only[Option.ite_none_right_eq_some]at h1
    obtain⟨h3,h1⟩:=h1
    simp only[q6q,Bool.and_eq_true,List.isEmpty_iff]at h3
    refine⟨_,h1,fun _ _ _ e=>(by cases e),fun A' hA md hm K0 K1 K2 hK=>?_⟩
    simp only[kop,RD.kind]
    rw[Y3]
    have:=(h2 s00.A (fun _ _ h=>h) md fun v lo tn=>lo=[]∧tn=[]∧K0 v).1 (by rw[h3.1];rfl) ⟨by rw[h3.1];rfl,by rw[h3.2];rfl,hK⟩
    exact .inl this
   split at h
   ·obtain⟨v,L,h1,h2⟩:∃v L,(if q2o L=true then(if X9 s (dnL (y6 o) L)=true∧q24 s (dnT (y6 o) (v.tkR 2000))=true then Kr (.k1 ((v.X7 2000).ren (dn (y6 o)) (rk (y6 o))) (dnL (y6 o) L) (dnT (y6 o) (v.tkR 2000)))else none)
      else if q32 s (y6 o) L=true∧q5B s (y6 o) (v.tkR 2000)=true then Kr (.k2 ((v.X7 2000).ren (dn (y6 o)) (rk (y6 o))) (s.ret false (J3 o (y5 X.gl s)) (y6 o) v L))else none)=some r∧∀A',leA (q7C base s (J3 o (y5 X.gl s))).A A'→∀(md:List (Nat × Nat)) (K:V→List (Key × O)→List (Nat × Option Nat)→Prop),(q2o L=true→K ((v.X7 2000).ren (dn (y6 o)) (rk (y6 o))) (dnL (y6 o) L) (dnT (y6 o) (v.tkR 2000))→iop X md (base.wA A') (y6 o) o (y5 X.gl s) (s.wA A') K)∧
   (r7 md (y6 o)=0→(∀k o',(q7C base s (J3 o (y5 X.gl s))).obj k=some o'→s.obj k=some o')→leA s.A A'→q32 s (y6 o) L=true→q5B s (y6 o) (v.tkR 2000)=true→∀K2:V→S→Prop,K2 ((v.X7 2000).ren (dn (y6 o)) (rk (y6 o))) ((s.ret false (J3 o (y5 X.gl s)) (y6 o) v L).wA A')→top X md (y6 o) o (y5 X.gl s) (s.wA A') K2):=
     q78 hc (q9O base s _) h
    split at h1
    ·rename_i hl
     simp only[Option.ite_none_right_eq_some]at h1
     obtain⟨h3,h1⟩:=h1
     refine⟨_,h1,fun v' lo' tn' e=>(by cases e;exact h3.1),fun A' hA md hm K0 K1 K2 hK=>?_⟩
     simp only[kop,RD.kind]
     rw[Y3]
     exact(h2 A' (by rw[z1H];exact hAb' A' hA) md K1).1 hl (hK (q3w h3.1) (q3v h3.2) h3.1)
    ·simp only[Option.ite_none_right_eq_some]at h1
     obtain⟨h3,h1⟩:=h1
     refine⟨_,h1,fun _ _ _ e=>(by cases e),fun A' hA md hm K0 K1 K2 hK=>?_⟩
     simp only[kop,RD.kind]
     rw[Y3]
     exact(h2 A' (by rw[z1H];exact hAb' A' hA) md (fun _ _ _=>True)).2 hm (z5D hb) hA h3.1 h3.2 K2 hK
   ·obtain⟨v,L,h1,hq,h2⟩:=z2H (dst:=y6 o) hc h
    rw[hq]at h1
    simp only[Option.ite_none_right_eq_some]at h1
    obtain⟨h3,h1⟩:=h1
    refine⟨_,h1,fun _ _ _ e=>(by cases e),fun A' hA md hm K0 K1 K2 hK=>?_⟩
    simp only[kop,RD.kind]
    rw[Y3]
    exact h2 h3.1 h3.2 A' hA md (by rw[hm]) K2 hK
 ·split at h
  ·obtain⟨v,s1,h1,h2⟩:=z6Z h
   refine⟨_,h1,fun _ _ _ e=>(by cases e),fun A' hA md hm K0 K1 K2 hK=>?_⟩
   simp only[kop,RD.kind]
   rw[Y3]
   exact h2 A' hA md hm K2 hK
  ·have pure0:(ekI X m (y6 o) o (y5 X.gl s) s00 fun v lo tn=>if q6q lo tn=true then Kr (.k0 v)else none)=some r→
     ∃rd,Kr rd=some r∧(∀v lo tn,rd= .k1 v lo tn→X9 s lo=true)∧∀A',leA s.A A'→∀md:List (Nat × Nat),r7 md (y6 o)=m→∀(K0:V→Prop) (K1:V→List (Key × O)→List (Nat × Option Nat)→Prop) (K2:V→S→Prop),RD.post s A' K0 K1 K2 rd→kop X md (some rd.kind) (base.wA A') (s.wA A') o K0 K1 K2:=by
    intro h
    obtain⟨v,lo,tn,h1,h2⟩:=z2F h
    simp only[Option.ite_none_right_eq_some]at h1
    obtain⟨h3,h1⟩:=h1
    refine⟨_,h1,fun _ _ _ e=>(by cases e),fun A' hA md hm K0 K1 K2 hK=>?_⟩
    simp only[kop,RD.kind]
    rw[Y3]
    simp only[q6q,Bool.and_eq_true,List.isEmpty_iff]at h3
    exact .inl (h2 s00.A (fun _ _ h=>h) md s00 hm _ ⟨h3.1,h3.2,hK⟩)
   split at h
   ·rcases z63 h with⟨v,h1,h2⟩|h
    ·refine⟨_,h1,fun _ _ _ e=>(by cases e),fun A' hA md hm K0 K1 K2 hK=>?_⟩
     simp only[kop,RD.kind]
     rw[Y3]
     exact .inr (h2 _ hK)
    ·exact pure0 h
   split at h
   ·exact pure0 h
   ·obtain⟨v,lo,tn,h1,h2⟩:=z2F h
    simp only[Option.ite_none_right_eq_some]at h1
    obtain⟨h3,h1⟩:=h1
    refine⟨_,h1,fun v' lo' tn' e=>(by cases e;exact h3.1),fun A' hA md hm K0 K1 K2 hK=>?_⟩
    simp only[kop,RD.kind]
    rw[Y3]
    exact h2 A' hA md _ hm _ (hK (q3w h3.1) (q3v h3.2) h3.1)
theorem q7p {ops:Array Oper} {cand:List Nat} {tbl:List (Nat × Nat)} {r:R}:∀(l:List Oper) (base s:S) {K:List (Nat × Nat)→List Nat→S→Option R},base.A=s.A→(∀k o,base.obj k=some o→s.obj k=some o)→q37 X call ext ops cand tbl l base s K=some r→
  ∃ml ts s2,K ml ts s2=some r∧s2.A=s.A∧∀A',leA s.A A'→∀md:List (Nat × Nat),(∀p∈ml,r7 md p.1=p.2)→∀Φ:S→Prop,Φ (s2.wA A')→vd X md ops Φ l ts (base.wA A') (s.wA A')
 | [],base,s,K,hAb,hb,h=>⟨_,_,_,h,rfl,fun A' hA md hm Φ hΦ=>hΦ⟩
 |o::rest,base,s,K,hAb,hb,h=>by
  have go:(ekK X call ext (o8 cand tbl o (y5 X.gl s) s) o base s fun r=>match r with
    | .k0 v=>q37 X call ext ops cand tbl rest base (s.set o.dst v) fun ml ts s2=>K ((y6 o,o8 cand tbl o (y5 X.gl s) s)::ml) (0::ts) s2
    | .k1 v lo tn=>q37 X call ext ops cand tbl rest base ((s.add lo tn).set o.dst v) fun ml ts s2=>K ((y6 o,o8 cand tbl o (y5 X.gl s) s)::ml) (1::ts) s2
    | .k2 v s1=>q37 X call ext ops cand tbl rest ((s1.wA s.A).set o.dst v) ((s1.wA s.A).set o.dst v) fun ml ts s2=>K ((y6 o,o8 cand tbl o (y5 X.gl s) s)::ml) (2::ts) s2)=some r→
    ∃ml ts s2,K ml ts s2=some r∧s2.A=s.A∧∀A',leA s.A A'→∀md:List (Nat × Nat),(∀p∈ml,r7 md p.1=p.2)→∀Φ:S→Prop,Φ (s2.wA A')→kop X md ts.head? (base.wA A') (s.wA A') o (fun v=>vd X md ops Φ rest ts.tail (base.wA A') ((s.wA A').set o.dst v))
    (fun v lo tn=>H7 (s.wA A') lo∧H6 (s.wA A') tn∧vd X md ops Φ rest ts.tail (base.wA A') (((s.wA A').add lo tn).set o.dst v))
    (fun v s'=>vd X md ops Φ rest ts.tail (s'.set o.dst v) (s'.set o.dst v)):=by
   intro h
   obtain⟨rd,h1,hf,h2⟩:=y09 hc he hb hAb h
   cases rd with
   |k0 v=>
    obtain⟨ml,ts,s2,h3,h4,h5⟩:=q7p rest base _ (by rw[Y5];exact hAb) (fun k o' hk=>by rw[q0D];exact hb k o' hk) h1
    refine⟨_,_,s2,h3,by rw[h4,Y5],fun A' hA md hm Φ hΦ=>h2 A' hA md (hm (y6 o,_) (List.mem_cons_self ..)) _ _ _ ?_⟩
    have:=h5 A' (by rw[Y5];exact hA) md (fun p hp=>hm p (List.mem_cons_of_mem _ hp)) Φ hΦ
    rw[←q1V]at this
    exact this
   |k1 v lo tn=>
    have hfr:=hf v lo tn rfl
    obtain⟨ml,ts,s2,h3,h4,h5⟩:=q7p rest base _ (by rw[Y5];exact hAb) (fun k o' hk=>by rw[q0D];exact q40 hfr (hb k o' hk)) h1
    refine⟨_,_,s2,h3,by rw[h4,Y5];rfl,fun A' hA md hm Φ hΦ=>h2 A' hA md (hm (y6 o,_) (List.mem_cons_self ..)) _ _ _ ?_⟩
    intro f1 f2 f3
    refine⟨f1,f2,?_⟩
    have:=h5 A' (by rw[Y5];exact hA) md (fun p hp=>hm p (List.mem_cons_of_mem _ hp)) Φ hΦ
    rw[←q1V]at this
    exact this
   |k2 v s1=>
    obtain⟨ml,ts,s2,h3,h4,h5⟩:=q7p rest ((s1.wA s.A).set o.dst v) ((s1.wA s.A).set o.dst v) rfl (fun _ _ h=>h) h1
    refine⟨_,_,s2,h3,by rw[h4,Y5];rfl,fun A' hA md hm Φ hΦ=>h2 A' hA md (hm (y6 o,_) (List.mem_cons_self ..)) _ _ _ ?_⟩
    have:=h5 A' (by rw[Y5];exact hA) md (fun p hp=>hm p (List.mem_cons_of_mem _ hp)) Φ hΦ
    rw[←q1V]at this
    exact this
  simp only[q37]at h
  simp only[vd]
  cases hg:o.guard with
  |none=>
   rw[hg]at h
   exact go h
  |some jw=>
   obtain⟨j,want⟩:=jw
   rw[hg]at h
   dsimp only at h ⊢
   simp only[z9z]
   rcases z3r h with⟨h1,h2⟩|⟨h1,h2⟩
   ·obtain⟨ml,ts,s2,h3,h4,h5⟩:=go h1
    exact⟨ml,ts,s2,h3,h4,fun A' hA md hm Φ hΦ=>h2 _ _ (h5 A' hA md hm Φ hΦ)⟩
   ·obtain⟨ml,ts,s2,h3,h4,h5⟩:=q7p rest base _ (by rw[Y5];exact hAb) (fun k o' hk=>by rw[q0D];exact hb k o' hk) h1
    refine⟨ml,_,s2,h3,by rw[h4,Y5],fun A' hA md hm Φ hΦ=>h2 _ _ ?_⟩
    rw[q1V]
    exact h5 A' (by rw[Y5];exact hA) md hm Φ hΦ
end
end Go.E
