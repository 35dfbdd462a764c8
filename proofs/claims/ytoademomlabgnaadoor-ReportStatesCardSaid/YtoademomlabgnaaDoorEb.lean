/-
 A framework for runs of Go code over abstract data: what it needs, and that it is sound, part 2.
 Conditions: none.
-/
import Derived.Test.YtoademomlabgnaaDoorEa
import Derived.Deep.AppendSrc
import Derived.Deep.Upon
import Derived.Great.FillDense
import Derived.Great.BuildSlice
set_option linter.all false
namespace Go.E
open Go
mutual
def Ty.y4e:Ty→Bool
 | .slice _ _=>false
 | .struct _ _ fs=>Ty.z1v fs
 | .opq _=>false
 |_=>true
def Ty.z1v:List Ty→Bool
 | []=>true
 |f::fs=>f.y4e&&Ty.z1v fs
end
mutual
def u9:Ty→C
 | .int _=>.int 0
 | .bool=>.bool false
 | .str=>.str []
 | .slice _ _=>.slice []
 | .arr n e=>.agg (List.replicate n (u9 e))
 | .struct _ _ fs=>.agg (q62 fs)
 |_=>.nil
def q62:List Ty→List C
 | []=>[]
 |f::fs=>u9 f::q62 fs
end
mutual
def o5:Ty→V
 | .slice eb e=>.emp eb e
 | .struct sz os fs=>if Ty.z1v fs then .d (.struct sz os fs) (.agg (q62 fs))else .agg (.struct sz os fs) (q3d fs)
 |τ=>.d τ (u9 τ)
def q3d:List Ty→List V
 | []=>[]
 |f::fs=>o5 f::q3d fs
end
def q2W:Ty→Value→Bool
 | .int k,.int k' n=>k==k'&&n==0
 | .bool,.bool b=> !b
 | .str,.string s=>s.data.toList.isEmpty
 | .slice _ _,.slice a n c=>a.isNone&&n==0&&c==0
 | .ptr,.pointer a=>a.isNone
 | .map,.map r=>r.isNone
 | .func,.nilFunc=>true
 | .iface,.nilIface=>true
 |_,_=>false
mutual
def Y2:Ty→List Value→Bool
 | .arr n e,vs=>vs.length==n*e.size&&vs.all (·.oneCell')&&(List.range n).all fun i=>Y2 e (chunk vs (i*e.size) e.size)
 | .struct sz os fs,vs=>vs.length==sz&&vs.all (·.oneCell')&&q04 fs os vs
 |τ,vs=>match vs with| [v]=>q2W τ v|_=>false
def q04:List Ty→List Nat→List Value→Bool
 | [],_,_=>true
 |f::fs,o::os,vs=>decide (o+f.size≤vs.length)&&Y2 f (chunk vs o f.size)&&q04 fs os vs
 |_::_,[],_=>false
end
def b9 (P:Program) (T:TypeId):Bool:=
 match(P.info? T).bind (·.zero)with
 |some z=>Y2 (ty P T) z.cells.toList&&x9 z==(ty P T).isAgg&&Y2 (tyF P 11 T) z.cells.toList
 |none=>false
theorem z4I (k:IntKind):k.min≤0∧0≤k.max:=by cases k <;> decide
theorem z5U {H:Hp} {τ:Ty} {v:Value} (h:q2W τ v=true):z7 H τ [v] (u9 τ):=by
 unfold q2W at h
 split at h <;> simp at h <;> simp only[z7,u9]
 ·obtain⟨rfl,rfl⟩:=h
  exact⟨0,rfl,rfl,(z4I _).1,(z4I _).2⟩
 ·subst h;exact⟨false,rfl,rfl⟩
 ·rename_i s
  refine⟨[],rfl,?_,by simp⟩
  have:s=⟨#[]⟩:=by
   apply ByteArray.ext;simpa using h
  rw[this]
 ·obtain⟨⟨h1,rfl⟩,rfl⟩:=h
  exact⟨_,0,0,[],rfl,rfl,rfl,Nat.le_refl _,by decide,by simp,.inl rfl⟩
 ·subst h;simp
 ·subst h;simp
 ·simp
 ·simp
mutual
theorem Z6 {H:Hp}:∀{τ:Ty} {vs:List Value},Y2 τ vs=true→z7 H τ vs (u9 τ)
 | .arr n e,vs,h=>by
  simp only[Y2,Bool.and_eq_true,beq_iff_eq,List.all_eq_true,List.mem_range]at h
  simp only[z7,u9]
  refine⟨_,rfl,by simp,h.1.1,h.1.2,fun i c hi=>?_⟩
  simp only[List.getElem?_replicate]at hi
  split at hi
  ·cases hi;exact Z6 (h.2 i ‹_›)
  ·cases hi
 | .struct sz os fs,vs,h=>by
  simp only[Y2,Bool.and_eq_true,beq_iff_eq,List.all_eq_true]at h
  simp only[z7,u9]
  exact⟨_,rfl,h.1.1,h.1.2,z0G h.2⟩
 | .int _,[v],h| .bool,[v],h| .str,[v],h| .slice _ _,[v],h| .ptr,[v],h| .map,[v],h| .func,[v],h| .iface,[v],h=>by
  simp only[Y2]at h
  exact z5U h
 | .opq _,[v],h=>by simp[Y2,q2W]at h
 | .int _,[],h| .bool,[],h| .str,[],h| .slice _ _,[],h| .ptr,[],h| .map,[],h| .func,[],h| .iface,[],h| .opq _,[],h=>by simp[Y2]at h
 | .int _,_::_::_,h| .bool,_::_::_,h| .str,_::_::_,h| .slice _ _,_::_::_,h| .ptr,_::_::_,h| .map,_::_::_,h| .func,_::_::_,h| .iface,_::_::_,h| .opq _,_::_::_,h=>by simp[Y2]at h
theorem z0G {H:Hp}:∀{fs:List Ty} {os:List Nat} {vs:List Value},q04 fs os vs=true→s8 H fs os vs (q62 fs)
 | [],_,_,_=>by simp[s8,q62]
 |f::fs,o::os,vs,h=>by
  simp only[q04,Bool.and_eq_true,decide_eq_true_eq]at h
  simp only[s8,q62]
  exact⟨_,_,rfl,h.1.1,Z6 h.1.2,z0G h.2⟩
 |_::_,[],_,h=>by simp[q04]at h
end
theorem q2V:∀(τ:Ty),(o5 τ).ty=τ
 | .struct sz os fs=>by simp only[o5];split <;> simp[V.ty]
 | .slice _ _=>by simp[o5,V.ty]
 | .int _| .bool| .str| .ptr| .map| .func| .iface| .opq _| .arr _ _=>by simp[o5,V.ty]
theorem q8C:∀(fs:List Ty),(q3d fs).length=fs.length
 | []=>rfl
 |f::fs=>by simp[q3d,q8C fs]
theorem z0H:∀{fs:List Ty} {os:List Nat} {vs:List Value} {i:Nat} {f:Ty},q04 fs os vs=true→fs[i]? =some f→∃o,os[i]? =some o∧o+f.size≤vs.length∧Y2 f (chunk vs o f.size)=true
 | [],_,_,_,_,_,h=>by simp at h
 |f::fs,o::os,vs,0,g,h,hg=>by
  simp only[q04,Bool.and_eq_true,decide_eq_true_eq]at h
  simp at hg;subst hg
  exact⟨o,rfl,h.1.1,h.1.2⟩
 |f::fs,o::os,vs,i+1,g,h,hg=>by
  simp only[q04,Bool.and_eq_true,decide_eq_true_eq]at h
  obtain⟨o',a,b,c⟩:=z0H h.2 (show fs[i]? =some g by simpa using hg)
  exact⟨o',by simpa using a,b,c⟩
 |_::_,[],_,_,_,h,_=>by simp[q04]at h
theorem q4h (τ:Ty):(o5 τ).plain=true:=by
 cases τ <;> simp only[o5] <;> (try split) <;> rfl
mutual
theorem z1T:∀(τ:Ty),(o5 τ).u0=true
 | .struct sz os fs=>by simp only[o5];split <;> simp[V.u0,z0F fs]
 | .slice _ _=>by simp[o5,V.u0]
 | .int _| .bool| .str| .ptr| .map| .func| .iface| .opq _| .arr _ _=>by simp[o5,V.u0]
theorem z0F:∀(fs:List Ty),V.c6 (q3d fs)=true
 | []=>rfl
 |f::fs=>by simp[q3d,V.c6,z1T f,z0F fs]
end
section
variable {Γ:G} {hm:Option Key}
mutual
theorem q6g:∀(τ:Ty) {p:List Nat} {vs:List Value},Y2 τ vs=true→q8 Γ hm p (o5 τ) vs
 | .struct sz os fs,p,vs,h=>by
  simp only[o5];split
  ·simp only[q8];exact Z6 (τ:=.struct sz os fs) h
  ·simp only[Y2,Bool.and_eq_true,beq_iff_eq,List.all_eq_true]at h
   simp only[q8]
   exact⟨h.1.1,h.1.2,by simp[Ty.kids,q8C],rfl,z1S fs sz os fs 0 (fun i f hf=>by simpa using hf) h.2⟩
 | .slice eb e,p,vs,h=>by
  match vs,h with
  | [v],h=>
   simp only[Y2]at h
   cases v <;> simp[q2W]at h
   obtain⟨⟨rfl,rfl⟩,rfl⟩:=h
   simp only[o5,q8]
   exact⟨none,rfl⟩
  | [],h=>simp[Y2]at h
  |_::_::_,h=>simp[Y2]at h
 | .int k,p,vs,h=>by simp only[o5,q8];exact Z6 h
 | .bool,p,vs,h=>by simp only[o5,q8];exact Z6 h
 | .str,p,vs,h=>by simp only[o5,q8];exact Z6 h
 | .ptr,p,vs,h=>by simp only[o5,q8];exact Z6 h
 | .map,p,vs,h=>by simp only[o5,q8];exact Z6 h
 | .func,p,vs,h=>by simp only[o5,q8];exact Z6 h
 | .iface,p,vs,h=>by simp only[o5,q8];exact Z6 h
 | .opq s,p,vs,h=>by simp only[o5,q8];exact Z6 h
 | .arr n e,p,vs,h=>by simp only[o5,q8];exact Z6 h
theorem z1S:∀(gs:List Ty) (sz:Nat) (os:List Nat) (fs:List Ty) (i:Nat) {p:List Nat} {vs:List Value},(∀(j:Nat) (f:Ty),gs[j]? =some f→fs[i+j]? =some f)→q04 fs os vs=true→
  y4 Γ hm p i (.struct sz os fs) (q3d gs) vs
 | [],_,_,_,_,_,_,_,_=>by simp[q3d,y4]
 |f::gs,sz,os,fs,i,p,vs,hg,h=>by
  have hf:=hg 0 f rfl
  obtain⟨o,a,b,c⟩:=z0H h hf
  simp only[q3d,y4,q2V]
  refine⟨⟨o,f,by simp[Ty.child,show os[i]? =some o by simpa using a,show fs[i]? =some f by simpa using hf],rfl,b,q6g f c⟩,z1S gs sz os fs (i+1) (fun j g hj=>?_) h⟩
  rw[show i+1+j=i+(j+1) by omega]
  exact hg (j+1) g (by simpa using hj)
end
end
theorem z6a {P:Program} {T:TypeId} (h:b9 P T=true):∃z,(∀w,(zeroValue T).run P w= .ok z w)∧Y2 (ty P T) z.cells.toList=true∧x9 z=(ty P T).isAgg:=by
 unfold b9 at h
 cases hi:P.info? T with
 |none=>simp[hi]at h
 |some i=>
  cases hz:i.zero with
  |none=>simp[hi,hz]at h
  |some z=>
   simp[hi,hz]at h
   exact⟨z,fun w=>by simp[zeroValue,typeInfo,hi,hz],h.1.1,h.1.2⟩
mutual
def view:V→V
 | .ts eb e cs=>.d (.slice eb e) (.slice cs)
 | .agg τ vs=>.agg τ (views vs)
 |x=>x
def views:List V→List V
 | []=>[]
 |x::xs=>view x::views xs
end
theorem q84:∀xs:List V,(views xs).length=xs.length
 | []=>rfl
 |x::xs=>by simp[views,q84 xs]
theorem z8B (x:V):(view x).ty=x.ty:=by cases x <;> simp[view,V.ty]
theorem z9q (x:V):(view x).plain=x.plain:=by cases x <;> simp[view,V.plain]
section
variable {Γ:G} {hm:Option Key}
mutual
theorem z5W:∀(x:V) {p p':List Nat} {vs:List Value},q8 Γ hm p x vs→q8 Γ none p' (view x) vs
 | .ts eb e cs,_,_,_,h=>by
  simp only[q8,view]at h ⊢
  obtain⟨a,n,cap,k,_,rfl,h2,_⟩:=h
  exact h2
 | .agg τ xs,_,_,_,h=>by
  simp only[q8,view]at h ⊢
  exact⟨h.1,h.2.1,by rw[q84];exact h.2.2.1,h.2.2.2.1,z4k xs h.2.2.2.2⟩
 | .d _ _,_,_,_,h| .sl _ _ _ _,_,_,_,h| .emp _ _,_,_,_,h| .nilc,_,_,_,h| .ptr _ _ _,_,_,_,h| .cptr _ _,_,_,_,h
 | .sr _ _ _ _ _ _ _,_,_,_,h| .mp _,_,_,_,h| .fn _ _,_,_,_,h| .top _,_,_,_,h=>by simpa only[q8,view]using h
 | .any,_,_,_,h=>by simp only[q8,view]
 | .tup _,_,_,_,h=>by simp only[q8]at h
theorem z4k:∀(xs:List V) {p p':List Nat} {i:Nat} {τ:Ty} {vs:List Value},y4 Γ hm p i τ xs vs→y4 Γ none p' i τ (views xs) vs
 | [],_,_,_,_,_,_=>by simp only[views,y4]
 |x::xs,_,_,_,_,_,h=>by
  simp only[y4,views,z8B]at h ⊢
  obtain⟨⟨o,f,h1,h2,h3,h4⟩,h5⟩:=h
  exact⟨⟨o,f,h1,h2,h3,z5W x h4⟩,z4k xs h5⟩
end
end
mutual
def s7:V→Option C
 | .d _ c=>some c
 | .emp _ _=>some (.slice [])
 | .sl _ _ cs _=>some (.slice cs)
 | .ts _ _ cs=>some (.slice cs)
 | .agg _ vs=>(Q8 vs).map .agg
 |_=>none
def Q8:List V→Option (List C)
 | []=>some []
 |x::xs=>match s7 x,Q8 xs with
  |some c,some cs=>some (c::cs)
  |_,_=>none
end
theorem q6Z:∀{xs:List V} {cs:List C},Q8 xs=some cs→cs.length=xs.length∧∀(i:Nat) (x:V) (c:C),xs[i]? =some x→cs[i]? =some c→s7 x=some c
 | [],cs,h=>by simp[Q8]at h;subst h;simp
 |x::xs,cs,h=>by
  simp only[Q8]at h
  cases h1:s7 x with
  |none=>simp[h1]at h
  |some c=>
   cases h2:Q8 xs with
   |none=>simp[h1,h2]at h
   |some cs'=>
    simp[h1,h2]at h
    subst h
    obtain⟨a,b⟩:=q6Z h2
    refine⟨by simp[a],fun i y d hy hd=>?_⟩
    cases i with
    |zero=>simp at hy hd;subst hy;subst hd;exact h1
    |succ i=>exact b i y d (by simpa using hy) (by simpa using hd)
section
variable {Γ:G} {hm:Option Key}
mutual
theorem q0P:∀(x:V) {p:List Nat} {vs:List Value} {c:C},q8 Γ hm p x vs→s7 x=some c→z7 Γ.H x.ty vs c
 | .d τ c,_,_,_,h,hc=>by simp[s7]at hc;subst hc;simpa only[q8,V.ty]using h
 | .emp eb e,_,_,_,h,hc=>by
  simp[s7]at hc;subst hc
  simp only[q8]at h
  obtain⟨a,rfl⟩:=h
  exact v8 rfl (Nat.le_refl _) (Nat.zero_le _) (by rw[Nat.zero_mul];exact Nat.zero_le _) (.inl rfl)
 | .sl eb e cs t,_,_,_,h,hc=>by
  simp[s7]at hc;subst hc
  simp only[q8]at h
  obtain⟨a,n,cap,rfl,h2,_⟩:=h
  exact h2
 | .ts eb e cs,_,_,_,h,hc=>by
  simp[s7]at hc;subst hc
  simp only[q8]at h
  obtain⟨a,n,cap,k,_,rfl,h2,_⟩:=h
  exact h2
 | .agg τ xs,_,vs,_,h,hc=>by
  simp only[s7]at hc
  cases h1:Q8 xs with
  |none=>simp[h1]at hc
  |some cs=>
   simp[h1]at hc;subst hc
   simp only[q8]at h
   obtain⟨a1,a2,a3,a4,a5⟩:=h
   obtain⟨b1,b2⟩:=q6Z h1
   have kid:=z09 xs a5 h1
   simp only[V.ty]
   cases τ <;> simp[Ty.isAgg]at a4
   case arr n e=>
    simp only[z7]
    refine⟨cs,rfl,by rw[b1,a3];rfl,by simpa[Ty.size]using a1,a2,fun i c hi=>?_⟩
    obtain⟨o,f,k1,_,k3⟩:=kid i c hi
    simp only[Nat.zero_add,Ty.child]at k1
    split at k1
    ·simp at k1;obtain⟨rfl,rfl⟩:=k1;exact k3
    ·cases k1
   case struct sz os fs=>
    simp only[z7]
    refine⟨cs,rfl,by simpa[Ty.size]using a1,a2,s8.q4O (by rw[b1,a3];rfl) fun i f c hf hi=>?_⟩
    obtain⟨o,f',k1,k2,k3⟩:=kid i c hi
    simp only[Nat.zero_add,Ty.child]at k1
    cases ho:os[i]? with
    |none=>simp[ho]at k1
    |some o'=>simp[ho,hf]at k1;obtain⟨rfl,rfl⟩:=k1;exact⟨o',rfl,k2,k3⟩
 | .nilc,_,_,_,_,hc| .ptr _ _ _,_,_,_,_,hc| .cptr _ _,_,_,_,_,hc
 | .sr _ _ _ _ _ _ _,_,_,_,_,hc| .mp _,_,_,_,_,hc| .fn _ _,_,_,_,_,hc| .top _,_,_,_,_,hc| .any,_,_,_,_,hc| .tup _,_,_,_,_,hc=>by simp[s7]at hc
theorem z09:∀(xs:List V) {p:List Nat} {i0:Nat} {τ:Ty} {vs:List Value} {cs:List C},y4 Γ hm p i0 τ xs vs→Q8 xs=some cs→
  ∀(i:Nat) (c:C),cs[i]? =some c→∃o f,τ.child (i0+i)=some (o,f)∧o+f.size≤vs.length∧z7 Γ.H f (chunk vs o f.size) c
 | [],_,_,_,_,_,_,h,i,c,hc=>by simp[Q8]at h;subst h;simp at hc
 |x::xs,_,i0,τ,vs,cs,h,hcs,i,c,hc=>by
  simp only[y4]at h
  simp only[Q8]at hcs
  cases h1:s7 x with
  |none=>simp[h1]at hcs
  |some d=>
   cases h2:Q8 xs with
   |none=>simp[h1,h2]at hcs
   |some ds=>
    simp[h1,h2]at hcs
    subst hcs
    cases i with
    |zero=>
     simp at hc;subst hc
     obtain⟨⟨o,f,k1,k2,k3,k4⟩,_⟩:=h
     have:=q0P x k4 h1
     rw[k2]at this
     exact⟨o,f,k1,k3,this⟩
    |succ i=>
     have:=z09 xs h.2 h2 i c (by simpa using hc)
     rw[show i0+(i+1)=i0+1+i by omega]
     exact this
end
end
end Go.E
namespace Go.E
open Go
theorem w8 (vs:List Value) (o n i:Nat):(chunk vs o n)[i]? =if i<n then vs[o+i]? else none:=by
 simp[chunk,List.getElem?_take,List.getElem?_drop]
def w7 (vs:List Value) (o:Nat) (ws:List Value):List Value:=vs.take o++ws++vs.drop (o+ws.length)
theorem b7 {vs ws:List Value} {o:Nat} (h:o+ws.length≤vs.length):(w7 vs o ws).length=vs.length:=by
 simp[w7];omega
theorem Q3 {vs ws:List Value} {o:Nat} (h:o+ws.length≤vs.length) (i:Nat):
  (w7 vs o ws)[i]? =if o≤i∧i<o+ws.length then ws[i-o]? else vs[i]?:=by
 unfold w7
 by_cases h1:i<o
 ·rw[if_neg (by omega),List.append_assoc,List.getElem?_append_left (by simp;omega),List.getElem?_take,if_pos h1]
 ·by_cases h2:i<o+ws.length
  ·rw[if_pos (by omega),List.append_assoc,List.getElem?_append_right (by simp;omega),List.getElem?_append_left (by simp;omega)]
   simp only[List.length_take]
   congr 1;omega
  ·rw[if_neg (by omega),List.getElem?_append_right (by simp;omega),List.getElem?_drop]
   simp only[List.length_append,List.length_take]
   congr 1;omega
theorem q2B {vs ws:List Value} {o n:Nat} (h:o+ws.length≤vs.length) (hn:ws.length=n):chunk (w7 vs o ws) o n=ws:=by
 apply List.ext_getElem?
 intro i
 rw[w8,Q3 h]
 split
 ·rw[if_pos (by omega)];congr 1;omega
 ·rw[List.getElem?_eq_none (by omega)]
theorem H3 {vs ws:List Value} {o o' n:Nat} (h:o+ws.length≤vs.length) (hd:o'+n≤o∨o+ws.length≤o'):chunk (w7 vs o ws) o' n=chunk vs o' n:=by
 apply List.ext_getElem?
 intro i
 rw[w8,w8,Q3 h]
 split
 ·rw[if_neg (by omega)]
 ·rfl
theorem z3e {vs ws:List Value} {o o1 n1 o2:Nat} (h:o1+n1≤vs.length) (hw:o2+ws.length≤n1) (ho:o=o1+o2):chunk (w7 vs o ws) o1 n1=w7 (chunk vs o1 n1) o2 ws:=by
 subst ho
 apply List.ext_getElem?
 intro i
 have hl:(chunk vs o1 n1).length=n1:=u7 _ _ _ h
 rw[w8,Q3 (by omega),Q3 (by omega),w8]
 by_cases hi:i<n1
 ·rw[if_pos hi,if_pos hi]
  by_cases h2:o2≤i∧i<o2+ws.length
  ·rw[if_pos (by omega),if_pos h2];congr 1;omega
  ·rw[if_neg (by omega),if_neg h2]
 ·rw[if_neg hi,if_neg hi,if_neg (by omega)]
theorem U5.w7 {vs ws:List Value} {o:Nat} (h1:U5 vs) (h2:U5 ws):U5 (w7 vs o ws):=by
 intro v hv
 simp only[Go.E.w7,List.mem_append]at hv
 rcases hv with(hv|hv)|hv
 ·exact h1 v (List.mem_of_mem_take hv)
 ·exact h2 v hv
 ·exact h1 v (List.mem_of_mem_drop hv)
def q59 (o n:Nat):List Nat→List Ty→Bool
 |o'::os,f::fs=>decide (o'+f.size≤o∨o+n≤o')&&q59 o n os fs
 |_,_=>true
def q5H:List Nat→List Ty→Bool
 |o::os,f::fs=>q59 o f.size os fs&&q5H os fs
 |_,_=>true
mutual
def Ty.W4:Ty→Bool
 | .struct _ os fs=>q5H os fs&&Ty.z29 fs
 | .arr _ e=>e.W4
 |_=>true
def Ty.z29:List Ty→Bool
 | []=>true
 |f::fs=>f.W4&&Ty.z29 fs
end
theorem q9V:∀{os:List Nat} {fs:List Ty} {o n j o':Nat} {f:Ty},q59 o n os fs=true→os[j]? =some o'→fs[j]? =some f→o'+f.size≤o∨o+n≤o'
 | [],_,_,_,_,_,_,_,h,_=>by simp at h
 |_::_,[],_,_,_,_,_,_,_,h=>by simp at h
 |o1::os,f1::fs,o,n,0,o',f,h,h1,h2=>by
  simp only[q59,Bool.and_eq_true,decide_eq_true_eq]at h
  simp at h1 h2;subst h1;subst h2;exact h.1
 |o1::os,f1::fs,o,n,j+1,o',f,h,h1,h2=>by
  simp only[q59,Bool.and_eq_true]at h
  exact q9V h.2 (show os[j]? =some o' by simpa using h1) (show fs[j]? =some f by simpa using h2)
theorem q6X:∀{os:List Nat} {fs:List Ty} {i j o o':Nat} {f f':Ty},q5H os fs=true→i<j→os[i]? =some o→fs[i]? =some f→os[j]? =some o'→fs[j]? =some f'→o'+f'.size≤o∨o+f.size≤o'
 | [],_,_,_,_,_,_,_,_,_,h,_,_,_=>by simp at h
 |_::_,[],_,_,_,_,_,_,_,_,_,h,_,_=>by simp at h
 |o1::os,f1::fs,0,j+1,o,o',f,f',h,_,h1,h2,h3,h4=>by
  simp only[q5H,Bool.and_eq_true]at h
  simp at h1 h2;subst h1;subst h2
  exact q9V h.1 (show os[j]? =some o' by simpa using h3) (show fs[j]? =some f' by simpa using h4)
 |o1::os,f1::fs,i+1,j+1,o,o',f,f',h,hij,h1,h2,h3,h4=>by
  simp only[q5H,Bool.and_eq_true]at h
  exact q6X h.2 (show i<j by omega) (show os[i]? =some o by simpa using h1) (show fs[i]? =some f by simpa using h2) (show os[j]? =some o' by simpa using h3) (show fs[j]? =some f' by simpa using h4)
 |_::_,_::_,_,0,_,_,_,_,_,hij,_,_,_,_=>by omega
theorem z9e {os:List Nat} {fs:List Ty} {i j o o':Nat} {f f':Ty} (h:q5H os fs=true) (hij:i≠j) (h1:os[i]? =some o) (h2:fs[i]? =some f) (h3:os[j]? =some o') (h4:fs[j]? =some f'):
  o'+f'.size≤o∨o+f.size≤o':=by
 rcases Nat.lt_or_ge i j with h5|h5
 ·exact q6X h h5 h1 h2 h3 h4
 ·have:=q6X h (show j<i by omega) h3 h4 h1 h2
  omega
theorem z4W:∀{fs:List Ty} {i:Nat} {f:Ty},Ty.z29 fs=true→fs[i]? =some f→f.W4=true
 | [],_,_,_,h=>by simp at h
 |f1::fs,0,f,h,h1=>by simp only[Ty.z29,Bool.and_eq_true]at h;simp at h1;subst h1;exact h.1
 |f1::fs,i+1,f,h,h1=>by simp only[Ty.z29,Bool.and_eq_true]at h;exact z4W h.2 (show fs[i]? =some f by simpa using h1)
def Ty.q1w:Ty→List Ty
 | .struct _ _ fs=>fs
 | .arr n e=>List.replicate n e
 |_=>[]
def C.set:C→Nat→C→C
 | .agg cs,i,c=>.agg (cs.set i c)
 |c,_,_=>c
def Y3 (c:C):Nat→List Ty→List V
 |_,[]=>[]
 |j,f::fs=>.d f (c.get j)::Y3 c (j+1) fs
def V.set:V→Nat→V→V
 | .d τ c,i,.d _ c'=>.d τ (c.set i c')
 | .d τ c,i,y=>.agg τ ((Y3 c 0 τ.q1w).set i y)
 | .agg τ vs,i,y=>.agg τ (vs.set i y)
 |_,_,_=>.any
def V.setAt:V→List Nat→V→V
 |_,[],y=>y
 |x,i::q,y=>x.set i ((x.get i).setAt q y)
theorem Ty.z5r (τ:Ty):τ.q1w.length=τ.kids:=by cases τ <;> simp[Ty.q1w,Ty.kids]
theorem z7.child {H:Hp} {τ f:Ty} {vs:List Value} {c:C} {i:Nat} (h:z7 H τ vs c) (hf:τ.q1w[i]? =some f):∃o,τ.child i=some (o,f):=by
 cases τ <;> simp only[Ty.q1w,List.getElem?_nil,reduceCtorEq]at hf
 case arr n e=>
  rw[List.getElem?_replicate]at hf
  split at hf
  ·cases hf;rename_i hi;exact⟨_,by simp only[Ty.child];rw[if_pos hi]⟩
  ·cases hf
 case struct sz os fs=>
  simp only[z7]at h
  obtain⟨cs,rfl,_,_,h3⟩:=h
  obtain⟨o,c,a,_⟩:=h3.get hf
  exact⟨o,by simp[Ty.child,a,hf]⟩
theorem z8x {τ f f':Ty} {i j o o':Nat} (hd:τ.W4=true) (h1:τ.child i=some (o,f)) (h2:τ.child j=some (o',f')) (hij:i≠j):o'+f'.size≤o∨o+f.size≤o':=by
 cases τ <;> simp only[Ty.child,reduceCtorEq]at h1 h2
 case arr n e=>
  split at h1 <;> simp at h1
  split at h2 <;> simp at h2
  obtain⟨rfl,rfl⟩:=h1
  obtain⟨rfl,rfl⟩:=h2
  rcases Nat.lt_or_ge j i with hlt|hge
  ·left
   have:(j+1)*e.size≤i*e.size:=Nat.mul_le_mul_right _ (by omega)
   rw[Nat.add_mul]at this;omega
  ·right
   have:(i+1)*e.size≤j*e.size:=Nat.mul_le_mul_right _ (by omega)
   rw[Nat.add_mul]at this;omega
 case struct sz os fs=>
  simp only[Ty.W4,Bool.and_eq_true]at hd
  cases ho:os[i]? with
  |none=>simp[ho]at h1
  |some a=>
   cases hf:fs[i]? with
   |none=>simp[ho,hf]at h1
   |some g=>
    cases ho':os[j]? with
    |none=>simp[ho']at h2
    |some a'=>
     cases hf':fs[j]? with
     |none=>simp[ho',hf']at h2
     |some g'=>
      simp[ho,hf]at h1
      simp[ho',hf']at h2
      obtain⟨rfl,rfl⟩:=h1
      obtain⟨rfl,rfl⟩:=h2
      exact z9e hd.1 hij ho hf ho' hf'
section
variable {Γ:G} {hm:Option Key}
theorem z7.set {H:Hp} {τ f:Ty} {vs ws:List Value} {c c':C} {i o:Nat} (h:z7 H τ vs c) (hd:τ.W4=true) (hc:τ.child i=some (o,f)) (hr:z7 H f ws c'):
  z7 H τ (w7 vs o ws) (c.set i c'):=by
 have hwl:=hr.length
 have hb:=(h.get hc).2.1
 cases τ <;> simp only[Ty.child,reduceCtorEq]at hc
 case arr n e=>
  split at hc <;> simp at hc
  rename_i hi
  obtain⟨rfl,rfl⟩:=hc
  simp only[z7]at h ⊢
  obtain⟨cs,rfl,h1,h2,h3,h4⟩:=h
  refine⟨cs.set i c',rfl,by simpa using h1,by rw[b7 (by omega)];exact h2,h3.w7 hr.one,fun j cc hj=>?_⟩
  rw[List.getElem?_set]at hj
  split at hj
  ·rename_i hij
   subst hij
   split at hj
   ·cases hj
    rw[q2B (by omega) hwl];exact hr
   ·cases hj
  ·rename_i hij
   have hjl:j<n:=by rw[←h1];exact(List.getElem?_eq_some_iff.1 hj).1
   rw[H3 (by omega)]
   ·exact h4 j cc hj
   ·rcases Nat.lt_or_ge j i with hlt|hge
    ·left
     have:(j+1)*e.size≤i*e.size:=Nat.mul_le_mul_right _ (by omega)
     rw[Nat.add_mul]at this;omega
    ·right
     have:(i+1)*e.size≤j*e.size:=Nat.mul_le_mul_right _ (by omega)
     rw[Nat.add_mul]at this;omega
 case struct sz os fs=>
  simp only[z7]at h ⊢
  simp only[Ty.W4,Bool.and_eq_true]at hd
  obtain⟨cs,rfl,h1,h2,h3⟩:=h
  cases ho:os[i]? with
  |none=>simp[ho]at hc
  |some o'=>
   cases hf:fs[i]? with
   |none=>simp[ho,hf]at hc
   |some f'=>
    simp[ho,hf]at hc
    obtain⟨rfl,rfl⟩:=hc
    have hl:=h3.z8V
    refine⟨cs.set i c',rfl,by rw[b7 (by omega)];exact h1,h2.w7 hr.one,s8.q4O (by simpa using hl) fun j g cc hg hcc=>?_⟩
    rw[List.getElem?_set]at hcc
    obtain⟨oj,cj,a,b,d,r⟩:=h3.get hg
    refine⟨oj,a,by rw[b7 (by omega)];exact d,?_⟩
    split at hcc
    ·rename_i hij
     subst hij
     rw[hf]at hg;cases hg
     rw[ho]at a;cases a
     split at hcc
     ·cases hcc
      rw[q2B (by omega) hwl];exact hr
     ·cases hcc
    ·rename_i hij
     rw[b]at hcc;cases hcc
     rw[H3 (by omega)]
     ·exact r
     ·have:=z9e hd.1 (fun e=>hij e) ho hf a hg
      omega
theorem y4.q4O {p:List Nat} {τ:Ty}:∀{xs:List V} {i0:Nat} {vs:List Value},
  (∀(i:Nat) (x:V),xs[i]? =some x→∃o f,τ.child (i0+i)=some (o,f)∧x.ty=f∧o+f.size≤vs.length∧q8 Γ hm (p++[i0+i]) x (chunk vs o f.size))→y4 Γ hm p i0 τ xs vs
 | [],_,_,_=>by simp[y4]
 |x::xs,i0,vs,h=>by
  simp only[y4]
  refine⟨h 0 x rfl,y4.q4O fun i y hy=>?_⟩
  have:=h (i+1) y (by simpa using hy)
  rw[show i0+1+i=i0+(i+1) by omega];exact this
theorem q7A (c:C):∀(fs:List Ty) (j i:Nat),(Y3 c j fs)[i]? =(fs[i]?).map fun f=>.d f (c.get (j+i))
 | [],_,_=>by simp[Y3]
 |f::fs,j,0=>by simp[Y3]
 |f::fs,j,i+1=>by
  simp only[Y3,List.getElem?_cons_succ]
  rw[q7A c fs (j+1) i,show j+(i+1)=j+1+i by omega]
theorem q5i (c:C):∀(fs:List Ty) (j:Nat),(Y3 c j fs).length=fs.length
 | [],_=>rfl
 |f::fs,j=>by simp[Y3,q5i c fs]
theorem y0j {τ:Ty} {c:C} {p:List Nat} {vs:List Value} (h:z7 Γ.H τ vs c) (ha:τ.isAgg=true):q8 Γ hm p (.agg τ (Y3 c 0 τ.q1w)) vs:=by
 simp only[q8]
 refine⟨h.length,h.one,by rw[q5i,Ty.z5r],ha,y4.q4O fun i x hx=>?_⟩
 rw[q7A]at hx
 cases hf:τ.q1w[i]? with
 |none=>simp[hf]at hx
 |some f=>
  simp[hf]at hx
  subst hx
  obtain⟨o,ho⟩:=h.child hf
  obtain⟨_,h2,h3⟩:=h.get ho
  refine⟨o,f,by simpa using ho,rfl,h2,?_⟩
  simpa only[q8]using h3
theorem y1Z {τ f:Ty} {i o:Nat} (h:τ.child i=some (o,f)):τ.isAgg=true:=by
 cases τ <;> simp[Ty.child]at h <;> rfl
theorem z3n {p:List Nat} {τ:Ty} {xs:List V} {y:V} {vs ws:List Value} {i o:Nat} (h:q8 Γ hm p (.agg τ xs) vs) (hd:τ.W4=true) (hc:τ.child i=some (o,y.ty))
  (hr:q8 Γ hm (p++[i]) y ws) (hy:y.plain=true) (hb:o+y.ty.size≤vs.length):q8 Γ hm p (.agg τ (xs.set i y)) (w7 vs o ws):=by
 simp only[q8]at h ⊢
 obtain⟨h1,h2,h3,h4,h5⟩:=h
 have hwl:=hr.length hy
 refine⟨by rw[b7 (by omega)];exact h1,h2.w7 (hr.one hy),by simpa using h3,h4,y4.q4O fun j x hx=>?_⟩
 rw[List.getElem?_set]at hx
 split at hx
 ·rename_i hij
  subst hij
  split at hx
  ·cases hx
   refine⟨o,_,by simpa using hc,rfl,by rw[b7 (by omega)];exact hb,?_⟩
   rw[q2B (by omega) hwl];simpa using hr
  ·cases hx
 ·rename_i hij
  obtain⟨o',f',a,b,d,r⟩:=h5.get hx
  refine⟨o',f',a,b,by rw[b7 (by omega)];exact d,?_⟩
  rw[H3 (by omega)]
  ·exact r
  ·rw[Nat.zero_add]at a
   have:=z8x hd hc a hij
   omega
theorem q8.set {p:List Nat} {x y:V} {vs ws:List Value} {i o:Nat} (h:q8 Γ hm p x vs) (hd:x.ty.W4=true) (hc:x.ty.child i=some (o,y.ty)) (hg:x.get i≠.any)
  (hr:q8 Γ hm (p++[i]) y ws) (hy:y.plain=true):q8 Γ hm p (x.set i y) (w7 vs o ws)∧(x.set i y).ty=x.ty∧(x.set i y).plain=true:=by
 have hb:=(h.get hc hg).2.1
 have gen:∀{τ:Ty} {c:C},x= .d τ c→q8 Γ hm p (.agg τ ((Y3 c 0 τ.q1w).set i y)) (w7 vs o ws):=by
  intro τ c e
  subst e
  simp only[q8]at h
  simp only[V.ty]at hc hd
  exact z3n (y0j h (y1Z hc)) hd hc hr hy hb
 cases x <;> (try (simp only[V.get,ne_eq,not_true_eq_false]at hg;done))
 case d τ c=>
  have:=gen rfl
  cases y
  case d τ' c'=>
   simp only[V.set]
   refine⟨?_,rfl,rfl⟩
   simp only[q8]at h hr ⊢
   simp only[V.ty]at hc hd
   exact h.set hd hc hr
  all_goals (simp only[V.set];exact⟨this,rfl,rfl⟩)
 case agg τ xs=>
  simp only[V.set]
  exact⟨z3n h hd hc hr hy hb,rfl,rfl⟩
theorem y0B {τ f:Ty} {i o:Nat} (h:τ.W4=true) (hc:τ.child i=some (o,f)):f.W4=true:=by
 cases τ <;> simp only[Ty.child,reduceCtorEq]at hc
 case arr n e=>split at hc <;> simp at hc;rw[←hc.2];simpa[Ty.W4]using h
 case struct sz os fs=>
  simp only[Ty.W4,Bool.and_eq_true]at h
  cases ho:os[i]? with
  |none=>simp[ho]at hc
  |some o'=>
   cases hf:fs[i]? with
   |none=>simp[ho,hf]at hc
   |some f'=>simp[ho,hf]at hc;rw[←hc.2];exact z4W h.2 hf
theorem q8.setAt:∀{q:List Nat} {p:List Nat} {x y:V} {vs ws:List Value} {o:Nat},q8 Γ hm p x vs→x.plain=true→x.ty.W4=true→x.ty.walk q=some (o,y.ty)→x.at q≠.any→
  q8 Γ hm (p++q) y ws→y.plain=true→
  q8 Γ hm p (x.setAt q y) (w7 vs o ws)∧(x.setAt q y).ty=x.ty∧(x.setAt q y).plain=true
 | [],p,x,y,vs,ws,o,h,hp,hd,hw,hx,hr,hy=>by
  simp[Ty.walk]at hw
  obtain⟨rfl,ht⟩:=hw
  have h1:=h.length hp
  have h2:=hr.length hy
  have:w7 vs 0 ws=ws:=by
   simp only[w7,List.take_zero,List.nil_append,Nat.zero_add]
   rw[List.drop_eq_nil_of_le (by rw[h1,h2,ht];exact Nat.le_refl _)];simp
  simp only[V.setAt,this]
  exact⟨by simpa using hr,ht.symm,hy⟩
 |i::q,p,x,y,vs,ws,o,h,hp,hd,hw,hx,hr,hy=>by
  simp only[Ty.walk]at hw
  cases hc:x.ty.child i with
  |none=>simp[hc]at hw
  |some of=>
   obtain⟨o1,f⟩:=of
   simp only[hc]at hw
   cases hw2:f.walk q with
   |none=>simp[hw2]at hw
   |some ot=>
    obtain⟨o2,t⟩:=ot
    simp only[hw2,Option.some.injEq,Prod.mk.injEq]at hw
    obtain⟨rfl,rfl⟩:=hw
    have hne:x.get i≠.any:=by
     intro e
     apply hx
     simp only[V.at,e];exact V.q9Z q
    obtain⟨h1,h2,h3⟩:=h.get hc hne
    have hpl:(x.get i).plain=true:=V.q13 h3 hne
    have _hget:=q4W hc
    have ih:=q8.setAt (q:=q) h3 hpl (by rw[h1];exact y0B hd hc) (by rw[h1];exact hw2) (by simpa[V.at]using hx) (by simpa using hr) hy
    obtain⟨i1,i2,i3⟩:=ih
    have hwl:=hr.length hy
    have hb2:o2+y.ty.size≤f.size:=by
     obtain⟨_,hb,_⟩:=h3.at_ (by rw[h1];exact hw2) (by simpa[V.at]using hx) hpl
     rwa [u7 _ _ _ h2]at hb
    have hset:=q8.set (i:=i) (o:=o1) (y:=(x.get i).setAt q y) h hd (by rw[i2,h1];exact hc) hne i1 i3
    have e1:w7 vs o1 (w7 (chunk vs o1 f.size) o2 ws)=w7 vs (o1+o2) ws:=by
     have hl1:(chunk vs o1 f.size).length=f.size:=u7 _ _ _ h2
     have hl2:(w7 (chunk vs o1 f.size) o2 ws).length=f.size:=by rw[b7 (by omega)];exact hl1
     apply List.ext_getElem?
     intro j
     rw[Q3 (vs:=vs) (o:=o1) (by omega),Q3 (vs:=vs) (o:=o1+o2) (ws:=ws) (by omega),hl2]
     by_cases hj:o1≤j∧j<o1+f.size
     ·rw[if_pos hj,Q3 (by omega),w8]
      by_cases hk:o1+o2≤j∧j<o1+o2+ws.length
      ·rw[if_pos (by omega),if_pos hk];congr 1;omega
      ·rw[if_neg (by omega),if_neg hk,if_pos (by omega)];congr 1;omega
     ·rw[if_neg hj,if_neg (by omega)]
    rw[e1]at hset
    simp only[V.setAt]
    exact hset
end
end Go.E
namespace Go.E
open Go
def w6 (P:Program) (o:Oper) (a:Act) (w:World) (u5:Value→World→Prop):Prop:=
 ∀(next:Act→World→Prop) (Q:Exit→Act→World→Prop),(∀v w',u5 v w'→next (a.put o.dst v) w')→o.wp P a w next Q
section
variable {P:Program} {o:Oper} {a:Act} {w w':World} {u5:Value→World→Prop}
theorem w6.val {v:Value} (h:(execOp a.eval o).run P w= .ok (.value v) w') (hp:u5 v w'):w6 P o a w u5:=by
 intro next Q hn
 unfold Oper.wp
 rw[h]
 exact hn v w' hp
theorem w6.skip (h:(execOp a.eval o).run P w= .ok .skip w') (hp:u5 undef w'):w6 P o a w u5:=by
 intro next Q hn
 unfold Oper.wp
 rw[h]
 exact hn _ w' hp
theorem w6.enter {f:FuncId} {args:Array Value} (h:(execOp a.eval o).run P w= .ok (.enter f args) w')
  (hc:Calls P f args w' fun e w''=>∃v,e= .returned v∧u5 v w''):w6 P o a w u5:=by
 intro next Q hn
 unfold Oper.wp
 rw[h]
 refine Calls.mono hc ?_
 rintro e w'' ⟨v,rfl,hp⟩
 exact hn v w'' hp
theorem w6.mono {Post':Value→World→Prop} (h:w6 P o a w u5) (hp:∀v w',u5 v w'→Post' v w'):w6 P o a w Post':=
 fun next Q hn=>h next Q fun v w' hv=>hn v w' (hp v w' hv)
end
structure Ext (w w':World):Prop where
 size:w.heap.size≤w'.heap.size
 old:∀b,b<w.heap.size→w'.heap[b]? =w.heap[b]?
 oo:oof w'=oof w
theorem Ext.refl (w:World):Ext w w:=⟨Nat.le_refl _,fun _ _=>rfl,rfl⟩
theorem Ext.trans {a b c:World} (h:Ext a b) (h':Ext b c):Ext a c:=
 ⟨Nat.le_trans h.size h'.size,fun x hx=>(h'.old x (Nat.lt_of_lt_of_le hx h.size)).trans (h.old x hx),h'.oo.trans h.oo⟩
theorem Ext.alloc (w:World) (o:Obj):Ext w (w.alloc o):=⟨by simp,fun _ hb=>heap_alloc_old w o hb,rfl⟩
theorem Ext.drew (w:World):Ext w w.drew:=⟨Nat.le_refl _,fun _ _=>rfl,rfl⟩
def q0a {α:Type} (f:Key→Option α) (k:Key) (x:α):Key→Option α:=fun j=>if j=k then some x else f j
def r8 {α:Type} (f:Nat→Option α) (k:Nat) (x:α):Nat→Option α:=fun j=>if j=k then some x else f j
theorem w9 {α:Type} (f:Nat→Option α) (k:Nat) (x:α):r8 f k x k=some x:=by simp[r8]
theorem j3 {α:Type} (f:Nat→Option α) {k j:Nat} (x:α) (h:j≠k):r8 f k x j=f j:=by simp[r8,h]
def u5 (Γ:G) (w:World) (s':S) (x:V) (v:Value) (w':World):Prop:=
 ∃Γ',GLe Γ Γ'∧s6 Γ Γ'∧z8 Γ' w' s'∧q9 Γ' x v
section
variable {Γ:G} {w w':World} {s:S}
theorem z8.Zlt (c:z8 Γ w s) {b:Nat} (h:Γ.Z b≠none):b<w.heap.size:=by
 cases hk:Γ.Z b with
 |none=>exact absurd hk h
 |some o=>exact j5 (c.hZ b o hk)
theorem z8.congr (c:z8 Γ w s) {s':S} (h1:∀k,s'.obj k=s.obj k) (h2:∀t,s'.live t=s.live t) (h3:∀t,s.known t=true→s'.known t=true):z8 Γ w s':=
 ⟨c.hH,c.hZ,c.hκ,fun k o h=>c.obj k o (by rw[←h1];exact h),fun k h=>by rw[h1];exact c.dom k h,c.q5a (fun k h=>by unfold S.o6 at h ⊢;rw[h1];exact h),fun t L h=>c.tok t L (by rw[←h2];exact h),fun t h=>h3 t (c.tdom t h),c.hgl,c.hoo,c.hσ⟩
theorem z8.σlt (c:z8 Γ w s) {b:Nat} {sz:Nat} (h:Γ.σ b=some sz):b<w.heap.size:=by
 obtain⟨arr,T,fr,h1,_⟩:=c.hσ b sz h
 exact j5 h1
theorem z8.y2b (c:z8 Γ w s) (he:Ext w w'):∀b sz,Γ.σ b=some sz→∃arr T fr,w'.heap[b]? =some (.cells arr T fr)∧arr.size=sz:=fun b sz h=>by
 rw[he.old b (c.σlt h)];exact c.hσ b sz h
theorem z8.env (c:z8 Γ w s) (e:List (Nat × V)):z8 Γ w {s with env:=e}:=c.congr (fun _=>rfl) (fun _=>rfl) (fun _ h=>h)
theorem z8.ext (c:z8 Γ w s) (he:Ext w w'):z8 Γ w' s:=by
 refine c.change (s6.refl Γ) rfl rfl rfl he.oo (fun b l h=>?_) (fun b h=>he.old b (c.Zlt h)) (fun b o sz h=>?_) (fun k o h=>?_) (fun _ h _=>h) c.dom (c.y2b he) c.inj c.tok c.tdom he.size
 ·rw[he.old b (c.Hlt (by rw[h];simp))];exact c.hH b l h
 ·rw[he.old b (c.κlt (by rw[h];simp))];exact c.hκ b o sz h
 ·refine .inl ⟨h,fun hd=>⟨fun b p sz _=>⟨rfl,rfl⟩,fun b τ hb=>?_⟩⟩
  obtain⟨a1,a2,a3,_⟩:=c.X7 hb h hd
  exact⟨he.old b a3,a1⟩
theorem u5.same (c:z8 Γ w s) {x:V} {v:Value} (h:q9 Γ x v):u5 Γ w s x v w:=⟨Γ,.refl Γ,.refl Γ,c,h⟩
theorem u5.ext (c:z8 Γ w s) (he:Ext w w') {x:V} {v:Value} (h:q9 Γ x v):u5 Γ w s x v w':=⟨Γ,.refl Γ,.refl Γ,c.ext he,h⟩
theorem W7 {α:Type} (n:Key) (x:α) (l:List (Key × α)):z6 ((n,x)::l) n=some x:=by simp[z6]
theorem q2s {α:Type} (n:Nat) (x:α) (l:List (Nat × α)):look ((n,x)::l) n=some x:=by simp[look]
theorem u3 (s:S) (k j:Key) (o:O):S.obj {s with loc:=(k,o)::s.loc} j=if k=j then some o else s.obj j:=by
 unfold S.obj c3
 by_cases h:k=j
 ·subst h;simp[z6]
 ·simp[z6,h]
theorem q2y {s:S} {k:Key} {o:O} (h:s.o6 k=true→o.Y6=true) (j:Key) (hj:s.o6 j=true):S.o6 {s with loc:=(k,o)::s.loc} j=true:=by
 unfold S.o6
 rw[u3]
 split
 ·rename_i e;subst e;exact h hj
 ·exact hj
theorem q18 (s:S) (t u:Nat) (L:Option Nat):S.live {s with tk:=(t,L)::s.tk} u=if t=u then L else s.live u:=by
 unfold S.live H7
 by_cases h:t=u
 ·subst h;simp only[q2s,if_true];cases L <;> rfl
 ·simp[look,h]
theorem q1o (s:S) (t u:Nat) (L:Option Nat):S.known {s with tk:=(t,L)::s.tk} u=(decide (t=u)||s.known u):=by
 unfold S.known
 by_cases h:t=u
 ·subst h;simp[look]
 ·simp[look,h]
theorem z8.q61 (c:z8 Γ w s) {k:Key} (h:s.obj k=none):Γ.ι k=none:=by
 cases hk:Γ.ι k with
 |none=>rfl
 |some x=>exact absurd h (c.dom k (by rw[hk];simp))
theorem z8.y0P (c:z8 Γ w s) {t:Nat} (h:s.known t=false):Γ.τ t=none:=by
 cases hk:Γ.τ t with
 |none=>rfl
 |some x=>have:=c.tdom t (by rw[hk];simp);rw[h]at this;cases this
def G.s9 (Γ:G) (k:Key) (b:Nat) (τ:Ty):G:={Γ with ι:=q0a Γ.ι k (b,τ)}
theorem z8.s9 (c:z8 Γ w s) {k:Key} (hn:s.obj k=none) (he:Ext w w') {τ:Ty} {o:O} (ho:∀Γ':G,s6 Γ Γ'→q4g Γ Γ' (some k)→Γ'.ι k=some (w.heap.size,τ)→Γ'.H w.heap.size=none→Γ'.Z w.heap.size=none→Own Γ' w' k o) (hkl:∀i,k≠.g i:=by intro i h;cases h):
  z8 (Γ.s9 k w.heap.size τ) w' {s with loc:=(k,o)::s.loc}∧s6 Γ (Γ.s9 k w.heap.size τ)∧GLe Γ (Γ.s9 k w.heap.size τ):=by
 have hk:=c.q61 hn
 have hι:∀j x,Γ.ι j=some x→(Γ.s9 k w.heap.size τ).ι j=some x:=by
  intro j x hj
  have:j≠k:=by intro e;subst e;rw[hk]at hj;cases hj
  simp[G.s9,q0a,this,hj]
 have hp:s6 Γ (Γ.s9 k w.heap.size τ):=⟨Hp.le_refl _,hι,fun t x L h=>⟨x,L,h,Nat.le_refl _,fun _=>rfl⟩,fun _ _ h=>h⟩
 refine⟨?_,hp,⟨Hp.le_refl _,rfl,fun _ _=>rfl,fun j x h=>hι _ _ h,rfl,rfl,fun _ _ h=>h,fun i h=>by
  have:Key.g i≠k:=fun e=>hkl i e.symm
  simpa[G.s9,q0a,this]using h⟩⟩
 refine c.change hp rfl rfl rfl he.oo (fun b l h=>?_) (fun b h=>he.old b (c.Zlt h)) (fun b o sz h=>?_) (fun j o' h=>?_) (fun j h h'=>by
  have:j≠k:=fun e=>by subst e;exact h' hn
  simpa[G.s9,q0a,this]using h) (fun j h=>?_) (c.y2b he) (fun j j' b τ1 τ2 h1 h2=>?_) c.tok c.tdom he.size
 ·have h':Γ.H b=some l:=h
  rw[he.old b (c.Hlt (by rw[h'];simp))];exact c.hH b l h
 ·have h':Γ.κ b=some (o,sz):=h
  rw[he.old b (c.κlt (by rw[h'];simp))];exact c.hκ b o sz h
 ·rw[u3]at h
  split at h
  ·rename_i e
   cases h;subst e
   refine .inr (ho _ hp (fun _ _ _ _=>⟨rfl,rfl⟩) (by simp[G.s9,q0a]) ?_ ?_)
   ·cases hh:Γ.H w.heap.size with
    |none=>exact hh
    |some l=>exact absurd (c.Hlt (by rw[hh];simp)) (Nat.lt_irrefl _)
   ·cases hh:Γ.Z w.heap.size with
    |none=>exact hh
    |some l=>exact absurd (c.Zlt (by rw[hh];simp)) (Nat.lt_irrefl _)
  ·refine .inl ⟨h,fun hd=>⟨fun b p sz _=>⟨rfl,rfl⟩,fun b τ hb=>?_⟩⟩
   obtain⟨a1,a2,a3,_⟩:=c.X7 hb h hd
   exact⟨he.old b a3,a1⟩
 ·rw[u3]
  split
  ·simp
  ·rename_i e
   refine c.dom j ?_
   have:j≠k:=fun h=>e h.symm
   simpa[G.s9,q0a,this]using h
 ·have key:∀j b τ',(Γ.s9 k w.heap.size τ).ι j=some (b,τ')→(j=k∧b=w.heap.size)∨(j≠k∧Γ.ι j=some (b,τ')∧b<w.heap.size):=by
   intro j b τ' h
   by_cases hjk:j=k
   ·left;simp[G.s9,q0a,hjk]at h;exact⟨hjk,h.1.symm⟩
   ·right
    have h':Γ.ι j=some (b,τ'):=by simpa[G.s9,q0a,hjk]using h
    obtain⟨_,_,_,hlt,_⟩:=c.y0Q h'
    exact⟨hjk,h',hlt⟩
  rcases key j b τ1 h1 with⟨e1,e2⟩|⟨e1,e2,e3⟩ <;> rcases key j' b τ2 h2 with⟨f1,f2⟩|⟨f1,f2,f3⟩
  ·exact .inl (by rw[e1,f1])
  ·omega
  ·omega
  ·refine(c.inj _ _ _ _ _ e2 f2).imp id (And.imp (Or.imp (fun h=>?_) (fun h=>?_)) id)
   ·unfold S.o6 at h ⊢;rw[u3,if_neg (fun e=>e1 e.symm)];exact h
   ·unfold S.o6 at h ⊢;rw[u3,if_neg (fun e=>f1 e.symm)];exact h
theorem z0g (c:z8 Γ w s) {n:Nat} (hn:s.obj (.l n)=none) {x:V} {cells:Array Value} {T:TypeId} (he:Ext w w') (hw:w'.heap[w.heap.size]? =some (.cells cells T (0,0))) (hsz:x.ty.size≤cells.size)
  (hx:q8 Γ none [] x (chunk cells.toList 0 x.ty.size)) (hp:x.plain=true) (hns:x.u0=true):
  u5 Γ w {s with loc:=(.l n,.box x)::s.loc} (.ptr (.l n) [] x.ty) (.pointer (some ⟨w.heap.size,0,none⟩)) w':=by
 obtain⟨h1,h2,h3⟩:=c.s9 hn he (τ:=x.ty) (o:=.box x) fun Γ' hpr _ hι hH hZ=>⟨_,cells,T,hι,hH,hZ,hw,hsz,(hx.o8 hpr (by trivial)).c5,hp,hns⟩
 exact⟨_,h3,h2,h1,q1z (τ0:=x.ty) (by simp[G.s9,q0a]) rfl⟩
def G.q0E (Γ:G) (b:Nat) (l:List Value):G:={Γ with H:=r8 Γ.H b l}
theorem z8.q0E (c:z8 Γ w s) (he:Ext w w') {arr:Array Value} {T:TypeId} {fr:Nat × Nat} {l r:List Value} (hw:w'.heap[w.heap.size]? =some (.cells arr T fr)) (hl:arr.toList=l++r):
  z8 (Γ.q0E w.heap.size l) w' s∧s6 Γ (Γ.q0E w.heap.size l)∧GLe Γ (Γ.q0E w.heap.size l):=by
 have oH:∀b,b<w.heap.size→(Γ.q0E w.heap.size l).H b=Γ.H b:=fun b hb=>j3 _ _ (by omega)
 have hle:Γ.H.le (Γ.q0E w.heap.size l).H:=fun b l' h=>⟨[],by rw[oH b (c.Hlt (by rw[h];simp)),h];simp⟩
 have hp:s6 Γ (Γ.q0E w.heap.size l):=⟨hle,fun _ _ h=>h,fun t x L h=>⟨x,L,h,Nat.le_refl _,fun _=>rfl⟩,fun _ _ h=>h⟩
 refine⟨?_,hp,⟨hle,rfl,fun b h=>oH b (c.Zlt h),fun _ _ h=>h,rfl,rfl,fun _ _ h=>h,fun _ h=>h⟩⟩
 refine c.change hp rfl rfl rfl he.oo (fun b l' h=>?_) (fun b h=>he.old b (c.Zlt h)) (fun b o sz h=>?_) (fun k o h=>?_) (fun _ h _=>h) c.dom (c.y2b he) c.inj (fun t L h=>?_) c.tdom he.size
 ·by_cases hb:b=w.heap.size
  ·subst hb
   simp[G.q0E,r8]at h;subst h
   exact⟨arr,T,fr,r,hw,hl⟩
  ·have h':Γ.H b=some l':=by simpa[G.q0E,r8,hb]using h
   rw[he.old b (c.Hlt (by rw[h'];simp))];exact c.hH b l' h'
 ·have h':Γ.κ b=some (o,sz):=h
  have hlt:=c.κlt (by rw[h'];simp)
  rw[he.old b hlt,oH b hlt];exact c.hκ b o sz h
 ·refine .inl ⟨h,fun hd=>⟨fun b p sz hb=>⟨rfl,oH b (c.κlt (by rw[hb];simp))⟩,fun b τ hb=>?_⟩⟩
  obtain⟨a1,a2,a3,_⟩:=c.X7 hb h hd
  exact⟨he.old b a3,by rw[oH b a3];exact a1⟩
 ·obtain⟨x,h1,h2⟩:=c.tok t L h
  refine⟨x,h1,fun b pos sz hx=>?_⟩
  obtain⟨a1,a2⟩:=h2 b pos sz hx
  rw[oH b (c.κlt (by rw[a2];simp))]
  exact⟨a1,a2⟩
def G.q5h (Γ:G) (b sz:Nat):G:={Γ with σ:=r8 Γ.σ b sz}
theorem z8.q5h (c:z8 Γ w s) {b:Nat} {arr:Array Value} {T:TypeId} {fr:Nat × Nat} (hw:w.heap[b]? =some (.cells arr T fr)):
  z8 (Γ.q5h b arr.size) w s∧s6 Γ (Γ.q5h b arr.size)∧GLe Γ (Γ.q5h b arr.size):=by
 have hσ:∀b' sz,Γ.σ b'=some sz→(Γ.q5h b arr.size).σ b'=some sz:=by
  intro b' sz h
  by_cases e:b'=b
  ·subst e
   obtain⟨arr',T',fr',a1,a2⟩:=c.hσ b' sz h
   rw[hw]at a1;cases a1
   rw[←a2];exact w9 _ _ _
  ·exact(j3 _ _ e).trans h
 have hp:s6 Γ (Γ.q5h b arr.size):=⟨Hp.le_refl _,fun _ _ h=>h,fun t x L h=>⟨x,L,h,Nat.le_refl _,fun _=>rfl⟩,hσ⟩
 refine⟨?_,hp,⟨Hp.le_refl _,rfl,fun _ _=>rfl,fun _ _ h=>h,rfl,rfl,hσ,fun _ h=>h⟩⟩
 refine c.change hp rfl rfl rfl rfl c.hH (fun _ _=>rfl) c.hκ (fun k o h=>?_) (fun _ h _=>h) c.dom (fun b' sz h=>?_) c.inj c.tok c.tdom (Nat.le_refl _)
 ·refine .inl ⟨h,fun hd=>⟨fun b p sz _=>⟨rfl,rfl⟩,fun b τ hb=>?_⟩⟩
  obtain⟨a1,a2,a3,_⟩:=c.X7 hb h hd
  exact⟨rfl,a1⟩
 ·by_cases e:b'=b
  ·subst e
   have:arr.size=sz:=by
    have h':r8 Γ.σ b' arr.size b'=some sz:=h
    rw[w9]at h';exact Option.some.inj h'
   exact⟨arr,T,fr,hw,this⟩
  ·exact c.hσ b' sz ((j3 _ _ e).symm.trans h)
def G.Z0 (Γ:G) (t:Nat) (x:Option (Nat × Nat × Nat)) (L:Nat):G:=
 {Γ with τ:=r8 Γ.τ t (x,L),κ:=match x with|none=>Γ.κ|some (b,_,sz)=>r8 Γ.κ b (.tok t,sz)}
theorem z8.Z0 (c:z8 Γ w s) {t:Nat} (ht:s.known t=false) {x:Option (Nat × Nat × Nat)} {L:Nat}
  (hx:∀b pos sz,x=some (b,pos,sz)→Γ.κ b=none∧Γ.Z b=none∧(∃l,Γ.H b=some l∧l.length=pos)∧∃arr T,w.heap[b]? =some (.cells arr T (0,0))∧arr.size=sz):
  z8 (Γ.Z0 t x L) w {s with tk:=(t,some L)::s.tk}∧s6 Γ (Γ.Z0 t x L)∧GLe Γ (Γ.Z0 t x L):=by
 have hτ:=c.y0P ht
 have oκ:∀b o,Γ.κ b=some o→(Γ.Z0 t x L).κ b=some o:=by
  intro b o h
  cases x with
  |none=>exact h
  |some y=>
   obtain⟨b',pos,sz⟩:=y
   have:b≠b':=by intro e;subst e;rw[(hx b pos sz rfl).1]at h;cases h
   simp[G.Z0,r8,this,h]
 have hp:s6 Γ (Γ.Z0 t x L):=⟨Hp.le_refl _,fun _ _ h=>h,fun u y M h=>by
  have:u≠t:=by intro e;subst e;rw[hτ]at h;cases h
  exact⟨y,M,by simp[G.Z0,r8,this,h],Nat.le_refl _,fun _=>rfl⟩,fun _ _ h=>h⟩
 refine⟨?_,hp,⟨Hp.le_refl _,rfl,fun _ _=>rfl,fun _ _ h=>h,rfl,rfl,fun _ _ h=>h,fun _ h=>h⟩⟩
 refine c.change hp rfl rfl rfl rfl c.hH (fun b _=>rfl) (fun b o sz h=>?_) (fun k o h=>?_) (fun _ h _=>h) c.dom c.hσ c.inj (fun u M h=>?_) (fun u h=>?_) (Nat.le_refl _)
 ·cases hk:Γ.κ b with
  |some o'=>rw[oκ b o' hk]at h;cases h;exact c.hκ b o sz hk
  |none=>
   cases x with
   |none=>have h':Γ.κ b=some (o,sz):=h;rw[hk]at h';cases h'
   |some y=>
    obtain⟨b',pos,sz'⟩:=y
    by_cases e:b=b'
    ·subst e
     simp[G.Z0,r8]at h
     obtain⟨_,a2,⟨l,a3,_⟩,a4⟩:=hx b pos sz' rfl
     rw[←h.2]
     obtain⟨arr,T,q1,q2⟩:=a4
     exact⟨a2,by show Γ.H b≠none;rw[a3];simp,arr,T,q1,q2,by rw[←h.1];trivial⟩
    ·simp[G.Z0,r8,e,hk]at h
 ·refine .inl ⟨h,fun hd=>⟨fun b p sz hb=>⟨by rw[oκ b _ hb,hb],rfl⟩,fun b τ hb=>?_⟩⟩
  obtain⟨a1,a2,a3,_⟩:=c.X7 hb h hd
  exact⟨rfl,a1⟩
 ·rw[q18]at h
  split at h
  ·rename_i e
   subst e;cases h
   refine⟨x,by simp[G.Z0,r8],fun b pos sz e=>?_⟩
   obtain⟨a1,a2,a3,a4⟩:=hx b pos sz e
   subst e
   exact⟨a3,by simp[G.Z0,r8]⟩
  ·rename_i e
   obtain⟨y,h1,h2⟩:=c.tok u M h
   have e':u≠t:=fun h'=>e h'.symm
   refine⟨y,by simp[G.Z0,r8,e',h1],fun b pos sz hy=>?_⟩
   obtain⟨a1,a2⟩:=h2 b pos sz hy
   exact⟨a1,oκ b _ a2⟩
 ·rw[q1o]
  by_cases e:t=u
  ·simp[e]
  ·simp only[e,decide_false,Bool.false_or]
   have e':u≠t:=fun h'=>e h'.symm
   refine c.tdom u ?_
   simpa[G.Z0,r8,e']using h
end
end Go.E
namespace Go.E
open Go
def Z1 (s:S):V→Option (Nat × Ty × List C)
 | .sr k q lo n _ eb e=>match s.obj k with
  |some (.box x)=>match x.at q with
   | .d _ c=>some (eb,e,(c.elems.drop lo).take n)
   |_=>none
  |_=>none
 |x=>x.q1M
theorem q09 {H:Hp} {e:Ty} {ys:List C} {m:Nat} {news:List Value} (h1:ys.length=m) (hl:news.length=m*e.size) (hr:∀i c',ys[i]? =some c'→z7 H e (chunk news (i*e.size) e.size) c'):U5 news:=by
 intro v hv
 obtain⟨j,hj⟩:=List.getElem?_of_mem hv
 have hjl:j<m*e.size:=by rw[←hl];exact(List.getElem?_eq_some_iff.1 hj).1
 have hs:0<e.size:=by rcases Nat.eq_zero_or_pos e.size with h|h;· rw[h,Nat.mul_zero]at hjl;omega
                      ·exact h
 have hi:j / e.size<ys.length:=by rw[h1];exact(Nat.div_lt_iff_lt_mul hs).2 hjl
 have hdm:=Nat.div_add_mod j e.size
 have hmod:=Nat.mod_lt j hs
 refine(hr _ _ (List.getElem?_eq_getElem hi)).one v (List.mem_of_getElem? (i:=j%e.size) ?_)
 rw[w8,if_pos hmod,Nat.mul_comm,hdm];exact hj
section
variable {P:Program} {Γ:G} {w:World} {s:S}
theorem q80 {b off k:Nat} {arr:Array Value} {T:TypeId} {fr:Nat × Nat} {l r:List Value} (hb:w.heap[b]? =some (.cells arr T fr)) (hl:arr.toList=l++r) {j:Nat} {u:Value} (h:(chunk l off k)[j]? =some u):
  w.cell? ⟨b,off+j,none⟩=some u:=by
 rw[w8]at h
 split at h
 ·have hlt:=(List.getElem?_eq_some_iff.1 h).1
  have:arr[off+j]? =some u:=by
   rw[←Array.getElem?_toList,hl,List.getElem?_append_left hlt];exact h
  simp[World.cell?,hb,this]
 ·cases h
theorem z10 (c:z8 Γ w s) {Y:V} {v:Value} {eb:Nat} {e:Ty} {ys:List C} (hr:q9 Γ Y v) (he:Z1 s Y=some (eb,e,ys)) {tx E':TypeId} (hu:P.underlying tx=some (.slice E')):
  ∃n news,Src P e.size tx v n news w∧ys.length=n∧n≤maxLen∧n*eb≤140737488355328∧∀i c',ys[i]? =some c'→z7 Γ.H e (chunk news (i*e.size) e.size) c':=by
 -- a slice that is known as data
 have frozen:∀{eb:Nat} {e:Ty} {ys:List C},Y.q1M=some (eb,e,ys)→∃n news,Src P e.size tx v n news w∧ys.length=n∧n≤maxLen∧n*eb≤140737488355328∧∀i c',ys[i]? =some c'→z7 Γ.H e (chunk news (i*e.size) e.size) c':=by
  intro eb e ys he
  obtain⟨a,n,cap,rfl,h1,h2,h3,h4,h5⟩:=q0N hr he
  obtain⟨a',n',cap',e1,_,e2,e3,e4,e5,e6⟩:=X8 h5
  simp at e1
  obtain⟨rfl,rfl,rfl⟩:=e1
  simp only[C.elems]at e6
  have hz:∀{ad:Addr},n=0→Src P e.size tx (.slice (some ad) n cap) n [] w:=by
   intro ad h0
   subst h0
   exact Src.ofSlice w hu _ 0 cap [] (by simp) (by simp) (by simp)
  by_cases h0:n=0
  ·refine⟨n,[],?_,h1,by omega,h4,fun i c' hi=>?_⟩
   ·cases a with
    |none=>subst h0;exact Src.ofNil w hu cap
    |some ad=>exact hz h0
   ·have:=(List.getElem?_eq_some_iff.1 hi).1;omega
  ·rcases e6 with e6|⟨b,off,l,rfl,hb,hs,hc⟩
   ·exact absurd e6 h0
   ·obtain⟨arr,T,fr,r,hw,hl⟩:=c.hH b l hb
    have hnl:(chunk l off (n*e.size)).length=n*e.size:=u7 _ _ _ hs
    have hrep:∀i c',ys[i]? =some c'→z7 Γ.H e (chunk (chunk l off (n*e.size)) (i*e.size) e.size) c':=by
     intro i c' hi
     have hil:i<n:=by rw[←h1];exact(List.getElem?_eq_some_iff.1 hi).1
     have hle:(i+1)*e.size≤n*e.size:=Nat.mul_le_mul_right _ hil
     rw[Nat.add_mul]at hle
     rw[o7 _ _ _ _ _ (by omega)];exact hc i c' hi
    exact⟨n,chunk l off (n*e.size),Src.ofSlice w hu _ n cap _ hnl (fun j u hj=>by rw[q0v];exact q80 hw hl hj) (q09 h1 hnl hrep),h1,by omega,h4,hrep⟩
 cases Y <;> (try exact frozen he)
 case sr k q lo n cp eb' e'=>
  simp only[Z1]at he
  cases ho:s.obj k with
  |none=>simp[ho]at he
  |some o=>
   cases o with
   |map=>simp[ho]at he
   |it=>simp[ho]at he
   |dead=>simp[ho]at he
   |box x=>
    simp only[ho]at he
    cases hx:x.at q with
    |d τ cc=>
     simp only[hx,Option.some.injEq,Prod.mk.injEq]at he
     obtain⟨rfl,rfl,rfl⟩:=he
     rcases q0k hr with⟨_,rfl,a,rfl⟩|⟨b,τ0,o0,m,cap,a,a1,a2,a3,rfl,a4,a5,a6,a7,_⟩
     ·refine⟨0,[],?_,by simp,by unfold maxLen;omega,by rw[Nat.zero_mul];exact Nat.zero_le _,fun i c' hi=>by simp at hi⟩
      cases a with
      |none=>exact Src.ofNil w hu 0
      |some ad=>exact Src.ofSlice w hu _ 0 0 [] (by simp) (by simp) (by simp)
     obtain⟨b',cells,T,g1,g2,g3,g4,g5,g6,g7,_⟩:=c.own a1 ho
     rw[a1]at g1;cases g1
     obtain⟨q1,q2,q3⟩:=g6.at_ a2 (by rw[hx];simp) g7
     rw[hx]at q1 q3
     simp only[V.ty]at q1
     subst q1
     simp only[q8,z7]at q3
     obtain⟨cs,rfl,r1,r2,r3,r4⟩:=q3
     simp only[C.elems]
     rw[u7 _ _ _ (by simpa using g5)]at q2
     have hlen:((cs.drop lo).take n).length=n:=by simp;omega
     have hmul:(lo+n)*e'.size≤m*e'.size:=Nat.mul_le_mul_right _ a3
     rw[Nat.add_mul]at hmul
     simp only[Ty.size]at q2 r2 r4
     have hall:o0+lo*e'.size+n*e'.size≤cells.toList.length:=by simp;omega
     have hnl:(chunk cells.toList (o0+lo*e'.size) (n*e'.size)).length=n*e'.size:=u7 _ _ _ hall
     have hrep:∀i c',((cs.drop lo).take n)[i]? =some c'→z7 Γ.H e' (chunk (chunk cells.toList (o0+lo*e'.size) (n*e'.size)) (i*e'.size) e'.size) c':=by
      intro i c' hi
      rw[List.getElem?_take]at hi
      split at hi
      ·rename_i hin
       rw[List.getElem?_drop]at hi
       have:=r4 _ _ hi
       have hle:(i+1)*e'.size≤n*e'.size:=Nat.mul_le_mul_right _ hin
       have hle2:(lo+i+1)*e'.size≤m*e'.size:=Nat.mul_le_mul_right _ (by omega)
       rw[Nat.add_mul,Nat.add_mul]at hle2
       rw[Nat.add_mul]at hle this
       rw[o7 _ _ _ _ _ (by omega),o7 _ _ _ _ _ (by omega)]at this
       rw[o7 _ _ _ _ _ (by omega)]
       rw[show 0+(o0+(lo*e'.size+i*e'.size))=o0+lo*e'.size+i*e'.size by omega]at this
       exact this
      ·cases hi
     rcases Nat.eq_zero_or_pos n with h0|h0
     ·subst h0
      refine⟨0,[],?_,hlen,by omega,by rw[Nat.zero_mul];exact Nat.zero_le _,fun i c' hi=>by simp at hi⟩
      cases a with
      |none=>exact Src.ofNil w hu cap
      |some ad=>exact Src.ofSlice w hu _ 0 cap [] (by simp) (by simp) (by simp)
     ·have ha:a=some ⟨b,o0+lo*e'.size,none⟩:=by rcases a4 with h|h;· omega
                                                ·exact h
      subst ha
      exact⟨n,_,Src.ofSlice w hu _ n cap _ hnl (fun j u hj=>by rw[q0v];exact q80 (r:=[]) g4 (by simp) hj) (q09 hlen hnl hrep),hlen,by omega,a7,hrep⟩
    |_=>simp[hx]at he
theorem y35 {Y:V} {v:Value} (hr:q9 Γ Y v) (hY:Y.isStr) {tx:TypeId} (hu:P.underlying tx=some .string):
  ∃n news,Src P 1 tx v n news w∧(Y.toStr.map fun b=>C.int b.toNat).length=n∧n≤maxLen∧n*1≤140737488355328∧
   ∀i c',(Y.toStr.map fun b=>C.int b.toNat)[i]? =some c'→z7 Γ.H (.int .u8) (chunk news (i*1) 1) c':=by
 obtain⟨cc,rfl⟩:=V.q2Z hY
 obtain⟨rfl,_,hl⟩:=F2 hr
 have hsz:(⟨cc.toStr.toArray⟩:ByteArray).size=cc.toStr.length:=by simp[ByteArray.size]
 refine⟨cc.toStr.length,byteCells ⟨cc.toStr.toArray⟩,?_,by simp[V.toStr],by unfold maxLen;omega,by omega,fun i c' hi=>?_⟩
 ·have:=Src.ofString w hu (⟨cc.toStr.toArray⟩:ByteArray)
  rwa [hsz]at this
 ·simp only[V.toStr,List.getElem?_map]at hi
  cases hc:cc.toStr[i]? with
  |none=>simp[hc]at hi
  |some b=>
   simp[hc]at hi
   subst hi
   have:chunk (byteCells ⟨cc.toStr.toArray⟩) (i*1) 1=[.int .u8 b.toNat]:=by
    apply List.ext_getElem?
    intro j
    rw[w8]
    by_cases hj:j<1
    ·have:j=0:=by omega
     subst this
     simp[byteCells,hc]
    ·simp[hj]
   rw[this]
   simp only[z7]
   refine⟨_,rfl,rfl,?_,?_⟩
   ·have:IntKind.u8.min=0:=by decide
    omega
   ·have:IntKind.u8.max=255:=by decide
    have:=b.toNat_lt
    omega
end
theorem q6T {H:Hp} {e:Ty} {n m:Nat} {xs ys:List C} {olds news rest:List Value} (h1:xs.length=n) (h2:ys.length=m) (h3:olds.length=n*e.size) (h4:news.length=m*e.size)
  (hx:∀i c',xs[i]? =some c'→z7 H e (chunk olds (i*e.size) e.size) c') (hy:∀i c',ys[i]? =some c'→z7 H e (chunk news (i*e.size) e.size) c'):
  ∀i c',(xs++ys)[i]? =some c'→z7 H e (chunk (olds++news++rest) (i*e.size) e.size) c':=by
 intro i c' hi
 by_cases hlt:i<n
 ·rw[List.getElem?_append_left (by omega)]at hi
  have:=hx i c' hi
  have hb:(i+1)*e.size≤n*e.size:=Nat.mul_le_mul_right _ (by omega)
  rw[Nat.add_mul]at hb
  rw[List.append_assoc,q1d _ _ _ _ (by omega)];exact this
 ·rw[List.getElem?_append_right (by omega),h1]at hi
  have hil:i-n<m:=by rw[←h2];exact(List.getElem?_eq_some_iff.1 hi).1
  have:=hy _ c' hi
  have hb:(i-n+1)*e.size≤m*e.size:=Nat.mul_le_mul_right _ (by omega)
  rw[Nat.add_mul]at hb
  have hmul:i*e.size=n*e.size+(i-n)*e.size:=by rw[←Nat.add_mul];congr 1;omega
  have e1:chunk (olds++news++rest) (i*e.size) e.size=chunk news ((i-n)*e.size) e.size:=by
   simp only[chunk,List.append_assoc]
   rw[hmul,←h3,List.drop_append,List.drop_eq_nil_of_le (by omega),List.nil_append,Nat.add_sub_cancel_left,List.drop_append_of_le_length (by omega),List.take_append_of_le_length (by simp;omega)]
  rw[e1];exact this
end Go.E
namespace Go.E
open Go
def y7 (P:Program) (T:TypeId):TypeId:=match P.underlying T with
 |some (.slice e)=>e
 |_=>0
section
variable {P:Program} {Γ:G} {w w':World} {s:S}
theorem q1e (hP:x4 P=true) {T:TypeId} {eb:Nat} {e:Ty} (h:ty P T= .slice eb e):
  P.underlying T=some (.slice (y7 P T))∧e=tyF P 11 (y7 P T)∧eb=P.bytesOf (y7 P T)∧y7 P T<P.types.size:=by
 obtain⟨E,h1,h2,h3,h4⟩:=q0l hP h
 have:y7 P T=E:=by simp[y7,h1]
 rw[this];exact⟨h1,h2,h3,h4⟩
theorem q21 {T:TypeId} (h:b9 P T=true):∃i z,P.info? T=some i∧i.zero=some z∧Y2 (ty P T) z.cells.toList=true∧Y2 (tyF P 11 T) z.cells.toList=true:=by
 unfold b9 at h
 cases hi:P.info? T with
 |none=>simp[hi]at h
 |some i=>
  cases hz:i.zero with
  |none=>simp[hi,hz]at h
  |some z=>simp[hi,hz]at h;exact⟨i,z,rfl,hz,h.1.1,h.2⟩
theorem H9 {τ:Ty} {vs:List Value} (h:Y2 τ vs=true):vs.length=τ.size:=(Z6 (H:=fun _=>none) h).length
theorem q9e {w w':World} {b:Nat} {o:Obj} (hw:w'.heap[b]? =some o) (oth:∀b',b'≠b→w'.heap[b']? =w.heap[b']?):w.heap.size≤w'.heap.size:=by
 cases Nat.lt_or_ge w'.heap.size w.heap.size with
 |inr h=>exact h
 |inl hlt=>
  have h1:=j5 hw
  have h3:=oth w'.heap.size (by omega)
  rw[Array.getElem?_eq_none (Nat.le_refl _),Array.getElem?_eq_getElem hlt]at h3
  cases h3
theorem z8.y4q (c:z8 Γ w s) {t L L' b pos sz:Nat} {l ws r:List Value} {arr':Array Value} {T:TypeId} (hl:s.live t=some L) (hτ:Γ.τ t=some (some (b,pos,sz),L)) (hw:w'.heap[b]? =some (.cells arr' T (0,0)))
  (hH:Γ.H b=some l) (hκ:Γ.κ b=some (.tok t,sz)) (harr:arr'.toList=l++ws++r) (hsz:arr'.size=sz) (oth:∀b',b'≠b→w'.heap[b']? =w.heap[b']?) (hLL:L<L') (hoo:oof w'=oof w):
  ∃Γ',Γ'.H b=some (l++ws)∧Γ'.τ t=some (some (b,(l++ws).length,sz),L')∧z8 Γ' w' {s with tk:=(t,some L')::s.tk}∧s6 Γ Γ'∧GLe Γ Γ':=by
 have hz:Γ.Z b=none:=(c.hκ b _ _ hκ).1
 refine⟨{Γ with H:=r8 Γ.H b (l++ws),τ:=r8 Γ.τ t (some (b,(l++ws).length,sz),L')},w9 _ _ _,w9 _ _ _,?_⟩
 have hle:Γ.H.le (r8 Γ.H b (l++ws)):=by
  intro b' l' h
  by_cases e:b'=b
  ·subst e;rw[hH]at h;cases h;exact⟨ws,w9 _ _ _⟩
  ·exact⟨[],by rw[j3 _ _ e,h];simp⟩
 have hp:s6 Γ {Γ with H:=r8 Γ.H b (l++ws),τ:=r8 Γ.τ t (some (b,(l++ws).length,sz),L')}:=by
  refine⟨hle,fun _ _ h=>h,fun u y M h=>?_,fun _ _ h=>h⟩
  by_cases e:u=t
  ·subst e;rw[hτ]at h;cases h
   exact⟨_,L',w9 _ _ _,by omega,fun e=>by omega⟩
  ·exact⟨y,M,(j3 _ _ e).trans h,Nat.le_refl _,fun _=>rfl⟩
 refine⟨?_,hp,⟨hle,rfl,fun b' h=>j3 _ _ (fun e=>by subst e;exact h hz),fun _ _ h=>h,rfl,rfl,fun _ _ h=>h,fun _ h=>h⟩⟩
 refine c.change hp rfl rfl rfl hoo (fun b' l' h=>?_) (fun b' h=>oth b' (fun e=>by subst e;exact h hz)) (fun b' o sz' h=>?_) (fun k o h=>?_) (fun _ h _=>h) c.dom (fun b' sz' h=>?_) c.inj (fun u M h=>?_) (fun u h=>?_) (q9e hw oth)
 ·by_cases e:b'=b
  ·subst e
   have h':l++ws=l':=by simpa[r8]using h
   subst h'
   exact⟨arr',T,(0,0),r,hw,harr⟩
  ·have h':Γ.H b'=some l':=by simpa[r8,e]using h
   rw[oth b' e];exact c.hH b' l' h'
 ·have h':Γ.κ b'=some (o,sz'):=h
  by_cases e:b'=b
  ·subst e
   rw[hκ]at h';cases h'
   exact⟨hz,by simp[r8],arr',T,hw,hsz,trivial⟩
  ·obtain⟨a1,a2,a3⟩:=c.hκ b' o sz' h'
   exact⟨a1,by simpa[r8,e]using a2,by rw[oth b' e];exact a3⟩
 ·refine .inl ⟨h,fun hd=>⟨fun b' p sz' hb=>?_,fun b' τ hb=>?_⟩⟩
  ·have hb':Γ.κ b'=some (.home k p,sz'):=hb
   have e:b'≠b:=by intro e;subst e;rw[hκ]at hb';cases hb'
   exact⟨rfl,j3 _ _ e⟩
  ·obtain⟨a1,a2,a3,_⟩:=c.X7 hb h hd
   have e:b'≠b:=by intro e;subst e;rw[hH]at a1;cases a1
   exact⟨oth b' e,by simpa[r8,e]using a1⟩
 ·obtain⟨arr,T1,fr,a1,a2⟩:=c.hσ b' sz' h
  by_cases e:b'=b
  ·subst e
   obtain⟨_,_,arr2,T2,a3,a4,_⟩:=c.hκ b' _ _ hκ
   rw[a1]at a3;cases a3
   exact⟨arr',T,(0,0),hw,by omega⟩
  ·exact⟨arr,T1,fr,by rw[oth b' e];exact a1,a2⟩
 ·rw[q18]at h
  split at h
  ·rename_i e
   subst e;cases h
   refine⟨_,w9 _ _ _,fun b' pos' sz' e=>?_⟩
   cases e
   exact⟨⟨_,w9 _ _ _,rfl⟩,hκ⟩
  ·rename_i e
   have e':u≠t:=fun h'=>e h'.symm
   obtain⟨y,h1,h2⟩:=c.tok u M h
   refine⟨y,(j3 _ _ e').trans h1,fun b' pos' sz' hy=>?_⟩
   obtain⟨a1,a2⟩:=h2 b' pos' sz' hy
   have e2:b'≠b:=by intro e2;subst e2;rw[hκ]at a2;simp at a2;exact e a2.1
   exact⟨by simpa[r8,e2]using a1,a2⟩
 ·rw[q1o]
  by_cases e:t=u
  ·simp[e]
  ·have e':u≠t:=fun h'=>e h'.symm
   simp only[e,decide_false,Bool.false_or]
   refine c.tdom u ?_
   simpa[r8,e']using h
theorem z8.y4g (c:z8 Γ w s) {t L L' b sz:Nat} {x:Option (Nat × Nat × Nat)} {l:List Value} {arr:Array Value} {T:TypeId} (hτ:Γ.τ t=some (x,L)) (hw:w.heap[b]? =some (.cells arr T (0,0)))
  (hH:Γ.H b=some l) (hκ:Γ.κ b=none) (hz:Γ.Z b=none) (hsz:arr.size=sz) (hLL:L<L'):
  ∃Γ',Γ'.H=Γ.H∧Γ'.τ t=some (some (b,l.length,sz),L')∧z8 Γ' w {s with tk:=(t,some L')::s.tk}∧s6 Γ Γ'∧GLe Γ Γ':=by
 refine⟨{Γ with τ:=r8 Γ.τ t (some (b,l.length,sz),L'),κ:=r8 Γ.κ b (.tok t,sz)},rfl,w9 _ _ _,?_⟩
 have oκ:∀b' o,Γ.κ b'=some o→r8 Γ.κ b (.tok t,sz) b'=some o:=by
  intro b' o h
  have:b'≠b:=by intro e;subst e;rw[hκ]at h;cases h
  rw[j3 _ _ this,h]
 have hp:s6 Γ {Γ with τ:=r8 Γ.τ t (some (b,l.length,sz),L'),κ:=r8 Γ.κ b (.tok t,sz)}:=by
  refine⟨Hp.le_refl _,fun _ _ h=>h,fun u y M h=>?_,fun _ _ h=>h⟩
  by_cases e:u=t
  ·subst e;rw[hτ]at h;cases h
   exact⟨_,L',w9 _ _ _,by omega,fun e=>by omega⟩
  ·exact⟨y,M,(j3 _ _ e).trans h,Nat.le_refl _,fun _=>rfl⟩
 refine⟨?_,hp,⟨Hp.le_refl _,rfl,fun _ _=>rfl,fun _ _ h=>h,rfl,rfl,fun _ _ h=>h,fun _ h=>h⟩⟩
 refine c.change hp rfl rfl rfl rfl c.hH (fun b' _=>rfl) (fun b' o sz' h=>?_) (fun k o h=>?_) (fun _ h _=>h) c.dom c.hσ c.inj (fun u M h=>?_) (fun u h=>?_) (Nat.le_refl _)
 ·by_cases e:b'=b
  ·subst e
   have h':sz=sz':=by have:=h;simp[r8]at this;exact this.2
   subst h'
   exact⟨hz,by rw[hH];simp,arr,T,hw,hsz,by have:=h;simp[r8]at this;rw[←this];trivial⟩
  ·exact c.hκ b' o sz' ((j3 _ _ e).symm.trans h)
 ·refine .inl ⟨h,fun hd=>⟨fun b' p sz' hb=>⟨(oκ b' _ hb).trans hb.symm,rfl⟩,fun b' τ hb=>?_⟩⟩
  obtain⟨a1,_⟩:=c.X7 hb h hd
  exact⟨rfl,a1⟩
 ·rw[q18]at h
  split at h
  ·rename_i e
   subst e;cases h
   refine⟨_,w9 _ _ _,fun b' pos' sz' e=>?_⟩
   cases e
   exact⟨⟨l,hH,rfl⟩,w9 _ _ _⟩
  ·rename_i e
   have e':u≠t:=fun h'=>e h'.symm
   obtain⟨y,h1,h2⟩:=c.tok u M h
   refine⟨y,(j3 _ _ e').trans h1,fun b' pos' sz' hy=>?_⟩
   obtain⟨a1,a2⟩:=h2 b' pos' sz' hy
   exact⟨a1,oκ b' _ a2⟩
 ·rw[q1o]
  by_cases e:t=u
  ·simp[e]
  ·have e':u≠t:=fun h'=>e h'.symm
   simp only[e,decide_false,Bool.false_or]
   refine c.tdom u ?_
   simpa[r8,e']using h
theorem z8.y4a (c:z8 Γ w s) {t L:Nat} (hl:s.live t=some L):z8 Γ w {s with tk:=(t,some L)::s.tk}:=by
 refine c.congr (fun _=>rfl) (fun u=>?_) (fun u h=>?_)
 ·rw[q18]
  split
  ·rename_i e;rw[←e,hl]
  ·rfl
 ·rw[q1o,h];simp
theorem q2L (b:Nat):∀(vs:List Value) (o:Nat) (w:World) (arr:Array Value) (T:TypeId) (fr:Nat × Nat),w.heap[b]? =some (.cells arr T fr)→o+vs.length≤arr.size→
  ∃arr',(w.setCells b o vs).heap[b]? =some (.cells arr' T fr)∧arr'.toList=w7 arr.toList o vs
 | [],o,w,arr,T,fr,h,_=>⟨arr,h,by simp[w7]⟩
 |v::vs,o,w,arr,T,fr,h,hl=>by
  have h1:(w.setCell ⟨b,o,none⟩ v).heap[b]? =some (.cells (arr.setIfInBounds o v) T fr):=by
   simp[World.setCell,Array.getElem?_modify,h]
  obtain⟨arr',h2,h3⟩:=q2L b vs (o+1) _ _ T fr h1 (by simp at hl ⊢;omega)
  refine⟨arr',h2,?_⟩
  rw[h3]
  apply List.ext_getElem?
  intro j
  simp only[List.length_cons]at hl
  rw[Q3 (by simp;omega),Q3 (by simp;omega)]
  simp only[List.length_cons,Array.toList_setIfInBounds,List.getElem?_set,Array.length_toList]
  by_cases h4:o+1≤j∧j<o+1+vs.length
  ·rw[if_pos h4,if_pos (by omega),show j-o=(j-(o+1))+1 by omega,List.getElem?_cons_succ]
  ·rw[if_neg h4]
   by_cases h5:o=j
   ·subst h5;rw[if_pos rfl,if_pos (by omega),if_pos (by omega)];simp
   ·rw[if_neg h5,if_neg (by omega)]
theorem q8E (b:Nat):∀(vs:List Value) (o:Nat) (w:World),(w.setCells b o vs).heap.size=w.heap.size
 | [],_,_=>rfl
 |v::vs,o,w=>by rw[World.setCells,q8E b vs];simp[World.setCell]
theorem q2k (b:Nat):∀(vs:List Value) (o:Nat) (w:World) (b':Nat),b'≠b→(w.setCells b o vs).heap[b']? =w.heap[b']?
 | [],_,_,_,_=>rfl
 |v::vs,o,w,b',h=>by
  rw[World.setCells,q2k b vs _ _ b' h]
  have hb:b≠b':=fun e=>h e.symm
  simp[World.setCell,Array.getElem?_modify,hb]
def q4e (o:Oper) (x y:Operand) (t t':TypeId):Prop:=o.op= .call {callee:=.builtin .append,args:=#[x,y],argTypes:=#[t,t']}
theorem q0b {o:Oper} {x y:Operand} {t t':TypeId} (ho:q4e o x y t t') {ρ:Operand→Value} {w w':World} {v:Value}
  (h:(Builtin.append_ #[t,t'] o.type #[ρ x,ρ y]).run P w= .ok v w'):(execOp ρ o).run P w= .ok (.value v) w':=by
 unfold q4e at ho
 unfold execOp
 simp[ho,resolve,invoke,builtin,h]
theorem q0x {t tx T:TypeId} {E:TypeId} {i:TypeInfo} (ht:P.underlying t=some (.slice E)) (hi:P.info? E=some i) {a:Option Addr} {n cap:Nat} {x:Value} {news:List Value} (hs:Src P i.size tx x 0 news w) (h:n≤cap):
  (Builtin.append_ #[t,tx] T #[.slice a n cap,x]).run P w= .ok (.slice a n cap) w:=by
 have hn:news=[]:=List.eq_nil_of_length_eq_zero (by rw[hs.newsLen];simp)
 subst hn
 rcases hs.kind with⟨e',hk⟩|hk <;> cases a <;> simp[Builtin.append_,run_underlying ht,run_underlying hk,sizeOf,typeInfo,hi,hs.len,h,hs.cells,storeCells]
def q5k (P:Program) (s:S) (t':TypeId) (eb:Nat) (e:Ty) (Y:V) (ys:List C):Prop:=
 ((∃E',P.underlying t'=some (.slice E'))∧(Z1 s Y=some (eb,e,ys)∨(Y= .nilc∧ys=[])))∨
 (P.underlying t'=some .string∧Y.isStr∧e= .int .u8∧eb=1∧ys=Y.toStr.map fun b=>C.int b.toNat)
theorem q65 (c:z8 Γ w s) {t':TypeId} {Y:V} {v:Value} {eb:Nat} {e:Ty} {ys:List C} (hr:q9 Γ Y v) (h:q5k P s t' eb e Y ys):
  ∃n news,Src P e.size t' v n news w∧ys.length=n∧n≤maxLen∧n*eb≤140737488355328∧∀i c',ys[i]? =some c'→z7 Γ.H e (chunk news (i*e.size) e.size) c':=by
 rcases h with⟨⟨E',hu⟩,h|⟨rfl,rfl⟩⟩|⟨hu,h1,rfl,rfl,rfl⟩
 ·exact z10 c hr h hu
 ·rw[Q6 hr]
  exact⟨0,[],Src.ofNil w hu 0,rfl,Nat.zero_le _,by rw[Nat.zero_mul];exact Nat.zero_le _,fun i c' hi=>by simp at hi⟩
 ·exact y35 hr h1 hu
theorem z00 (c:z8 Γ w s):Γ.κ w.heap.size=none∧Γ.Z w.heap.size=none:=by
 refine⟨?_,?_⟩
 ·cases hh:Γ.κ w.heap.size with
  |none=>rfl
  |some x=>exact absurd (c.κlt (by rw[hh];simp)) (Nat.lt_irrefl _)
 ·cases hh:Γ.Z w.heap.size with
  |none=>rfl
  |some x=>exact absurd (c.Zlt (by rw[hh];simp)) (Nat.lt_irrefl _)
theorem q6J (hP:x4 P=true) (c:z8 Γ w s) {o:Oper} {a:Act} {x y:Operand} {t t':TypeId} {n:Nat} {X Y:V} {ys:List C} {eb:Nat} {e:Ty} (ho:q4e o x y t t')
  (ht:ty P t= .slice eb e) (hz:b9 P (y7 P t)=true) (hn:s.known n=false)
  (hx:q9 Γ X (a.eval x)) (hX:X= .nilc∨∃eb' e',X= .emp eb' e') (hy:q9 Γ Y (a.eval y)) (hel:q5k P s t' eb e Y ys):
  w6 P o a w (u5 Γ w {s with tk:=(n,some ys.length)::s.tk} (.sl eb e ys n)):=by
 obtain⟨hu,he,heb,hE⟩:=q1e hP ht
 obtain⟨a0,hx0⟩:∃a0,a.eval x= .slice a0 0 0:=by
  rcases hX with rfl|⟨eb',e',rfl⟩
  ·exact⟨none,Q6 hx⟩
  ·obtain⟨h1,_⟩:=(w4 rfl rfl).1 hx
   simp only[q8]at h1
   obtain⟨a0,h1⟩:=h1
   exact⟨a0,by simpa using h1⟩
 obtain⟨m,news,hs,r1,r2,r3,r4⟩:=q65 c hy hel
 obtain⟨i,z,hi,hzz,hzo,hzo2⟩:=q21 hz
 have hcz:=H9 hzo
 have hsz:i.size=e.size:=by
  have:=k7 hP 11 (y7 P t)
  rw[he,this];simp[Program.cellsOf,hi]
 have hby:i.bytes=eb:=by rw[heb];simp[Program.bytesOf,hi]
 rw[←hsz]at hs
 by_cases hm:m=0
 ·subst hm
  have hys:ys=[]:=List.eq_nil_of_length_eq_zero r1
  subst hys
  obtain⟨c1,p1,g1⟩:=c.Z0 hn (x:=none) (L:=0) (fun _ _ _ h=>by cases h)
  refine w6.val (v:=.slice a0 0 0) (w':=w) (q0b ho ?_) ⟨_,g1,p1,c1,(w4 rfl rfl).2 ⟨?_,rfl⟩⟩
  ·rw[hx0];exact q0x hu hi hs (Nat.le_refl _)
  ·simp only[q8]
   exact⟨a0,0,0,rfl,v8 rfl (Nat.le_refl _) (Nat.zero_le _) (by rw[Nat.zero_mul];exact Nat.zero_le _) (.inl rfl),none,0,by simp[G.Z0,r8],Nat.le_refl _,fun _=>rfl⟩
 ·have hmx':((0+m:Nat):Int)≤9223372036854775807:=by unfold maxLen at r2;omega
  have hge:=grownCap_ge w (0+m) 0 (y7 P t)
  have hcm:=grownCap_le_maxLen w (0+m) 0 (y7 P t) (by omega)
  have hold:(Builtin.firstCells i.size 0 (.slice a0 0 0)).run P w.drew= .ok ([]:List Value).toArray w.drew:=by
   cases a0 with
   |none=>exact run_firstCells_none w.drew i.size 0 0 0
   |some ad=>exact run_firstCells_some w.drew i.size 0 ad 0 0 [] (by simp) (by simp)
  have run:=run_append_grow_src (P:=P) w t t' o.type _ i z hu hi hzz a0 0 0 [] hold (a.eval y) m news hs (by omega) hmx' (by
   rw[hby];exact growslice_fits (by omega) (by rw[Nat.zero_add];exact r3))
  rw[←hx0]at run
  have he:Ext w (w.drew.alloc (.cells ((([]:List Value)++news).toArray++Builtin.zeroCells z.cells (grownCap w (0+m) 0 (y7 P t)-(0+m))) (y7 P t))):=(Ext.drew w).trans (Ext.alloc _ _)
  have hnew:=heap_alloc_new w.drew (.cells ((([]:List Value)++news).toArray++Builtin.zeroCells z.cells (grownCap w (0+m) 0 (y7 P t)-(0+m))) (y7 P t))
  obtain⟨c1,p1,g1⟩:=c.q0E he (l:=news) (r:=(Builtin.zeroCells z.cells (grownCap w (0+m) 0 (y7 P t)-(0+m))).toList) hnew (by simp)
  obtain⟨k1,k2⟩:=z00 c
  have hzc:z.cells.size=e.size:=by
   have h1:=k7 hP 11 (y7 P t)
   have h2:=q3S hP (y7 P t)
   rw[‹e=_›,h1,←h2,←hcz];simp
  have hnl:news.length=m*e.size:=by rw[hs.newsLen,hsz]
  have hsize:((([]:List Value)++news).toArray++Builtin.zeroCells z.cells (grownCap w (0+m) 0 (y7 P t)-(0+m))).size=grownCap w (0+m) 0 (y7 P t)*e.size:=by
   simp only[List.nil_append,Array.size_append,List.size_toArray,size_zeroCells,hzc,hnl,←Nat.add_mul]
   congr 1;omega
  obtain⟨c2,p2,g2⟩:=c1.Z0 (t:=n) hn (x:=some (w.heap.size,news.length,grownCap w (0+m) 0 (y7 P t)*e.size)) (L:=ys.length) (fun b pos sz h=>by
   cases h
   exact⟨k1,k2,⟨news,w9 _ _ _,rfl⟩,_,_,hnew,hsize⟩)
  refine w6.val (q0b ho run) ⟨_,g1.trans g2,p1.trans p2,c2,(w4 rfl rfl).2 ⟨?_,rfl⟩⟩
  simp only[q8]
  rw[show 0+m=m by omega]at hge hcm ⊢
  refine⟨_,m,_,rfl,v8 r1 hge hcm r3 (.inr ⟨w.heap.size,0,news,rfl,w9 _ _ _,by omega,fun i c' hi=>?_⟩),_,_,w9 _ _ _,Nat.le_refl _,fun _=>⟨rfl,hnl.symm,Nat.le_refl _⟩⟩
  rw[Nat.zero_add]
  exact(r4 i c' hi).mono p1.H
theorem z5w (hP:x4 P=true) (c:z8 Γ w s) {o:Oper} {a:Act} {x y:Operand} {t t':TypeId} {tk:Nat} {Y:V} {cs ys:List C} {eb:Nat} {e:Ty} (ho:q4e o x y t t')
  (ht:ty P t= .slice eb e) (hz:b9 P (y7 P t)=true) (hl:s.live tk=some cs.length)
  (hx:q9 Γ (.sl eb e cs tk) (a.eval x)) (hy:q9 Γ Y (a.eval y)) (hel:q5k P s t' eb e Y ys) (hlen:(cs.length+ys.length)*eb≤140737488355328) (hlen2:cs.length+ys.length≤maxLen):
  w6 P o a w (u5 Γ w {s with tk:=(tk,some (cs.length+ys.length))::s.tk} (.sl eb e (cs++ys) tk)):=by
 obtain⟨hu,he,heb,hE⟩:=q1e hP ht
 obtain⟨m,news,hs,r1,r2,r3,r4⟩:=q65 c hy hel
 obtain⟨n,olds,hso,o1,o2,o3,o4⟩:=z10 (P:=P) (tx:=t) c hx (show Z1 s (.sl eb e cs tk)=some (eb,e,cs) from rfl) hu
 obtain⟨h1,_⟩:=(w4 rfl rfl).1 hx
 simp only[q8]at h1
 obtain⟨aa,n',cap,hv,hrc,x0,L0,hτ,hL1,hL2⟩:=h1
 simp at hv
 obtain⟨x1,hτ1,htok⟩:=c.tok tk _ hl
 rw[hτ]at hτ1;cases hτ1
 have hL2:=hL2 rfl
 obtain⟨_,n1,cap1,e1,_,e2,hle,hcap,hnb,hm⟩:=X8 hrc
 simp at e1
 obtain⟨rfl,rfl,rfl⟩:=e1
 simp only[C.elems]at e2 hm
 have hnn:n=n':=by omega
 subst hnn
 obtain⟨i,z,hi,hzz,hzo,hzo2⟩:=q21 hz
 have hcz:=H9 hzo
 have hsz:i.size=e.size:=by
  have:=k7 hP 11 (y7 P t)
  rw[he,this];simp[Program.cellsOf,hi]
 have hby:i.bytes=eb:=by rw[heb];simp[Program.bytesOf,hi]
 have hzc:z.cells.size=e.size:=by
  have h1:=k7 hP 11 (y7 P t)
  have h2:=q3S hP (y7 P t)
  rw[‹e=_›,h1,←h2,←hcz];simp
 rw[←hsz]at hs hso
 have hnl:news.length=m*e.size:=by rw[hs.newsLen,hsz]
 have hol:olds.length=n*e.size:=by rw[hso.newsLen,hsz]
 by_cases hm0:m=0
 ·subst hm0
  have hys:ys=[]:=List.eq_nil_of_length_eq_zero r1
  subst hys
  refine w6.val (v:=.slice aa n cap) (w':=w) (q0b ho ?_) ⟨Γ,.refl Γ,.refl Γ,?_,?_⟩
  ·rw[hv];exact q0x hu hi hs hle
  ·exact c.y4a (by simpa using hl)
  ·rw[List.append_nil,←hv];exact hx
 ·have hys:0<ys.length:=by omega
  have hlen':(cs++ys).length=n+m:=by rw[List.length_append,o1,r1]
  have hmx:n+m≤maxLen:=by omega
  have hmx':((n+m:Nat):Int)≤9223372036854775807:=by unfold maxLen at hmx;omega
  have hbb:(n+m)*eb≤140737488355328:=by rw[←o1,←r1];exact hlen
  by_cases hroom:n+m≤cap
  · -- in the room behind
   cases x0 with
   |none=>simp only at hL2;omega
   |some y0=>
    obtain⟨b,pos,sz⟩:=y0
    simp only at hL2
    obtain⟨rfl,hpos,hcs⟩:=hL2
    obtain⟨⟨l,hH,hlp⟩,hκ⟩:=htok b pos sz rfl
    obtain⟨hZ,_,arr,T,hw,has,_⟩:=c.hκ b _ _ hκ
    have hfit:n*e.size+m*e.size≤arr.size:=by
     rw[has,←Nat.add_mul];exact Nat.le_trans (Nat.mul_le_mul_right _ hroom) hcs
    have run:=run_append_room_src (P:=P) w t t' o.type _ i hu hi b 0 n cap (a.eval y) m news hs hroom
     (fun j hj=>by
      rw[hnl]at hj
      simp[World.cell?,hw]
      rw[hsz];omega)
     (fun j hj=>by simp[World.frozen?,hw])
    rw[←hv]at run
    rw[Nat.zero_add,hsz]at run
    obtain⟨arr',hw',harr'⟩:=q2L b news (n*e.size) w arr T (0,0) hw (by rw[hnl];exact hfit)
    obtain⟨arr0,T0,fr0,r0,hw0,hl0⟩:=c.hH b l hH
    rw[hw]at hw0;cases hw0
    have hsplit:arr'.toList=l++news++r0.drop news.length:=by
     rw[harr',hl0]
     unfold w7
     rw[hpos,←hlp,List.take_left',List.drop_append,List.drop_eq_nil_of_le (by omega)]
     ·simp
     ·rfl
    obtain⟨Γ',q1,q2,q3,q4,q5⟩:=c.y4q (w':=w.setCells b (n*e.size) news) hl hτ hw' hH hκ hsplit (by rw[←has,←Array.length_toList,←Array.length_toList,harr',b7 (by rw[hnl];simpa using hfit)])
     (fun b' hb'=>q2k b news _ w b' hb') (show cs.length<cs.length+ys.length by omega) (by unfold oof;rw[World.os_setCells,World.output_setCells])
    refine w6.val (q0b ho run) ⟨Γ',q5,q4,q3,(w4 rfl rfl).2 ⟨?_,rfl⟩⟩
    simp only[q8]
    refine⟨_,n+m,cap,rfl,v8 hlen' hroom hcap hbb (.inr ⟨b,0,l++news,rfl,q1,?_,fun j c' hj=>?_⟩),_,_,q2,by rw[List.length_append];exact Nat.le_refl _,fun _=>⟨rfl,?_,hcs⟩⟩
    ·simp only[List.length_append,hnl,hlp];rw[Nat.add_mul];omega
    ·rw[Nat.zero_add]
     have hold:∀i c',cs[i]? =some c'→z7 Γ'.H e (chunk l (i*e.size) e.size) c':=by
      intro i' c'' hi'
      rcases hm with hm|⟨b1,off,l1,e1,hb1,hs1,hc1⟩
      ·have:=(List.getElem?_eq_some_iff.1 hi').1;omega
      ·simp at e1
       obtain⟨rfl,rfl⟩:=e1
       rw[hH]at hb1;cases hb1
       have:=hc1 i' c'' hi'
       rw[Nat.zero_add]at this
       exact this.mono q4.H
     have hnew:∀i c',ys[i]? =some c'→z7 Γ'.H e (chunk news (i*e.size) e.size) c':=fun i c' hi=>(r4 i c' hi).mono q4.H
     have:=q6T (rest:=[]) e2 r1 (by rw[hlp];exact hpos.symm) hnl hold hnew j c' hj
     simpa using this
    ·simp only[List.length_append,hnl,hlp,Nat.add_mul,hpos]
  · -- a new block
   have hge:=grownCap_ge w (n+m) cap (y7 P t)
   have hcm:=grownCap_le_maxLen w (n+m) cap (y7 P t) hmx
   have hold':(Builtin.firstCells i.size n (.slice aa n cap)).run P w.drew= .ok olds.toArray w.drew:=by rw[←hv];exact hso.cellsD
   have run:=run_append_grow_src (P:=P) w t t' o.type _ i z hu hi hzz aa n cap olds hold' (a.eval y) m news hs (by omega) hmx' (by
    rw[hby];exact growslice_fits (by omega) hbb)
   rw[←hv]at run
   have hext:Ext w (w.drew.alloc (.cells ((olds++news).toArray++Builtin.zeroCells z.cells (grownCap w (n+m) cap (y7 P t)-(n+m))) (y7 P t))):=(Ext.drew w).trans (Ext.alloc _ _)
   have hnew:=heap_alloc_new w.drew (.cells ((olds++news).toArray++Builtin.zeroCells z.cells (grownCap w (n+m) cap (y7 P t)-(n+m))) (y7 P t))
   obtain⟨c1,p1,g1⟩:=c.q0E hext (l:=olds++news) (r:=(Builtin.zeroCells z.cells (grownCap w (n+m) cap (y7 P t)-(n+m))).toList) hnew (by simp)
   obtain⟨k1,k2⟩:=z00 c
   have hsize:((olds++news).toArray++Builtin.zeroCells z.cells (grownCap w (n+m) cap (y7 P t)-(n+m))).size=grownCap w (n+m) cap (y7 P t)*e.size:=by
    simp only[Array.size_append,List.size_toArray,List.length_append,size_zeroCells,hzc,hnl,hol,←Nat.add_mul]
    congr 1;omega
   obtain⟨Γ',q1,q2,q3,q4,q5⟩:=c1.y4g (t:=tk) (L':=cs.length+ys.length) (show(Γ.q0E w.heap.size (olds++news)).τ tk=some (x0,cs.length) from hτ) hnew (w9 _ _ _) k1 k2 hsize (by omega)
   refine w6.val (q0b ho run) ⟨Γ',g1.trans q5,p1.trans q4,q3,(w4 rfl rfl).2 ⟨?_,rfl⟩⟩
   simp only[q8]
   have hll:(olds++news).length=(n+m)*e.size:=by rw[List.length_append,hol,hnl,Nat.add_mul]
   refine⟨_,n+m,_,rfl,v8 hlen' hge hcm hbb (.inr ⟨w.heap.size,0,olds++news,rfl,by rw[q1];exact w9 _ _ _,by omega,fun j c' hj=>?_⟩),_,_,q2,by rw[List.length_append];exact Nat.le_refl _,fun _=>⟨rfl,hll.symm,Nat.le_refl _⟩⟩
   rw[Nat.zero_add]
   have hold2:∀i c',cs[i]? =some c'→z7 Γ'.H e (chunk olds (i*e.size) e.size) c':=fun i c' hi=>(o4 i c' hi).mono (p1.trans q4).H
   have hnew2:∀i c',ys[i]? =some c'→z7 Γ'.H e (chunk news (i*e.size) e.size) c':=fun i c' hi=>(r4 i c' hi).mono (p1.trans q4).H
   have:=q6T (rest:=[]) e2 r1 hol hnl hold2 hnew2 j c' hj
   simpa using this
end
end Go.E
namespace Go.E
open Go
theorem q8g {sz:Nat}:∀(vs:List Value) (i:Nat) (v:Value),(∀v∈vs,v.cells.size=sz)→vs[i]? =some v→chunk (vs.flatMap fun v=>v.cells.toList) (i*sz) sz=v.cells.toList
 | [],_,_,_,h=>by simp at h
 |u::vs,0,v,hs,h=>by
  simp at h;subst h
  have:=hs u (by simp)
  simp only[chunk,Nat.zero_mul,List.drop_zero,List.flatMap_cons]
  rw[List.take_append_of_le_length (by simp[this]),List.take_of_length_le (by simp[this])]
 |u::vs,i+1,v,hs,h=>by
  have hu:=hs u (by simp)
  have ih:=q8g vs i v (fun v hv=>hs v (by simp[hv])) (by simpa using h)
  simp only[chunk,List.flatMap_cons]at ih ⊢
  rw[List.drop_append,List.drop_eq_nil_of_le (by simp[hu,Nat.add_mul]),List.nil_append]
  rw[show(i+1)*sz-u.cells.toList.length=i*sz by simp[hu,Nat.add_mul]]
  exact ih
theorem z7i (off:Nat):∀(l:List Value) (k:Nat) (cells:Array Value),off+k+l.length≤cells.size→
  ((l.zipIdx k).foldl (fun cs (p:Value × Nat)=>cs.setIfInBounds (off+p.2) p.1) cells).toList=cells.toList.take (off+k)++l++cells.toList.drop (off+k+l.length)
 | [],k,cells,_=>by simp
 |v::l,k,cells,h=>by
  simp only[List.length_cons]at h
  simp only[List.zipIdx_cons,List.foldl_cons]
  rw[z7i off l (k+1) _ (by simp;omega)]
  have hlt:off+k<cells.toList.length:=by simp;omega
  simp only[Array.toList_setIfInBounds,List.length_cons]
  rw[show off+(k+1)=off+k+1 by omega,List.take_add_one]
  simp only[List.getElem?_set,if_true,hlt]
  rw[List.take_set_of_le (Nat.le_refl _),List.drop_set_of_lt (by omega)]
  rw[show off+k+1+l.length=off+k+(l.length+1) by omega]
  simp
theorem y25 {place:Nat→Option (Nat × Nat)} {cells:Array Value} {i off size:Nat} {v:Value} {rest:List (Nat × Value)} (hp:place i=some (off,size)) (hv:v.cells.size=size) (hl:off+size≤cells.size):
  ∃cells',cells'.toList=w7 cells.toList off v.cells.toList∧Instr.fill place cells ((i,v)::rest)=Instr.fill place cells' rest:=by
 refine⟨v.cells.zipIdx.foldl (fun cs (c,j)=>cs.setIfInBounds (off+j) c) cells,?_,?_⟩
 ·rw[←Array.foldl_toList,Array.toList_zipIdx]
  have:=z7i off v.cells.toList 0 cells (by simp;omega)
  simpa[w7]using this
 ·simp only[Instr.fill,hp]
  rw[if_neg]
  simp[hv]
  omega
def b6 (τ:Ty) (y:V):V:=
 match y,τ with
 | .nilc,.slice eb e=>.emp eb e
 |y,_=>y
def q3J (τ:Ty):V→List (Nat × V)→V
 |x,[]=>x
 |x,(i,v)::rest=>q3J τ (x.setAt [i] (b6 (τ.get i) v)) rest
def q4c (τ:Ty):V→List (Nat × V)→Prop
 |_,[]=>True
 |x,(i,v)::rest=>(τ.child i).isSome=true∧(b6 (τ.get i) v).ty=τ.get i∧(b6 (τ.get i) v).plain=true∧x.at [i]≠.any∧q4c τ (x.setAt [i] (b6 (τ.get i) v)) rest
section
variable {P:Program} {Γ:G} {w w':World} {s:S}
theorem z1O {τ:Ty} {y:V} {v:Value} (h:q9 Γ y v):q9 Γ (b6 τ y) v:=by
 unfold b6
 split
 ·rw[Q6 h];exact q1A
 ·exact h
theorem q4l {T:TypeId} {τ:Ty} (hP:x4 P=true) (ht:ty P T=τ) (hk:τ.known=true) {b off:Nat} {arr:Array Value} {E:TypeId} {fr:Nat × Nat} {w:World}
  (hb:w.heap[b]? =some (.cells arr E fr)) (hl:off+τ.size≤arr.size) (h1:U5 (chunk arr.toList off τ.size)):
  ∃v,(loadVar T ⟨b,off,none⟩).run P w= .ok v w∧v.cells.toList=chunk arr.toList off τ.size∧x9 v=τ.isAgg:=by
 have hno:∀s,τ≠.opq s:=by intro s e;subst e;simp[Ty.known]at hk
 have hagg:=y03 (w:=w) ht hno
 have hsz:=run_sizeOf (w:=w) hP (T:=T) (by intro s e;exact hno s (ht ▸ e))
 rw[ht]at hsz
 unfold loadVar
 cases ha:τ.isAgg with
 |true=>
  have hlen:(chunk arr.toList off τ.size).length=τ.size:=u7 _ _ _ (by simpa using hl)
  have:=run_loadCells_list (P:=P) w ⟨b,off,none⟩ (chunk arr.toList off τ.size) (fun j v hv=>by
   rw[q0v]
   rw[w8]at hv
   split at hv
   ·simp[World.cell?,hb];simpa using hv
   ·cases hv)
  rw[hlen]at this
  refine⟨.agg (chunk arr.toList off τ.size).toArray,?_,by simp[Value.cells],rfl⟩
  simp[hagg,ha,hsz,this]
 |false=>
  have h0:τ.size=1:=Ty.size_leaf hk ha
  have hlt:off<arr.size:=by omega
  have hc:chunk arr.toList off τ.size=[arr[off]]:=by
   rw[h0];simp[chunk,List.drop_eq_getElem_cons (l:=arr.toList) (i:=off) (by simpa using hlt)]
  have hone:arr[off].oneCell'=true:=h1 _ (by rw[hc];simp)
  have hna:x9 arr[off]=false:=by cases hv:arr[off] <;> simp_all[Value.oneCell',x9]
  refine⟨arr[off],?_,by rw[x6 hna,hc],hna⟩
  have hcell:w.cell? ⟨b,off,none⟩=some arr[off]:=by simp[World.cell?,hb,Array.getElem?_eq_getElem hlt]
  simp[hagg,ha,hcell]
theorem z1z (hP:x4 P=true) (c:z8 Γ w s) {T:TypeId} {k:Key} {q:List Nat} {τ:Ty} {x:V} {v:Value}
  (hr:q9 Γ (.ptr k q τ) v) (ho:s.obj k=some (.box x)) (hne:x.at q≠.any) (ht:τ=ty P T) (hk:τ.known=true):
  ∃u,(Instr.loadAt T v).run P w= .ok u w∧q9 Γ (view (x.at q)) u:=by
 obtain⟨b,τ0,o,h1,h2,rfl⟩:=X9 hr
 obtain⟨b',cells,E,e1,_,_,hb,hsz,hrep,hxp,_⟩:=c.own (by assumption) ho
 rw[h1]at e1
 cases e1
 obtain⟨g1,g2,g3⟩:=hrep.at_ h2 hne hxp
 have hcl:(chunk cells.toList 0 x.ty.size).length=x.ty.size:=u7 _ _ _ (by simpa using hsz)
 rw[hcl]at g2
 have hch:chunk (chunk cells.toList 0 x.ty.size) o τ.size=chunk cells.toList o τ.size:=by rw[o7 _ _ _ _ _ g2,Nat.zero_add]
 rw[hch]at g3
 have hpl:=V.q13 g3 hne
 obtain⟨u,r1,r2,r3⟩:=q4l (T:=T) (E:=E) (fr:=(0,0)) hP ht.symm hk hb (by omega) (g3.one hpl)
 refine⟨u,?_,(y8 (by rw[z9q];exact hpl)).2 ⟨?_,by rw[z8B,g1,r3]⟩⟩
 ·simp[Instr.loadAt,Instr.sureAddr,r1]
 ·rw[r2];exact z5W _ g3
theorem z0I:∀{q:List Nat} {τ0 f:Ty} {o:Nat} {i:Nat},τ0.walk (q++[i])=some (o,f)→∃o1 τ o2,τ0.walk q=some (o1,τ)∧τ.child i=some (o2,f)∧o=o1+o2
 | [],τ0,f,o,i,h=>by
  simp only[List.nil_append,Ty.walk]at h
  cases hc:τ0.child i with
  |none=>rw[hc]at h;cases h
  |some x=>
   obtain⟨o2,f2⟩:=x
   rw[hc]at h
   simp only[Option.some.injEq,Prod.mk.injEq]at h
   obtain⟨rfl,rfl⟩:=h
   exact⟨0,τ0,o2,rfl,hc,by omega⟩
 |j::q,τ0,f,o,i,h=>by
  simp only[List.cons_append,Ty.walk]at h ⊢
  cases hc:τ0.child j with
  |none=>rw[hc]at h;cases h
  |some x=>
   obtain⟨o3,f3⟩:=x
   rw[hc]at h
   simp only at h ⊢
   cases hw:f3.walk (q++[i])with
   |none=>rw[hw]at h;cases h
   |some y=>
    obtain⟨o4,f4⟩:=y
    rw[hw]at h
    simp only[Option.some.injEq,Prod.mk.injEq]at h
    obtain⟨rfl,rfl⟩:=h
    obtain⟨o1,τ,o2,h1,h2,rfl⟩:=z0I hw
    exact⟨o3+o1,τ,o2,by rw[h1],h2,by omega⟩
theorem y2N (hP:x4 P=true) (c:z8 Γ w s) {T:TypeId} {k:Key} {q:List Nat} {lo m M:Nat} {e:Ty} {x:V} {cc:C} {v:Value}
  (hr:q9 Γ (.ptr k (q++[lo]) e) v) (ho:s.obj k=some (.box x)) (hat:x.at q= .d (.arr M e) cc) (ht:ty P T= .arr m e) (hk:(Ty.arr m e).known=true) (hlo:lo+m≤M):
  ∃u,(Instr.loadAt T v).run P w= .ok u w∧q9 Γ (.d (.arr m e) (.agg ((cc.elems.drop lo).take m))) u:=by
 obtain⟨b,τ0,o,h1,h2,rfl⟩:=X9 hr
 obtain⟨b',cells,E,e1,_,_,hb,hsz,hrep,hxp,_⟩:=c.own (by assumption) ho
 rw[h1]at e1
 cases e1
 obtain⟨o1,τ,o2,w1,w2,rfl⟩:=z0I h2
 obtain⟨g1,g2,g3⟩:=hrep.at_ w1 (by rw[hat];simp) hxp
 have hcl:(chunk cells.toList 0 x.ty.size).length=x.ty.size:=u7 _ _ _ (by simpa using hsz)
 rw[hcl]at g2
 have hch:chunk (chunk cells.toList 0 x.ty.size) o1 τ.size=chunk cells.toList o1 τ.size:=by rw[o7 _ _ _ _ _ g2,Nat.zero_add]
 rw[hch,hat]at g3
 rw[hat]at g1
 simp only[V.ty]at g1
 subst g1
 simp only[q8,z7,Ty.size]at g3
 obtain⟨cs,rfl,r1,r2,r3,r4⟩:=g3
 simp only[C.elems]
 simp only[Ty.child]at w2
 split at w2
 ·rename_i hlM
  simp only[Option.some.injEq,Prod.mk.injEq,and_true]at w2
  subst w2
  simp only[Ty.size]at g2
  have hlen:((cs.drop lo).take m).length=m:=by simp;omega
  have hms:(lo+m)*e.size≤M*e.size:=Nat.mul_le_mul_right _ hlo
  rw[Nat.add_mul]at hms
  have hcl2:(chunk cells.toList (o1+lo*e.size) (m*e.size)).length=m*e.size:=u7 _ _ _ (by simp;omega)
  have hel:∀i c,((cs.drop lo).take m)[i]? =some c→z7 Γ.H e (chunk (chunk cells.toList (o1+lo*e.size) (m*e.size)) (i*e.size) e.size) c:=by
   intro i c hi
   rw[List.getElem?_take]at hi
   split at hi
   ·rename_i hin
    rw[List.getElem?_drop]at hi
    have h9:=r4 _ _ hi
    have hle:(i+1)*e.size≤m*e.size:=Nat.mul_le_mul_right _ hin
    rw[Nat.add_mul]at hle
    rw[Nat.add_mul]at h9
    rw[o7 _ _ _ _ _ (by omega)]at h9 ⊢
    rw[show o1+lo*e.size+i*e.size=o1+(lo*e.size+i*e.size) by omega]
    exact h9
   ·cases hi
  have h4:z7 Γ.H (.arr m e) (chunk cells.toList (o1+lo*e.size) (Ty.arr m e).size) (.agg ((cs.drop lo).take m)):=by
   simp only[z7,Ty.size]
   exact⟨_,rfl,hlen,hcl2,z4u hlen hcl2 hel,hel⟩
  obtain⟨u,q1,q2,q3⟩:=q4l (T:=T) (E:=E) (fr:=(0,0)) (off:=o1+lo*e.size) hP ht hk hb (by simp only[Ty.size];omega) h4.one
  refine⟨u,?_,Q0.2 ⟨by rw[q2];exact h4,q3⟩⟩
  simp[Instr.loadAt,Instr.sureAddr,q1]
 ·cases w2
theorem y1e (hP:x4 P=true) (c:z8 Γ w s) {T:TypeId} {τ:Ty} {cc:C} {v:Value}
  (hr:q9 Γ (.cptr τ cc) v) (ht:τ=ty P T) (hk:τ.known=true):
  ∃u,(Instr.loadAt T v).run P w= .ok u w∧q9 Γ (.d τ cc) u:=by
 obtain⟨b,off,l,rfl,h2,h3,h4⟩:=q4M hr
 obtain⟨arr,E,fr,r,hb,hl⟩:=c.hH b l h2
 have hch:chunk arr.toList off τ.size=chunk l off τ.size:=by rw[hl,q1d _ _ _ _ h3]
 have hsz:off+τ.size≤arr.size:=by rw[←Array.length_toList,hl,List.length_append];omega
 obtain⟨u,r1,r2,r3⟩:=q4l (T:=T) hP ht.symm hk hb hsz (by rw[hch];exact h4.one)
 exact⟨u,by simp[Instr.loadAt,Instr.sureAddr,r1],Q0.2 ⟨by rw[r2,hch];exact h4,r3⟩⟩
theorem z9o {cells:Array Value} (h:Y2 F0 cells.toList=true):cells=#[.pointer none,.slice none 0 0]:=by
 apply Array.ext'
 generalize cells.toList=l at h
 simp only[F0,Y2,q04,Bool.and_eq_true,beq_iff_eq,decide_eq_true_eq,Ty.size,chunk]at h
 obtain⟨⟨h1,_⟩,⟨_,h2⟩,⟨_,h3⟩,_⟩:=h
 match l,h1 with
 | [a,b],_=>
  simp only[List.drop_zero,List.take_succ_cons,List.take_zero,List.drop_succ_cons]at h2 h3
  cases a <;> simp[q2W]at h2
  cases b <;> simp[q2W]at h3
  obtain⟨⟨rfl,rfl⟩,rfl⟩:=h3
  subst h2
  rfl
def z6I (τ:Ty) (T:TypeId):O:=bif Ty.beq τ F0 then .it [] T else .box (o5 τ)
theorem y3k (c:z8 Γ w s) {o:Oper} {a:Act} {T:TypeId} {n:Nat} (ho:o.op= .alloc T) (hn:s.obj (.l n)=none) (hz:b9 P T=true):
  w6 P o a w (u5 Γ w {s with loc:=(.l n,z6I (ty P T) T)::s.loc} (.ptr (.l n) [] (ty P T))):=by
 obtain⟨z,hrun,hzo,hag⟩:=z6a hz
 have hlen:=H9 hzo
 cases hB:Ty.beq (ty P T) F0 with
 |true=>
  have e:=(Ty.beq_iff _ _).1 hB
  rw[e]at hzo
  have hz2:z.cells=#[.pointer none,.slice none 0 0]:=z9o hzo
  obtain⟨h1,h2,h3⟩:=c.s9 hn (Ext.alloc w (.cells z.cells T)) (τ:=F0) (o:=.it [] T) fun Γ' hpr _ hι hH hZ=>⟨w.heap.size,.pointer none,.slice none 0 0,hι,hH,hZ,by rw[heap_alloc_new,hz2],.inl rfl,by simp,.inl ⟨rfl,rfl⟩⟩
  simp only[z6I,hB,cond_true]
  rw[e]
  refine w6.val (v:=.pointer (some ⟨w.heap.size,0,none⟩)) (w':=w.alloc (.cells z.cells T)) ?_ ⟨_,h3,h2,h1,(y8 rfl).2 ⟨?_,by simp[V.ty,Ty.isAgg,x9]⟩⟩
  ·unfold execOp
   simp only[ho,Instr.alloc,Sem.run_bind,hrun,Result.andThen_ok]
   simp[newVar,newRow]
  ·simp only[q8]
   exact⟨w.heap.size,F0,0,by simp[G.s9,q0a],rfl,by simp[Value.cells]⟩
 |false=>
 simp only[z6I,hB,cond_false]
 have hX:q8 Γ none [] (o5 (ty P T)) z.cells.toList:=q6g (ty P T) hzo
 have hb:=z0g c hn (T:=T) (x:=o5 (ty P T)) (cells:=z.cells) (Ext.alloc w _) (heap_alloc_new w (.cells z.cells T)) (by rw[q2V,←hlen];simp) (by rw[q2V,←hlen,q2f];exact hX) (q4h _) (z1T _)
 rw[q2V]at hb
 refine w6.val (v:=.pointer (some ⟨w.heap.size,0,none⟩)) (w':=w.alloc (.cells z.cells T)) ?_ hb
 unfold execOp
 simp only[ho,Instr.alloc,Sem.run_bind,hrun,Result.andThen_ok]
 simp[newVar,newRow]
theorem y5x (c:z8 Γ w s) {o:Oper} {a:Act} {T:TypeId} {x:Operand} {n:Nat} {y:V} (ho:o.op= .box T x) (hn:s.obj (.l n)=none) (hr:q9 Γ y (a.eval x)) (hpl:y.plain=true) (hns:y.u0=true):
  w6 P o a w (u5 Γ w {s with loc:=(.l n,.box y)::s.loc} (.ptr (.l n) [] y.ty)):=by
 obtain⟨h1,_⟩:=(y8 hpl).1 hr
 have hlen:=h1.length hpl
 have hb:=z0g c hn (T:=T) (x:=y) (cells:=(a.eval x).cells) (Ext.alloc w _) (heap_alloc_new w (.cells (a.eval x).cells T)) (by rw[←hlen];simp) (by rw[←hlen,q2f];exact h1) hpl hns
 refine w6.val (v:=.pointer (some ⟨w.heap.size,0,none⟩)) (w':=w.alloc (.cells (a.eval x).cells T)) ?_ hb
 unfold execOp
 simp only[ho,Instr.box]
 simp[newVar,newRow]
theorem y4J (c:z8 Γ w s) {o:Oper} {a:Act} {T:TypeId} {x:Operand} {y:V} {cc:C} (ho:o.op= .box T x) (hr:q9 Γ y (a.eval x)) (hpl:y.plain=true) (hc:s7 y=some cc):
  w6 P o a w (u5 Γ w s (.cptr y.ty cc)):=by
 obtain⟨h1,_⟩:=(y8 hpl).1 hr
 have hlen:=h1.length hpl
 obtain⟨c1,p1,g1⟩:=c.q0E (l:=(a.eval x).cells.toList) (r:=[]) (Ext.alloc w _) (heap_alloc_new w (.cells (a.eval x).cells T)) (by simp)
 refine w6.val (v:=.pointer (some ⟨w.heap.size,0,none⟩)) (w':=w.alloc (.cells (a.eval x).cells T)) ?_ ⟨_,g1,p1,c1,q0m (l:=(a.eval x).cells.toList) (w9 _ _ _) (by rw[hlen];omega) ?_⟩
 ·unfold execOp
  simp only[ho,Instr.box]
  simp[newVar,newRow]
 ·have:=(q0P _ h1 hc).mono p1.H
  rw[←hlen,q2f]
  exact this
theorem z8.write (c:z8 Γ w s) {k:Key} {x x':V} {b:Nat} {τ:Ty} {cells':Array Value} {T:TypeId}
  (ho:s.obj k=some (.box x)) (hι:Γ.ι k=some (b,τ)) (hnew:w'.heap[b]? =some (.cells cells' T (0,0))) (hsame:∀b',b'≠b→w'.heap[b']? =w.heap[b']?) (hoo:oof w'=oof w)
  (hsz:x'.ty.size≤cells'.size) (hx:q8 Γ (some k) [] x' (chunk cells'.toList 0 x'.ty.size)) (ht:x'.ty=x.ty) (hp:x'.plain=true) (hns:x'.u0=true)
  (hcs:∀arr T fr,w.heap[b]? =some (.cells arr T fr)→cells'.size=arr.size):
  z8 Γ w' {s with loc:=(k,.box x')::s.loc}:=by
 obtain⟨hH,hZ,hlt,e2⟩:=c.X7 hι ho rfl
 simp only[O.ty]at e2
 refine c.change (.refl Γ) rfl rfl rfl hoo (fun b' l h=>?_) (fun b' h=>hsame b' (fun e=>by subst e;exact h hZ)) (fun b' o sz h=>?_) (fun j o h=>?_) (fun _ h _=>h) (fun j h=>?_) (fun b' sz h=>?_) (c.q5a (q2y fun h=>by rw[j6 ho]at h;cases h)) c.tok c.tdom (q9e hnew hsame)
 ·rw[hsame b' (fun e=>by subst e;rw[hH]at h;cases h)];exact c.hH b' l h
 ·obtain⟨a1,a2,a3⟩:=c.hκ b' o sz h
  rw[hsame b' (fun e=>by subst e;exact a2 hH)];exact⟨a1,a2,a3⟩
 ·rw[u3]at h
  split at h
  ·rename_i e
   subst e;cases h
   exact .inr ⟨b,cells',T,by rw[hι,e2,ht],hH,hZ,hnew,hsz,hx,hp,hns⟩
  ·rename_i e
   refine .inl ⟨h,fun hd=>⟨fun _ _ _ _=>⟨rfl,rfl⟩,fun b' τ' hb=>?_⟩⟩
   obtain⟨a1,a2,a3,_⟩:=c.X7 hb h hd
   refine⟨hsame b' (fun e'=>?_),a1⟩
   subst e'
   exact e (c.z98 hι hb (by rw[j6 ho];rfl) (by rw[j6 h];exact hd))
 ·rw[u3]
  split
  ·simp
  ·exact c.dom j h
 ·obtain⟨arr,T1,fr,a1,a2⟩:=c.hσ b' sz h
  by_cases e:b'=b
  ·subst e
   exact⟨cells',T,(0,0),hnew,by rw[hcs _ _ _ a1];exact a2⟩
  ·exact⟨arr,T1,fr,by rw[hsame b' e];exact a1,a2⟩
theorem z6b {T:TypeId} {τ:Ty} (hP:x4 P=true) (ht:ty P T=τ) (hk:τ.known=true) {b off:Nat} {arr:Array Value} {E:TypeId} {v:Value}
  (hb:w.heap[b]? =some (.cells arr E (0,0))) (hl:off+τ.size≤arr.size) (hv:v.cells.toList.length=τ.size) (h1:U5 v.cells.toList):
  (storeVar T ⟨b,off,none⟩ v).run P w= .ok () (w.setRow b (w7 arr.toList off v.cells.toList).toArray):=by
 have hsz:=run_sizeOf (w:=w) hP (T:=T) (by intro s e;rw[ht]at e;subst e;simp[Ty.known]at hk)
 rw[ht]at hsz
 have hv':v.cells.size=τ.size:=by simpa using hv
 have hst:=run_storeCells_at P b off E v.cells.toList 0 arr w hb (by simp;omega) h1
 simp only[Nat.add_zero]at hst
 simp[storeVar,hsz,hv',hst,w7]
theorem q8D (vs ws:List Value) {o n:Nat} (h:o+ws.length≤n) (hn:n≤vs.length):chunk (w7 vs o ws) 0 n=w7 (chunk vs 0 n) o ws:=by
 apply List.ext_getElem?
 intro i
 have hl:(chunk vs 0 n).length=n:=u7 _ _ _ (by omega)
 rw[w8,Q3 (by omega),Q3 (by omega),w8]
 simp only[Nat.zero_add]
 by_cases hi:i<n
 ·rw[if_pos hi,if_pos hi]
 ·rw[if_neg hi,if_neg (by omega),if_neg hi]
theorem z7B (hP:x4 P=true) (c:z8 Γ w s) {o:Oper} {a:Act} {t:TypeId} {l cp:Operand} {L Cp:V} {k1 k2:IntKind} {nl nc:Nat} {n:Nat} {eb:Nat} {e:Ty}
  (ho:o.op= .makeSlice t l cp) (ht:ty P t= .slice eb e) (hz:b9 P (y7 P t)=true) (hn:s.obj (.l n)=none)
  (hl:a.eval l= .int k1 nl) (hc:a.eval cp= .int k2 nc) (h1:nl≤nc) (h2:nc≤maxLen) (hb:nc*eb≤140737488355328) (hes:e.size≠0) {cpv:Option Nat} (hcpv:∀c,cpv=some c→nc=c):
  w6 P o a w (u5 Γ w {s with loc:=(.l n,.box (.d (.arr nl e) (.agg (List.replicate nl (u9 e)))))::s.loc} (.sr (.l n) [] 0 nl cpv eb e)):=by
 obtain⟨hu,he,heb,hE⟩:=q1e hP ht
 obtain⟨i,z,hi,hzz,hzo,hzo2⟩:=q21 hz
 have hcz:=H9 hzo
 have hsz:i.size=e.size:=by
  have:=k7 hP 11 (y7 P t)
  rw[he,this];simp[Program.cellsOf,hi]
 have hby:i.bytes=eb:=by rw[heb];simp[Program.bytesOf,hi]
 have hzc:z.cells.size=e.size:=by
  have h1:=k7 hP 11 (y7 P t)
  have h2:=q3S hP (y7 P t)
  rw[he,h1,←h2,←hcz];simp
 have w1:IntKind.i64.wrap (nl:Int)=nl:=IntWalk.i64_in _ (by unfold maxLen at h2;omega)
 have w2:IntKind.i64.wrap (nc:Int)=nc:=IntWalk.i64_in _ (by unfold maxLen at h2;omega)
 have hb':¬(281474976710656:Int)<(eb:Int)*(nc:Int):=by
  have:(eb:Int)*(nc:Int)=((nc*eb:Nat):Int):=by rw[Int.mul_comm];push_cast;rfl
  rw[this];omega
 have hrun:(Instr.makeSlice t (a.eval l) (a.eval cp)).run P w= .ok (.slice (some ⟨w.heap.size,0,none⟩) nl nc) (w.alloc (.cells ((Array.range (nc*e.size)).map (z.cells[· %z.cells.size]!)) (y7 P t))):=by
  by_cases h0:nc=0
  ·subst h0
   have:nl=0:=by omega
   subst this
   have h00:(Array.map (fun _=>(default:Value)) (Array.range 0))=#[]:=by apply Array.eq_empty_of_size_eq_zero;simp
   have h01:(Array.map (fun x=>z.cells[x%z.cells.size]!) (Array.range 0))=#[]:=by apply Array.eq_empty_of_size_eq_zero;simp
   have w0:IntKind.i64.wrap 0=0:=by decide
   simp[Instr.makeSlice,hl,hc,run_underlying hu,asInt,asIntOf,typeInfo,hi,w0,sizeOf,hsz,newRow,h00,h01]
  ·have h3:¬(nc*e.size=0):=Nat.mul_ne_zero h0 hes
   have h4:¬((nc:Int)<(nl:Int)):=by omega
   have h5:¬((nc:Int)<0):=by omega
   have h6:¬((nl:Int)<0):=by omega
   simp[Instr.makeSlice,hl,hc,run_underlying hu,asInt,asIntOf,typeInfo,hi,w1,w2,sizeOf,hsz,newRow,h3,hby,hb',h4,h5,h6,zeroValue,hzz]
 have hsize:((Array.range (nc*e.size)).map (z.cells[· %z.cells.size]!)).size=nc*e.size:=by rw[Array.size_map,Array.size_range]
 have hnl:nl*e.size≤nc*e.size:=Nat.mul_le_mul_right _ h1
 have hX:∀j,j<nl→chunk ((Array.range (nc*e.size)).map (z.cells[· %z.cells.size]!)).toList (j*e.size) e.size=z.cells.toList:=by
  intro j hlt
  apply List.ext_getElem?
  intro q
  rw[w8]
  have hb2:(j+1)*e.size≤nc*e.size:=Nat.mul_le_mul_right _ (by omega)
  rw[Nat.add_mul]at hb2
  split
  ·rename_i hq
   have e1:(j*e.size+q)%z.cells.size=q:=by rw[hzc,Nat.add_comm,Nat.add_mul_mod_self_right,Nat.mod_eq_of_lt hq]
   rw[Array.toList_map,List.getElem?_map,Array.toList_range,List.getElem?_range (by omega)]
   simp only[Option.map_some,e1]
   have:q<z.cells.size:=by omega
   simp[getElem!_pos z.cells q this]
  ·rw[List.getElem?_eq_none (by simp;omega)]
 have hrep:q8 Γ none [] (.d (.arr nl e) (.agg (List.replicate nl (u9 e)))) (chunk ((Array.range (nc*e.size)).map (z.cells[· %z.cells.size]!)).toList 0 (V.d (.arr nl e) (.agg (List.replicate nl (u9 e)))).ty.size):=by
  simp only[q8,V.ty,Ty.size]
  have hlen:(chunk ((Array.range (nc*e.size)).map (z.cells[· %z.cells.size]!)).toList 0 (nl*e.size)).length=nl*e.size:=u7 _ _ _ (by simp only[Array.length_toList,hsize];omega)
  have hel:∀i c',(List.replicate nl (u9 e))[i]? =some c'→z7 Γ.H e (chunk (chunk ((Array.range (nc*e.size)).map (z.cells[· %z.cells.size]!)).toList 0 (nl*e.size)) (i*e.size) e.size) c':=by
   intro i c' hi
   rw[List.getElem?_replicate]at hi
   split at hi
   ·rename_i hlt
    cases hi
    have hb2:(i+1)*e.size≤nl*e.size:=Nat.mul_le_mul_right _ hlt
    rw[Nat.add_mul]at hb2
    rw[o7 _ _ _ _ _ (by omega),Nat.zero_add,hX i hlt,he]
    exact Z6 hzo2
   ·cases hi
  simp only[z7]
  exact⟨_,rfl,by simp,hlen,q09 (by simp) hlen hel,hel⟩
 obtain⟨Γ',q1,q2,q3,q4⟩:=z0g c hn (T:=y7 P t) (Ext.alloc w _) (heap_alloc_new w (.cells ((Array.range (nc*e.size)).map (z.cells[· %z.cells.size]!)) (y7 P t))) (by rw[hsize];exact hnl) hrep rfl rfl
 obtain⟨y1,y2,y3⟩:=q3.q5h (heap_alloc_new w (.cells ((Array.range (nc*e.size)).map (z.cells[· %z.cells.size]!)) (y7 P t)))
 refine w6.val (v:=.slice (some ⟨w.heap.size,0,none⟩) nl nc) (w':=w.alloc (.cells ((Array.range (nc*e.size)).map (z.cells[· %z.cells.size]!)) (y7 P t))) ?_ ⟨_,q1.trans y3,q2.trans y2,y1,?_⟩
 ·unfold execOp
  simp only[ho,Sem.run_bind,hrun,Result.andThen_ok,Sem.run_pure]
 ·obtain⟨b,τ0,o',r1,r2,r3⟩:=X9 q4
  simp at r3
  obtain⟨rfl,rfl⟩:=r3
  exact q5m (show(G.q5h Γ' _ _).ι (.l n)=_ from r1) r2 (by omega) (.inr (by simp)) h1 h2 (Nat.le_trans (Nat.mul_le_mul_right _ h1) hb) hcpv (fun _=>.inr ⟨_,w9 _ _ _,by rw[hsize,Nat.zero_add,Nat.zero_add];exact Nat.le_refl _⟩)
theorem z3g (hP:x4 P=true) (w:World) (a:Act) {t:TypeId} {len:Nat} {parts:Array (Nat × Operand)} {eb:Nat} {e:Ty}
  (ht:ty P t= .slice eb e) (hz:b9 P (y7 P t)=true) (hlen:0<len) (hes:e.size≠0) (hsmall:len*e.size≤16777216)
  (hidx:parts.toList.map (·.1)=List.range len) (hsizes:∀v∈(parts.toList.map fun x=>a.eval x.2),v.cells.size=e.size):
  (Instr.buildSlice t len (parts.map fun(i,x)=>(i,a.eval x))).run P w= .ok (.slice (some ⟨w.heap.size,0,none⟩) len len) (w.alloc (.cells ((parts.toList.map fun x=>a.eval x.2).flatMap fun v=>v.cells.toList).toArray (y7 P t)))∧
  ((parts.toList.map fun x=>a.eval x.2).flatMap fun v=>v.cells.toList).length=len*e.size:=by
 obtain⟨hu,he,heb,hE⟩:=q1e hP ht
 obtain⟨i,z,hi,hzz,hzo,hzo2⟩:=q21 hz
 have hcz:=H9 hzo
 have hsz:i.size=e.size:=by
  have:=k7 hP 11 (y7 P t)
  rw[he,this];simp[Program.cellsOf,hi]
 have hzc:z.cells.size=e.size:=by
  have h1:=k7 hP 11 (y7 P t)
  have h2:=q3S hP (y7 P t)
  rw[he,h1,←h2,←hcz];simp
 have hpl:parts.toList.length=len:=by have:=congrArg List.length hidx;simpa using this
 have hvs:(parts.map fun(i,x)=>(i,a.eval x)).toList=((parts.toList.map fun x=>a.eval x.2).zipIdx 0).map fun x=>(x.2,x.1):=by
  apply List.ext_getElem?
  intro j
  simp only[Array.toList_map,List.getElem?_map,List.getElem?_zipIdx]
  cases hj:parts.toList[j]? with
  |none=>simp
  |some x=>
   have:(parts.toList.map (·.1))[j]? =some x.1:=by simp[hj]
   rw[hidx]at this
   have hlt:j<len:=by rw[←hpl];exact(List.getElem?_eq_some_iff.1 hj).1
   simp[List.getElem?_range hlt]at this
   simp[this]
 have hf:=Great.fill_whole (s:=e.size) (by omega) (parts.toList.map fun x=>a.eval x.2) ((Array.range (len*e.size)).map (z.cells[· %z.cells.size]!)) hsizes (by simp[hpl])
 have run:=run_buildSlice (P:=P) w t (y7 P t) len (parts.map fun(i,x)=>(i,a.eval x)) _ i z hu hi hzz (by rw[hsz];omega) (by rw[hsz];exact Nat.mul_ne_zero (by omega) hes) (by rw[hsz,hvs];exact hf)
 refine⟨run,?_⟩
 simp only[List.length_flatMap]
 have:(List.map (fun v=>v.cells.toList.length) (parts.toList.map fun x=>a.eval x.2))=List.replicate len e.size:=by
  apply List.eq_replicate_iff.2
  refine⟨by simp[hpl],fun b hb=>?_⟩
  obtain⟨v,hv,rfl⟩:=List.mem_map.1 hb
  simpa using hsizes v hv
 rw[this];simp
theorem q7G (hP:x4 P=true) (c:z8 Γ w s) {o:Oper} {a:Act} {t:TypeId} {len:Nat} {parts:Array (Nat × Operand)} {cs:List C} {eb:Nat} {e:Ty}
  (ho:o.op= .buildSlice t len parts) (ht:ty P t= .slice eb e) (hz:b9 P (y7 P t)=true) (hlen:0<len) (hes:e.size≠0) (hsmall:len*e.size≤16777216) (hb:len*eb≤140737488355328)
  (hidx:parts.toList.map (·.1)=List.range len) (hcs:cs.length=len)
  (hx:∀(i:Nat) (x:Nat × Operand) (cc:C),parts.toList[i]? =some x→cs[i]? =some cc→q9 Γ (.d e cc) (a.eval x.2)):
  w6 P o a w (fun v w'=>(∃ad,v= .slice ad len len)∧u5 Γ w s (.d (.slice eb e) (.slice cs)) v w'):=by
 have hpl:parts.toList.length=len:=by have:=congrArg List.length hidx;simpa using this
 have hrep:∀(j:Nat) (v:Value),(parts.toList.map fun x=>a.eval x.2)[j]? =some v→∃cc,cs[j]? =some cc∧q9 Γ (.d e cc) v:=by
  intro j v hj
  simp only[List.getElem?_map]at hj
  cases hx':parts.toList[j]? with
  |none=>simp[hx']at hj
  |some x=>
   simp[hx']at hj
   have hlt:j<len:=by rw[←hpl];exact(List.getElem?_eq_some_iff.1 hx').1
   have hcj:cs[j]? =some cs[j]:=List.getElem?_eq_getElem (by omega)
   exact⟨_,hcj,hj ▸ hx j x _ hx' hcj⟩
 have hsizes:∀v∈(parts.toList.map fun x=>a.eval x.2),v.cells.size=e.size:=by
  intro v hv
  obtain⟨j,hj⟩:=List.mem_iff_getElem?.1 hv
  obtain⟨cc,_,hr⟩:=hrep j v hj
  have:=(Q0.1 hr).1.length
  simpa using this
 obtain⟨run,hflen⟩:=z3g hP w a ht hz hlen hes hsmall hidx hsizes
 obtain⟨c1,p1,g1⟩:=c.q0E (Ext.alloc w _) (l:=(parts.toList.map fun x=>a.eval x.2).flatMap fun v=>v.cells.toList) (r:=[]) (heap_alloc_new w (.cells ((parts.toList.map fun x=>a.eval x.2).flatMap fun v=>v.cells.toList).toArray (y7 P t))) (by simp)
 refine w6.val (v:=.slice (some ⟨w.heap.size,0,none⟩) len len) (w':=w.alloc (.cells ((parts.toList.map fun x=>a.eval x.2).flatMap fun v=>v.cells.toList).toArray (y7 P t))) ?_ ⟨⟨_,rfl⟩,_,g1,p1,c1,q0G (v8 hcs (Nat.le_refl _) (by have:=Nat.le_mul_of_pos_right len (Nat.pos_of_ne_zero hes);unfold maxLen;omega) hb (.inr ⟨w.heap.size,0,_,rfl,w9 _ _ _,by rw[hflen];omega,fun j c' hj=>?_⟩))⟩
 ·unfold execOp
  simp only[ho,Sem.run_bind,run,Result.andThen_ok,Sem.run_pure]
 ·have hlt:j<len:=by rw[←hcs];exact(List.getElem?_eq_some_iff.1 hj).1
  have hv:(parts.toList.map fun x=>a.eval x.2)[j]? =some ((parts.toList.map fun x=>a.eval x.2)[j]'(by simp[hpl];omega)):=List.getElem?_eq_getElem _
  obtain⟨cc,hcc,hr⟩:=hrep j _ hv
  rw[hj]at hcc;cases hcc
  have:=q8g _ j _ hsizes hv
  rw[Nat.zero_add,this]
  exact(Q0.1 hr).1.mono p1.H
theorem z6e {Γ:G} {τ:Ty} {cells:List Value}:∀(xs:List V) (p:List Nat) (i:Nat),(∀(j:Nat) y,xs[j]? =some y→∃o f,τ.child (i+j)=some (o,f)∧y.ty=f∧o+f.size≤cells.length∧q8 Γ none [] y (chunk cells o f.size))→y4 Γ none p i τ xs cells
 | [],_,_,_=>by simp only[y4]
 |x::xs,p,i,h=>by
  simp only[y4]
  obtain⟨o,f,h1,h2,h3,h4⟩:=h 0 x rfl
  exact⟨⟨o,f,h1,h2,h3,h4.c5⟩,z6e xs p (i+1) fun j y hy=>by rw[show i+1+j=i+(j+1) by omega];exact h (j+1) y hy⟩
theorem z38 (hP:x4 P=true) (c:z8 Γ w s) {o:Oper} {a:Act} {t:TypeId} {len:Nat} {parts:Array (Nat × Operand)} {vs:List V} {eb:Nat} {e:Ty} {n:Nat} (hn:s.obj (.l n)=none)
  (ho:o.op= .buildSlice t len parts) (ht:ty P t= .slice eb e) (hz:b9 P (y7 P t)=true) (hlen:0<len) (hes:e.size≠0) (hsmall:len*e.size≤16777216) (hb:len*eb≤140737488355328)
  (hidx:parts.toList.map (·.1)=List.range len) (hcs:vs.length=len)
  (hx:∀(i:Nat) (x:Nat × Operand) (y:V),parts.toList[i]? =some x→vs[i]? =some y→q9 Γ y (a.eval x.2)) (hy:∀y∈vs,y.ty=e∧y.plain=true) (hns:V.c6 vs=true):
  w6 P o a w (u5 Γ w {s with loc:=(.l n,.box (.agg (.arr len e) vs))::s.loc} (.sr (.l n) [] 0 len (some len) eb e)):=by
 have hpl:parts.toList.length=len:=by have:=congrArg List.length hidx;simpa using this
 have hrep:∀(j:Nat) (v:Value),(parts.toList.map fun x=>a.eval x.2)[j]? =some v→∃y,vs[j]? =some y∧y.ty=e∧y.plain=true∧q8 Γ none [] y v.cells.toList:=by
  intro j v hj
  simp only[List.getElem?_map]at hj
  cases hx':parts.toList[j]? with
  |none=>simp[hx']at hj
  |some x=>
   simp[hx']at hj
   have hlt:j<len:=by rw[←hpl];exact(List.getElem?_eq_some_iff.1 hx').1
   have hcj:vs[j]? =some vs[j]:=List.getElem?_eq_getElem (by omega)
   obtain⟨h1,h2⟩:=hy _ (List.mem_of_getElem? hcj)
   exact⟨_,hcj,h1,h2,hj ▸ ((y8 h2).1 (hx j x _ hx' hcj)).1⟩
 have hsizes:∀v∈(parts.toList.map fun x=>a.eval x.2),v.cells.size=e.size:=by
  intro v hv
  obtain⟨j,hj⟩:=List.mem_iff_getElem?.1 hv
  obtain⟨y,_,h1,h2,hr⟩:=hrep j v hj
  have:=hr.length h2
  rw[h1]at this
  simpa using this
 obtain⟨run,hflen⟩:=z3g hP w a ht hz hlen hes hsmall hidx hsizes
 have hone:U5 ((parts.toList.map fun x=>a.eval x.2).flatMap fun v=>v.cells.toList):=by
  intro u hu
  obtain⟨v,hv,hu⟩:=List.mem_flatMap.1 hu
  obtain⟨j,hj⟩:=List.mem_iff_getElem?.1 hv
  obtain⟨y,_,_,h2,hr⟩:=hrep j v hj
  exact hr.one h2 u hu
 have hX:q8 Γ none [] (.agg (.arr len e) vs) ((parts.toList.map fun x=>a.eval x.2).flatMap fun v=>v.cells.toList):=by
  simp only[q8]
  refine⟨hflen,hone,hcs,rfl,z6e _ _ _ fun j y hj=>?_⟩
  have hlt:j<len:=by rw[←hcs];exact(List.getElem?_eq_some_iff.1 hj).1
  have hv:(parts.toList.map fun x=>a.eval x.2)[j]? =some ((parts.toList.map fun x=>a.eval x.2)[j]'(by simp[hpl];omega)):=List.getElem?_eq_getElem _
  obtain⟨y',hy',h1,h2,hr⟩:=hrep j _ hv
  rw[hj]at hy';cases hy'
  have:=q8g _ j _ hsizes hv
  have hm:(j+1)*e.size≤len*e.size:=Nat.mul_le_mul_right _ hlt
  rw[Nat.add_mul]at hm
  refine⟨j*e.size,e,by simp only[Ty.child,Nat.zero_add];rw[if_pos hlt],h1,by rw[hflen];omega,?_⟩
  rw[this]
  exact hr
 obtain⟨Γ',q1,q2,q3,q4⟩:=z0g c hn (T:=y7 P t) (Ext.alloc w _) (heap_alloc_new w (.cells ((parts.toList.map fun x=>a.eval x.2).flatMap fun v=>v.cells.toList).toArray (y7 P t)))
  (x:=.agg (.arr len e) vs) (by rw[List.size_toArray,hflen];exact Nat.le_refl _) (by rw[show(V.agg (.arr len e) vs).ty.size=((parts.toList.map fun x=>a.eval x.2).flatMap fun v=>v.cells.toList).length from hflen.symm,List.toList_toArray,q2f];exact hX) rfl hns
 refine w6.val (v:=.slice (some ⟨w.heap.size,0,none⟩) len len) (w':=w.alloc (.cells ((parts.toList.map fun x=>a.eval x.2).flatMap fun v=>v.cells.toList).toArray (y7 P t))) ?_ ⟨Γ',q1,q2,q3,?_⟩
 ·unfold execOp
  simp only[ho,Sem.run_bind,run,Result.andThen_ok,Sem.run_pure]
 ·obtain⟨b,τ0,o',r1,r2,r3⟩:=X9 q4
  simp at r3
  obtain⟨rfl,rfl⟩:=r3
  exact q5m (show Γ'.ι (.l n)=_ from r1) r2 (by omega) (.inr (by simp)) (Nat.le_refl _) (by have:=Nat.le_mul_of_pos_right len (Nat.pos_of_ne_zero hes);unfold maxLen;omega) hb (fun c h=>by cases h;rfl) (fun h=>by cases h)
theorem z5u (hP:x4 P=true) (c:z8 Γ w s) {o:Oper} {a:Act} {t:TypeId} {len:Nat} {parts:Array (Nat × Operand)} {cs:List C} {eb:Nat} {e:Ty}
  (ho:o.op= .buildSlice t len parts) (ht:ty P t= .slice eb e) (hz:b9 P (y7 P t)=true) (hlen:0<len) (hes:e.size≠0) (hsmall:len*e.size≤16777216) (hb:len*eb≤140737488355328)
  (hidx:parts.toList.map (·.1)=List.range len) (hcs:cs.length=len)
  (hx:∀(i:Nat) (x:Nat × Operand) (cc:C),parts.toList[i]? =some x→cs[i]? =some cc→q9 Γ (.d e cc) (a.eval x.2)):
  w6 P o a w (u5 Γ w s (.d (.slice eb e) (.slice cs))):=
 (q7G hP c ho ht hz hlen hes hsmall hb hidx hcs hx).mono fun _ _ h=>h.2
theorem z36 (hP:x4 P=true) (c:z8 Γ w s) {o:Oper} {a:Act} {t:TypeId} {len:Nat} {parts:Array (Nat × Operand)} {cs:List C} {eb:Nat} {e:Ty} {n:Nat} (hn:s.known n=false)
  (ho:o.op= .buildSlice t len parts) (ht:ty P t= .slice eb e) (hz:b9 P (y7 P t)=true) (hlen:0<len) (hes:e.size≠0) (hsmall:len*e.size≤16777216) (hb:len*eb≤140737488355328)
  (hidx:parts.toList.map (·.1)=List.range len) (hcs:cs.length=len)
  (hx:∀(i:Nat) (x:Nat × Operand) (cc:C),parts.toList[i]? =some x→cs[i]? =some cc→q9 Γ (.d e cc) (a.eval x.2)):
  w6 P o a w (u5 Γ w {s with tk:=(n,some cs.length)::s.tk} (.sl eb e cs n)):=by
 refine(q7G hP c ho ht hz hlen hes hsmall hb hidx hcs hx).mono ?_
 rintro v w' ⟨⟨ad,rfl⟩,Γ',g1,p1,c1,hr⟩
 obtain⟨c2,p2,g2⟩:=c1.Z0 hn (x:=none) (L:=cs.length) (fun _ _ _ h=>by cases h)
 refine⟨_,g1.trans g2,p1.trans p2,c2,(w4 rfl rfl).2 ⟨?_,rfl⟩⟩
 obtain⟨h1,_⟩:=(w4 rfl rfl).1 (hr.o8 p2)
 simp only[q8]at h1 ⊢
 exact⟨ad,len,len,rfl,h1,none,cs.length,by simp[G.Z0,r8],Nat.le_refl _,fun _=>rfl⟩
theorem z39 (hP:x4 P=true) (c:z8 Γ w s) {o:Oper} {a:Act} {t:TypeId} {eb:Nat} {e:Ty} (ho:o.op= .buildSlice t 0 #[]) (ht:ty P t= .slice eb e):
  w6 P o a w (u5 Γ w s (.emp eb e)):=by
 obtain⟨hu,he,heb,hE⟩:=q1e hP ht
 have hz:=J7 (f:=11) hP (w:=w) hE
 refine w6.val (v:=.slice (some ⟨w.heap.size,0,none⟩) 0 0) (w':=w.alloc (.cells #[] (y7 P t))) ?_ (.ext c (Ext.alloc _ _) q1A)
 have h0:(Array.map (fun _=>(default:Value)) (Array.range 0))=#[]:=by apply Array.eq_empty_of_size_eq_zero;simp
 unfold execOp
 simp[ho,Instr.buildSlice,run_underlying hu,hz,Instr.fill,newRow,h0]
theorem z1J {place:Nat→Option (Nat × Nat)} {τ:Ty} (hd:τ.W4=true) (hpl:∀i o f,τ.child i=some (o,f)→place i=some (o,f.size)) {ρ:Operand→V} {ev:Operand→Value}:
  ∀(L:List (Nat × Operand)) (x:V) (cells:Array Value),q8 Γ none [] x cells.toList→x.ty=τ→x.plain=true→(∀p∈L,q9 Γ (ρ p.2) (ev p.2))→q4c τ x (L.map fun p=>(p.1,ρ p.2))→
  ∃cells',Instr.fill place cells (L.map fun p=>(p.1,ev p.2))=some cells'∧q8 Γ none [] (q3J τ x (L.map fun p=>(p.1,ρ p.2))) cells'.toList∧(q3J τ x (L.map fun p=>(p.1,ρ p.2))).ty=τ∧(q3J τ x (L.map fun p=>(p.1,ρ p.2))).plain=true
 | [],x,cells,hx,ht,hp,_,_=>⟨cells,rfl,hx,ht,hp⟩
 |(i,y)::L,x,cells,hx,ht,hp,hr,hok=>by
  simp only[List.map_cons,q4c]at hok
  obtain⟨h1,h2,h3,h4,h6⟩:=hok
  obtain⟨⟨o,f⟩,hc⟩:=Option.isSome_iff_exists.1 h1
  have hf:=q4W hc
  rw[hf]at h2 h3 h6
  have hy:=z1O (τ:=f) (hr (i,y) (by simp))
  obtain⟨q1,q2⟩:=(y8 h3).1 hy
  have hwalk:x.ty.walk [i]=some (o,(b6 f (ρ y)).ty):=by rw[ht,h2];simp[Ty.walk,hc]
  obtain⟨g1,g2,_⟩:=hx.at_ hwalk h4 hp
  have hlen:=q1.length h3
  rw[h2]at hlen g2
  have q3:q8 Γ none ([]++[i]) (b6 f (ρ y)) (ev y).cells.toList:=q1.c5
  obtain⟨r1,r2,r3⟩:=q8.setAt hx hp (by rw[ht];exact hd) hwalk h4 q3 h3
  obtain⟨cells',e1,e2⟩:=y25 (rest:=L.map fun p=>(p.1,ev p.2)) (hpl i o f hc) (by simpa using hlen) (by simpa using g2)
  simp only[List.map_cons,e2,q3J,hf]
  exact z1J hd hpl L _ cells' (by rw[e1];exact r1) (by rw[r2,ht]) r3 (fun p hp'=>hr p (by simp[hp'])) h6
theorem z8e {gs:List Field}:∀{places:List (Nat × Nat)} {j:Nat} {g:Field},gs.mapM (fun f=>(P.info? f.type).map fun i=>(f.offset,i.size))=some places→gs[j]? =some g→places[j]? =some (g.offset,P.cellsOf g.type):=by
 induction gs with
 |nil=>intro places j g _ hj;simp at hj
 |cons g0 gs ih=>
  intro places j g h hj
  simp only[List.mapM_cons,Option.bind_eq_bind,Option.pure_def]at h
  cases hi:P.info? g0.type with
  |none=>simp[hi]at h
  |some it=>
   cases hr:gs.mapM (fun f=>(P.info? f.type).map fun i=>(f.offset,i.size))with
   |none=>simp[hi,hr]at h
   |some rest=>
    simp[hi,hr]at h
    subst h
    cases j with
    |zero=>simp at hj;subst hj;simp[Program.cellsOf,hi]
    |succ j=>simpa using ih hr (by simpa using hj)
theorem mapM_some {gs:List Field} (h:∀g∈gs,g.type<P.types.size):∃places,gs.mapM (fun f=>(P.info? f.type).map fun i=>(f.offset,i.size))=some places:=by
 induction gs with
 |nil=>exact⟨[],rfl⟩
 |cons g gs ih=>
  obtain⟨rest,hr⟩:=ih fun g' hg'=>h g' (by simp[hg'])
  have hlt:=h g (by simp)
  cases hi:P.info? g.type with
  |none=>simp[Tables.info?,hlt]at hi
  |some it=>exact⟨(g.offset,it.size)::rest,by simp[List.mapM_cons,hi,hr]⟩
theorem y3j (hP:x4 P=true) {T:TypeId} {parts:Array (Nat × Operand)} {ρ:Operand→V} {ev:Operand→Value} (hz:b9 P T=true) (hd:(ty P T).W4=true) (hs:(ty P T).isAgg=true)
  (hr:∀p∈parts.toList,q9 Γ (ρ p.2) (ev p.2)) (hok:q4c (ty P T) (o5 (ty P T)) (parts.toList.map fun p=>(p.1,ρ p.2))):
  ∃v,(Instr.build T (parts.map fun p=>(p.1,ev p.2))).run P w= .ok v w∧q9 Γ (q3J (ty P T) (o5 (ty P T)) (parts.toList.map fun p=>(p.1,ρ p.2))) v:=by
 obtain⟨it,z,hi,hzz,hzo,_⟩:=q21 hz
 have hX:q8 Γ none [] (o5 (ty P T)) z.cells.toList:=q6g (ty P T) hzo
 have hXp:=q4h (ty P T)
 cases hτ:ty P T with
 |struct sz os fs=>
  obtain⟨gs,hu,rfl,rfl,hsz,hgs⟩:=q89 hP hτ
  obtain⟨places,hpm⟩:=mapM_some (P:=P) (gs:=gs.toList) fun g hg=>(hgs g hg).1
  have hpl:∀i o f,(ty P T).child i=some (o,f)→(places.toArray[i]?)=some (o,f.size):=by
   intro i o f hc
   rw[hτ]at hc
   simp only[Ty.child,List.getElem?_map]at hc
   cases hg:gs.toList[i]? with
   |none=>rw[hg]at hc;simp at hc
   |some g=>
    rw[hg]at hc
    simp at hc
    obtain⟨rfl,rfl⟩:=hc
    rw[k7 hP 11 g.type]
    simpa using z8e hpm hg
  obtain⟨cells',e1,e2,e3,e4⟩:=z1J (Γ:=Γ) hd hpl parts.toList (o5 (ty P T)) z.cells hX (q2V _) hXp hr hok
  refine⟨.agg cells',run_build w T _ cells' ?_,?_⟩
  ·simp only[Program.built,hi,hu,hzz,hpm,Array.toList_map]
   exact e1
  ·rw[←hτ]
   refine(y8 e4).2 ⟨by simpa[Value.cells]using e2,?_⟩
   rw[e3,hτ];simp[x9,Ty.isAgg]
 |arr n e=>
  obtain⟨E,hu,he⟩:=q64 hτ
  have hT:T<P.types.size:=by
   rcases Nat.lt_or_ge T P.types.size with hh|hh
   ·exact hh
   ·unfold ty tyF at hτ;rw[if_neg (Nat.not_lt.2 hh)]at hτ;cases hτ
  have hok':=q15 hP hT
  unfold okT at hok'
  simp only[hu]at hok'
  simp at hok'
  obtain⟨ie,hie⟩:∃i,P.info? E=some i:=by
   cases hi:P.info? E with
   |none=>simp[Tables.info?,hok'.2]at hi
   |some i=>exact⟨i,rfl⟩
  have hes:ie.size=e.size:=by
   have:=k7 hP 11 E
   rw[he,this];simp[Program.cellsOf,hie]
  have hpl:∀i o f,(ty P T).child i=some (o,f)→(fun i=>some (i*ie.size,ie.size):Nat→Option (Nat × Nat)) i=some (o,f.size):=by
   intro i o f hc
   rw[hτ]at hc
   simp only[Ty.child]at hc
   split at hc
   ·simp at hc;obtain⟨rfl,rfl⟩:=hc;simp[hes]
   ·cases hc
  obtain⟨cells',e1,e2,e3,e4⟩:=z1J (Γ:=Γ) hd hpl parts.toList (o5 (ty P T)) z.cells hX (q2V _) hXp hr hok
  refine⟨.agg cells',run_build w T _ cells' ?_,?_⟩
  ·simp only[Program.built,hi,hu,hzz,hie,Array.toList_map]
   exact e1
  ·rw[←hτ]
   refine(y8 e4).2 ⟨by simpa[Value.cells]using e2,?_⟩
   rw[e3,hτ];simp[x9,Ty.isAgg]
 |int|bool|str|slice|ptr|map|func|iface|opq=>rw[hτ]at hs;simp[Ty.isAgg]at hs
end
end Go.E
namespace Go.E
open Go
mutual
def V.sites (lv:Nat→Option Nat):List Nat→V→List (Nat × List Nat)
 |p,.sl _ _ cs t=>if lv t=some cs.length then[(t,p)]else[]
 |p,.agg _ vs=>V.q9f lv p 0 vs
 |_,_=>[]
def V.q9f (lv:Nat→Option Nat):List Nat→Nat→List V→List (Nat × List Nat)
 |_,_,[]=>[]
 |p,i,x::xs=>V.sites lv (p++[i]) x++V.q9f lv p (i+1) xs
end
mutual
def V.o9 (σ:List (Nat × List Nat)) (lv:Nat→Option Nat):List Nat→V→V
 |p,.sl eb e cs t=>if look σ t=some p∧lv t=some cs.length then .ts eb e cs else .d (.slice eb e) (.slice cs)
 |p,.agg τ vs=>.agg τ (V.q1x σ lv p 0 vs)
 |_,x=>x
def V.q1x (σ:List (Nat × List Nat)) (lv:Nat→Option Nat):List Nat→Nat→List V→List V
 |_,_,[]=>[]
 |p,i,x::xs=>V.o9 σ lv (p++[i]) x::V.q1x σ lv p (i+1) xs
end
theorem V.q8W (σ:List (Nat × List Nat)) (lv:Nat→Option Nat):∀(p:List Nat) (i:Nat) (xs:List V),(V.q1x σ lv p i xs).length=xs.length
 |_,_,[]=>rfl
 |p,i,x::xs=>by simp[V.q1x,V.q8W σ lv p (i+1) xs]
theorem V.q53 (σ:List (Nat × List Nat)) (lv:Nat→Option Nat) (p:List Nat) (x:V):(x.o9 σ lv p).ty=x.ty:=by
 cases x <;> simp only[V.o9] <;> (try split) <;> simp[V.ty]
theorem V.z03 (σ:List (Nat × List Nat)) (lv:Nat→Option Nat) (p:List Nat) (x:V):(x.o9 σ lv p).plain=x.plain:=by
 cases x <;> simp only[V.o9] <;> (try split) <;> simp[V.plain]
mutual
def V.okH:V→Bool
 | .fn _ vs=>V.c6 vs
 | .agg _ vs=>V.z6E vs
 | .tup _=>false
 |_=>true
def V.z6E:List V→Bool
 | []=>true
 |x::xs=>x.okH&&V.z6E xs
end
mutual
theorem V.q8b (σ:List (Nat × List Nat)) (lv:Nat→Option Nat):∀(x:V) (p:List Nat),x.okH=true→(x.o9 σ lv p).u0=true
 | .sl eb e cs t,p,_=>by simp only[V.o9];split <;> rfl
 | .agg τ vs,p,h=>by simp only[V.o9,V.u0];exact V.z02 σ lv vs p 0 (by simpa[V.okH]using h)
 | .fn f vs,p,h=>by simpa[V.o9,V.u0,V.okH]using h
 | .tup _,p,h=>by simp[V.okH]at h
 | .d _ _,_,_| .ts _ _ _,_,_| .emp _ _,_,_| .nilc,_,_| .ptr _ _ _,_,_| .cptr _ _,_,_| .sr _ _ _ _ _ _ _,_,_| .mp _,_,_| .top _,_,_| .any,_,_=>by simp[V.o9,V.u0]
theorem V.z02 (σ:List (Nat × List Nat)) (lv:Nat→Option Nat):∀(xs:List V) (p:List Nat) (i:Nat),V.z6E xs=true→V.c6 (V.q1x σ lv p i xs)=true
 | [],_,_,_=>rfl
 |x::xs,p,i,h=>by
  simp only[V.z6E,Bool.and_eq_true]at h
  simp only[V.q1x,V.c6,Bool.and_eq_true]
  exact⟨V.q8b σ lv x _ h.1,V.z02 σ lv xs _ _ h.2⟩
end
def G.home (Γ:G) (k:Key) (σ:List (Nat × List Nat)):G:=
 {Γ with κ:=fun b=>match Γ.κ b with
   |some (.tok t,sz)=>match look σ t with
    |some p=>some (.home k p,sz)
    |none=>some (.tok t,sz)
   |x=>x}
def q3G (σ:List (Nat × List Nat)):List (Nat × Option Nat):=σ.map fun x=>(x.1,none)
theorem q4q (σ:List (Nat × List Nat)) (tk:List (Nat × Option Nat)) (t:Nat):look (q3G σ++tk) t=match look σ t with|some _=>some none|none=>look tk t:=by
 induction σ with
 |nil=>rfl
 |cons x σ ih=>
  obtain⟨u,p⟩:=x
  simp only[q3G,List.map_cons,List.cons_append,look]at ih ⊢
  split
  ·rfl
  ·exact ih
section
variable {P:Program} {Γ:G} {w w':World} {s:S}
theorem s6.home (Γ:G) (k:Key) (σ:List (Nat × List Nat)):s6 Γ (Γ.home k σ):=⟨Hp.le_refl _,fun _ _ h=>h,fun t x L h=>⟨x,L,h,Nat.le_refl _,fun _=>rfl⟩,fun _ _ h=>h⟩
mutual
theorem q8.o9 (c:z8 Γ w s) (k:Key) (σ:List (Nat × List Nat)):∀(x:V) {p:List Nat} {vs:List Value},q8 Γ none p x vs→q8 (Γ.home k σ) (some k) p (x.o9 σ s.live p) vs
 | .sl eb e cs t,p,vs,h=>by
  simp only[q8]at h
  obtain⟨a,n,cap,rfl,h2,x,L,h3,h4,h5⟩:=h
  simp only[V.o9]
  split
  ·rename_i hc
   obtain⟨hσ,hl⟩:=hc
   obtain⟨x',h6,h7⟩:=c.tok t _ hl
   rw[h3]at h6;cases h6
   have h5:=h5 rfl
   simp only[q8]
   refine⟨a,n,cap,k,rfl,rfl,h2,?_⟩
   cases x with
   |none=>exact .inl h5
   |some y=>
    obtain⟨b,pos,sz⟩:=y
    simp only at h5
    obtain⟨⟨l,a1,a2⟩,a3⟩:=h7 b pos sz rfl
    exact .inr ⟨b,l,sz,h5.1,a1,by rw[a2];exact h5.2.1,by simp[G.home,a3,hσ],h5.2.2⟩
  ·simp only[q8];exact h2
 | .agg τ xs,p,vs,h=>by
  simp only[q8]at h
  simp only[V.o9,q8]
  exact⟨h.1,h.2.1,by rw[V.q8W];exact h.2.2.1,h.2.2.2.1,y4.o9 c k σ xs h.2.2.2.2⟩
 | .ts _ _ _,_,_,h=>by
  simp only[q8]at h
  obtain⟨_,_,_,_,h0,_⟩:=h
  cases h0
 | .tup _,_,_,h=>by simp only[q8]at h
 | .d τ cc,_,_,h=>by simp only[V.o9];exact(q8.o8 (s6.home Γ k σ) (hm:=none) trivial _ h).c5
 | .emp _ _,_,_,h=>by simp only[V.o9];exact(q8.o8 (s6.home Γ k σ) (hm:=none) trivial _ h).c5
 | .nilc,_,_,h=>by simp only[V.o9];exact(q8.o8 (s6.home Γ k σ) (hm:=none) trivial _ h).c5
 | .ptr _ _ _,_,_,h=>by simp only[V.o9];exact(q8.o8 (s6.home Γ k σ) (hm:=none) trivial _ h).c5
 | .cptr _ _,_,_,h=>by simp only[V.o9];exact(q8.o8 (s6.home Γ k σ) (hm:=none) trivial _ h).c5
 | .sr _ _ _ _ _ _ _,_,_,h=>by simp only[V.o9];exact(q8.o8 (s6.home Γ k σ) (hm:=none) trivial _ h).c5
 | .mp _,_,_,h=>by simp only[V.o9];exact(q8.o8 (s6.home Γ k σ) (hm:=none) trivial _ h).c5
 | .fn _ _,_,_,h=>by simp only[V.o9];exact(q8.o8 (s6.home Γ k σ) (hm:=none) trivial _ h).c5
 | .top _,_,_,h=>by simp only[V.o9];exact(q8.o8 (s6.home Γ k σ) (hm:=none) trivial _ h).c5
 | .any,_,_,_=>by simp only[V.o9,q8]
theorem y4.o9 (c:z8 Γ w s) (k:Key) (σ:List (Nat × List Nat)):∀(xs:List V) {p:List Nat} {i:Nat} {τ:Ty} {vs:List Value},y4 Γ none p i τ xs vs→y4 (Γ.home k σ) (some k) p i τ (V.q1x σ s.live p i xs) vs
 | [],_,_,_,_,_=>by simp only[V.q1x,y4]
 |x::xs,_,_,_,_,h=>by
  simp only[y4]at h
  simp only[V.q1x,y4,V.q53]
  obtain⟨⟨o,f,h1,h2,h3,h4⟩,h5⟩:=h
  exact⟨⟨o,f,h1,h2,h3,q8.o9 c k σ x h4⟩,y4.o9 c k σ xs h5⟩
end
theorem z8.home (c:z8 Γ w s) (k:Key) (σ:List (Nat × List Nat)):z8 (Γ.home k σ) w {s with tk:=q3G σ++s.tk}∧GLe Γ (Γ.home k σ):=by
 refine⟨?_,⟨Hp.le_refl _,rfl,fun _ _=>rfl,fun _ _ h=>h,rfl,rfl,fun _ _ h=>h,fun _ h=>h⟩⟩
 have hlive:∀t L,S.live {s with tk:=q3G σ++s.tk} t=some L→look σ t=none∧s.live t=some L:=by
  intro t L h
  unfold S.live H7 at h
  simp only[q4q]at h
  cases hs:look σ t with
  |some p=>simp[hs]at h
  |none=>rw[hs]at h;exact⟨rfl,h⟩
 refine c.change (s6.home Γ k σ) rfl rfl rfl rfl c.hH (fun _ _=>rfl) (fun b o sz h=>?_) (fun j o h=>?_) (fun _ h _=>h) c.dom c.hσ c.inj (fun t L h=>?_) (fun t h=>?_) (Nat.le_refl _)
 ·simp only[G.home]at h
  cases hk:Γ.κ b with
  |none=>simp[hk]at h
  |some y=>
   obtain⟨o',sz'⟩:=y
   have:sz'=sz:=by
    cases o' with
    |home=>simp[hk]at h;exact h.2
    |tok t=>simp only[hk]at h;split at h <;> simp at h <;> exact h.2
   subst this
   obtain⟨a1,a2,arr,T,a3,a4,a5⟩:=c.hκ b o' sz' hk
   refine⟨a1,a2,arr,T,a3,a4,?_⟩
   cases o' with
   |home=>simp[hk]at h;rw[←h];exact a5
   |tok t=>simp only[hk]at h;split at h <;> simp at h <;> rw[←h] <;> trivial
 ·refine .inl ⟨h,fun hd=>⟨fun b p sz hb=>⟨by simp[G.home,hb],rfl⟩,fun b τ hb=>?_⟩⟩
  obtain⟨a1,_⟩:=c.X7 hb h hd
  exact⟨rfl,a1⟩
 ·obtain⟨h1,h2⟩:=hlive t L h
  obtain⟨x,h3,h4⟩:=c.tok t L h2
  refine⟨x,h3,fun b pos sz hx=>?_⟩
  obtain⟨a1,a2⟩:=h4 b pos sz hx
  exact⟨a1,by simp[G.home,a2,h1]⟩
 ·have:=c.tdom t h
  unfold S.known at this ⊢
  rw[q4q]
  split
  ·rfl
  ·exact this
theorem y2J (c:z8 Γ w s) {n:Nat} (hn:s.obj (.l n)=none) {x:V} {cells:Array Value} {T:TypeId} (he:Ext w w') (hw:w'.heap[w.heap.size]? =some (.cells cells T (0,0))) (hsz:x.ty.size≤cells.size)
  (hx:q8 Γ none [] x (chunk cells.toList 0 x.ty.size)) (hp:x.plain=true) (hok:x.okH=true):
  u5 Γ w {s with loc:=(.l n,.box (x.o9 (x.sites s.live []) s.live []))::s.loc,tk:=q3G (x.sites s.live [])++s.tk} (.ptr (.l n) [] x.ty) (.pointer (some ⟨w.heap.size,0,none⟩)) w':=by
 obtain⟨c0,g0⟩:=c.home (.l n) (x.sites s.live [])
 have p0:=s6.home Γ (.l n) (x.sites s.live [])
 have hx':=hx.o9 c (.l n) (x.sites s.live [])
 obtain⟨h1,h2,h3⟩:=c0.s9 (k:=.l n) hn he (τ:=x.ty) (o:=.box (x.o9 (x.sites s.live []) s.live [])) fun Γ' hpr hkh hι hH hZ=>
  ⟨_,cells,T,by rw[V.q53];exact hι,hH,hZ,hw,by rw[V.q53];exact hsz,by rw[V.q53];exact hx'.o8 hpr hkh,by rw[V.z03];exact hp,V.q8b _ _ _ _ hok⟩
 exact⟨_,g0.trans h3,p0.trans h2,h1,q1z (τ0:=x.ty) (by simp[G.s9,q0a]) rfl⟩
theorem y4I (c:z8 Γ w s) {o:Oper} {a:Act} {T:TypeId} {x:Operand} {n:Nat} {y:V} (ho:o.op= .box T x) (hn:s.obj (.l n)=none) (hr:q9 Γ y (a.eval x)) (hpl:y.plain=true) (hok:y.okH=true):
  w6 P o a w (u5 Γ w {s with loc:=(.l n,.box (y.o9 (y.sites s.live []) s.live []))::s.loc,tk:=q3G (y.sites s.live [])++s.tk} (.ptr (.l n) [] y.ty)):=by
 obtain⟨h1,_⟩:=(y8 hpl).1 hr
 have hlen:=h1.length hpl
 have hb:=y2J c hn (T:=T) (x:=y) (cells:=(a.eval x).cells) (Ext.alloc w _) (heap_alloc_new w (.cells (a.eval x).cells T)) (by rw[←hlen];simp) (by rw[←hlen,q2f];exact h1) hpl hok
 refine w6.val (v:=.pointer (some ⟨w.heap.size,0,none⟩)) (w':=w.alloc (.cells (a.eval x).cells T)) ?_ hb
 unfold execOp
 simp only[ho,Instr.box]
 simp[newVar,newRow]
theorem q9z:∀{xs:List V} {i:Nat} {y:V},V.c6 xs=true→y.u0=true→V.c6 (xs.set i y)=true
 | [],_,_,_,_=>rfl
 |x::xs,0,y,h,hy=>by simp[V.c6]at h ⊢;exact⟨hy,h.2⟩
 |x::xs,i+1,y,h,hy=>by simp[V.c6]at h ⊢;exact⟨h.1,q9z h.2 hy⟩
theorem q9A (c:C):∀(j:Nat) (fs:List Ty),V.c6 (Y3 c j fs)=true
 |_,[]=>rfl
 |j,f::fs=>by simp[Y3,V.c6,V.u0,q9A c (j+1) fs]
theorem V.y2H:∀(x:V) (i:Nat) (y:V),x.u0=true→y.u0=true→(x.set i y).u0=true
 | .d τ c,i,y,_,hy=>by
  cases y <;> simp only[V.set] <;> first|rfl|(simp only[V.u0];exact q9z (q9A _ _ _) hy)
 | .agg τ vs,i,y,hx,hy=>by simp only[V.set,V.u0];exact q9z (by simpa[V.u0]using hx) hy
 | .sl _ _ _ _,_,_,h,_=>by simp[V.u0]at h
 | .ts _ _ _,_,_,_,_| .emp _ _,_,_,_,_| .nilc,_,_,_,_| .ptr _ _ _,_,_,_,_| .cptr _ _,_,_,_,_| .sr _ _ _ _ _ _ _,_,_,_,_| .mp _,_,_,_,_| .fn _ _,_,_,_,_| .tup _,_,_,_,_| .top _,_,_,_,_| .any,_,_,_,_=>by simp[V.set,V.u0]
theorem z4w:∀{xs:List V} {i:Nat} {x:V},V.c6 xs=true→xs[i]? =some x→x.u0=true
 | [],_,_,_,h=>by simp at h
 |y::ys,0,x,h,hx=>by simp[V.c6]at h;simp at hx;subst hx;exact h.1
 |y::ys,i+1,x,h,hx=>by simp[V.c6]at h;exact z4w h.2 (by simpa using hx)
theorem V.y2I {x:V} (h:x.u0=true) (i:Nat):(x.get i).u0=true:=by
 cases x <;> simp only[V.get] <;> (try rfl)
 case agg τ vs=>
  cases hi:vs[i]? with
  |none=>simp[List.getD,hi,V.u0]
  |some y=>simp[List.getD,hi];exact z4w (by simpa[V.u0]using h) hi
theorem V.q5p:∀(q:List Nat) (x y:V),x.u0=true→y.u0=true→(x.setAt q y).u0=true
 | [],_,_,_,hy=>hy
 |i::q,x,y,hx,hy=>by simp only[V.setAt];exact V.y2H x i _ hx (V.q5p q _ y (V.y2I hx i) hy)
theorem z8.u0 (c:z8 Γ w s) {k:Key} {x:V} {y:Nat × Ty} (hι:Γ.ι k=some y) (h:s.obj k=some (.box x)):x.u0=true:=by
 obtain⟨_,_,_,_,_,_,_,_,_,_,h⟩:=c.own hι h
 exact h
theorem y1P (hP:x4 P=true) (c:z8 Γ w s) {o:Oper} {a:Act} {T:TypeId} {p y:Operand} {k:Key} {q:List Nat} {τ:Ty} {x Y:V}
  (ho:o.op= .store T p y) (hr:q9 Γ (.ptr k q τ) (a.eval p)) (hy:q9 Γ Y (a.eval y)) (hobj:s.obj k=some (.box x))
  (ht:τ=ty P T) (hk:τ.known=true) (hY:(b6 τ Y).ty=τ) (hYp:(b6 τ Y).plain=true) (hne:x.at q≠.any) (hd:x.ty.W4=true) (hok:(b6 τ Y).okH=true):
  w6 P o a w (u5 Γ w {s with loc:=(k,.box (x.setAt q ((b6 τ Y).o9 ((b6 τ Y).sites s.live q) s.live q)))::s.loc,tk:=q3G ((b6 τ Y).sites s.live q)++s.tk} .any):=by
 obtain⟨c0,g0⟩:=c.home k ((b6 τ Y).sites s.live q)
 have p0:=s6.home Γ k ((b6 τ Y).sites s.live q)
 obtain⟨b,τ0,off,h1,h2,hpv⟩:=X9 (hr.o8 p0)
 obtain⟨b2,cells,E,e1,e2,e3,e4,e5,e6,e7,e8⟩:=c0.own h1 hobj
 rw[h1]at e1
 cases e1
 obtain⟨g1,g2,_⟩:=e6.at_ h2 hne e7
 have hcl:(chunk cells.toList 0 x.ty.size).length=x.ty.size:=u7 _ _ _ (by simpa using e5)
 rw[hcl]at g2
 have hy':=z1O (τ:=τ) hy
 obtain⟨q1,q2⟩:=(y8 hYp).1 hy'
 have hlen:=q1.length hYp
 rw[hY]at hlen
 have q3:=(q1.c5 (hm:=none) (p':=q)).o9 c k ((b6 τ Y).sites s.live q)
 obtain⟨r1,r2,r3⟩:=q8.setAt (q:=q) (p:=[]) (y:=(b6 τ Y).o9 ((b6 τ Y).sites s.live q) s.live q) e6 e7 hd (by rw[V.q53,hY];exact h2) hne q3 (by rw[V.z03];exact hYp)
 have hrun:=z6b (w:=w) (T:=T) (τ:=τ) (v:=a.eval y) (off:=off) hP ht.symm hk e4 (by omega) hlen (q1.one hYp)
 have hlc:off+(a.eval y).cells.toList.length≤cells.toList.length:=by rw[hlen];simp;omega
 have hs2:(w7 cells.toList off (a.eval y).cells.toList).toArray.size=cells.size:=by simp only[List.size_toArray,b7 hlc];simp
 have c':=c0.write (x':=x.setAt q ((b6 τ Y).o9 ((b6 τ Y).sites s.live q) s.live q)) (cells':=(w7 cells.toList off (a.eval y).cells.toList).toArray) (w':=w.setRow b (w7 cells.toList off (a.eval y).cells.toList).toArray) hobj h1
  (setRow_heap w b cells _ E (0,0) e4) (fun b' hb'=>setRow_other w b b' _ hb') rfl (by rw[r2,hs2];exact e5)
  (by rw[r2,List.toList_toArray,q8D _ _ (by rw[hlen];exact g2) (by simpa using e5)];exact r1) r2 r3 (V.q5p q x _ (c0.u0 h1 hobj) (V.q8b _ _ _ _ hok)) (fun arr T fr h=>by rw[e4]at h;cases h;exact hs2)
 refine w6.skip (w':=w.setRow b (w7 cells.toList off (a.eval y).cells.toList).toArray) ?_ ⟨_,g0,p0,c',by simp[q9]⟩
 unfold execOp
 simp[ho,Instr.storeAt,hpv,Instr.sureAddr,hrun]
def V.q6x:V→Bool
 | .ts _ _ _=>false
 |_=>true
mutual
theorem q8.q7k {Γ Γ':G} (hp:s6 Γ Γ') {k:Key} {q:List Nat} (hk:∀b p sz,Γ.κ b=some (.home k p,sz)→p≠q→Γ'.κ b=Γ.κ b∧Γ'.H b=Γ.H b):
  ∀(x:V) {p:List Nat} {vs:List Value},(∀r,p++r=q→(x.at r).q6x=true)→q8 Γ (some k) p x vs→q8 Γ' (some k) p x vs
 | .ts eb e cs,p,_,hn,h=>by
  simp only[q8]at h ⊢
  obtain⟨a,n,cap,k',h0,h1,h2,h3⟩:=h
  cases h0
  refine⟨a,n,cap,k,rfl,h1,h2.mono hp.H,?_⟩
  have hpq:p≠q:=by
   intro e
   have:=hn [] (by simpa using e)
   simp[V.at,V.q6x]at this
  rcases h3 with h3|⟨b,l,sz,a1,a2,a3,a4,a5⟩
  ·exact .inl h3
  ·obtain⟨e1,e2⟩:=hk b p sz a4 (fun e=>hpq (by injection e))
   exact .inr ⟨b,l,sz,a1,by rw[e2,a2],a3,by rw[e1,a4],a5⟩
 | .agg τ xs,p,vs,hn,h=>by
  simp only[q8]at h ⊢
  refine⟨h.1,h.2.1,h.2.2.1,h.2.2.2.1,y4.q7k hp hk xs (fun i r hr=>?_) h.2.2.2.2⟩
  have:=hn (i::r) (by simpa using hr)
  simp only[V.at,V.get]at this
  simpa using this
 | .d _ _,_,_,_,h=>by simp only[q8]at h ⊢;exact h.mono hp.H
 | .sl eb e cs t,_,_,_,h=>by
  simp only[q8]at h ⊢
  obtain⟨a,n,cap,h1,h2,h3⟩:=h
  exact⟨a,n,cap,h1,h2.mono hp.H,h3.o8 hp⟩
 | .emp _ _,_,_,_,h=>by simpa only[q8]using h
 | .nilc,_,_,_,h=>by simpa only[q8]using h
 | .ptr k q τ,_,_,_,h=>by
  simp only[q8]at h ⊢
  obtain⟨b,τ0,o,h1,h2⟩:=h
  exact⟨b,τ0,o,hp.ι _ _ h1,h2⟩
 | .cptr τ c,_,_,_,h=>by
  simp only[q8]at h ⊢
  obtain⟨b,off,l,h1,h2,h3,h4⟩:=h
  obtain⟨l',a1,a2,a3⟩:=q9W hp.H h2 h3 h4
  exact⟨b,off,l',h1,a1,a2,a3⟩
 | .sr _ _ _ _ _ _ _,_,_,_,h=>by
  simp only[q8]at h ⊢
  rcases h with h|⟨b,τ0,o,m,cap,h1,h2,h3,h4,h5,h6,h7,h8,h9⟩
  ·exact .inl h
  exact .inr ⟨b,τ0,o,m,cap,hp.ι _ _ h1,h2,h3,h4,h5,h6,h7,h8,fun e=>(h9 e).imp id fun⟨sz,a1,a2⟩=>⟨sz,hp.σ _ _ a1,a2⟩⟩
 | .mp _,_,_,_,h=>by
  simp only[q8]at h ⊢
  obtain⟨b,h1,h2⟩:=h
  exact⟨b,hp.ι _ _ h1,h2⟩
 | .fn f caps,_,_,_,h=>by
  simp only[q8]at h ⊢
  obtain⟨cv,h1,h2⟩:=h
  exact⟨cv,h1,y9.o8 hp caps h2⟩
 | .tup _,_,_,_,h=>by simp only[q8]at h
 | .top _,_,_,_,h=>by simpa only[q8]using h
 | .any,_,_,_,_=>by simp only[q8]
theorem y4.q7k {Γ Γ':G} (hp:s6 Γ Γ') {k:Key} {q:List Nat} (hk:∀b p sz,Γ.κ b=some (.home k p,sz)→p≠q→Γ'.κ b=Γ.κ b∧Γ'.H b=Γ.H b):
  ∀(xs:List V) {p:List Nat} {i:Nat} {τ:Ty} {vs:List Value},(∀j r,p++[i+j]++r=q→((xs.getD j .any).at r).q6x=true)→y4 Γ (some k) p i τ xs vs→y4 Γ' (some k) p i τ xs vs
 | [],_,_,_,_,_,_=>by simp only[y4]
 |x::xs,p,i,τ,vs,hn,h=>by
  simp only[y4]at h ⊢
  obtain⟨⟨o,f,h1,h2,h3,h4⟩,h5⟩:=h
  refine⟨⟨o,f,h1,h2,h3,q8.q7k hp hk x (fun r hr=>?_) h4⟩,y4.q7k hp hk xs (fun j r hr=>?_) h5⟩
  ·have:=hn 0 r (by simpa using hr)
   simpa using this
  ·have:=hn (j+1) r (by rw[show i+(j+1)=i+1+j by omega];exact hr)
   simpa using this
end
theorem V.z3i:∀(q:List Nat) (x:V) {τ:Ty} {c:C},(∃eb e cs,x.at q= .ts eb e cs)→(x.setAt q (.d τ c)).at q= .d τ c
 | [],_,_,_,_=>rfl
 |i::q,x,τ,c,hx=>by
  obtain⟨eb,e,cs,hx⟩:=hx
  simp only[V.at]at hx
  have ih:=V.z3i q (x.get i) (τ:=τ) (c:=c) ⟨eb,e,cs,hx⟩
  cases x <;> (try (simp only[V.get,V.q9Z]at hx;cases hx;done))
  case d τ' c'=>
   exfalso
   have:∀(q:List Nat) (τ:Ty) (c:C),∃τ' c',(V.d τ c).at q= .d τ' c':=by
    intro q
    induction q with
    |nil=>intro τ c;exact⟨τ,c,rfl⟩
    |cons j q ih=>intro τ c;simp only[V.at,V.get];exact ih _ _
   obtain⟨_,_,h⟩:=this q (τ'.get i) (c'.get i)
   simp only[V.get]at hx
   rw[h]at hx;cases hx
  case agg τ' vs=>
   have hlt:i<vs.length:=by
    rcases Nat.lt_or_ge i vs.length with h|h
    ·exact h
    ·simp[V.get,List.getD,List.getElem?_eq_none h,V.q9Z]at hx
   simp only[V.setAt,V.set,V.at]
   have:(V.agg τ' (vs.set i ((V.agg τ' vs).get i |>.setAt q (.d τ c)))).get i=((V.agg τ' vs).get i).setAt q (.d τ c):=by
    simp[V.get,List.getD,hlt]
   rw[this];exact ih
theorem z8.take (c:z8 Γ w s) {k:Key} {q:List Nat} {x:V} {eb:Nat} {e:Ty} {cs:List C} {t b:Nat} {τ0:Ty} {o0:Nat} (ho:s.obj k=some (.box x)) (hx:x.at q= .ts eb e cs) (hd:x.ty.W4=true) (ht:s.known t=false)
  (hι:Γ.ι k=some (b,τ0)) (hw:τ0.walk q=some (o0,.slice eb e)) {a:Option Addr} {n cap:Nat} (hcell:w.cell? ⟨b,o0,none⟩=some (.slice a n cap)):
  ∃Γ',GLe Γ Γ'∧s6 Γ Γ'∧z8 Γ' w {s with loc:=(k,.box (x.setAt q (.d (.slice eb e) (.slice cs))))::s.loc,tk:=(t,some cs.length)::s.tk}∧q9 Γ' (.sl eb e cs t) (.slice a n cap):=by
 obtain⟨b2,cells,E,e1,e2,e3,e4,e5,e6,e7,e8⟩:=c.own hι ho
 rw[hι]at e1
 cases e1
 obtain⟨g1,g2,g3⟩:=e6.at_ hw (by rw[hx];simp) e7
 have hcl:(chunk cells.toList 0 x.ty.size).length=x.ty.size:=u7 _ _ _ (by simpa using e5)
 rw[hcl]at g2
 simp only[Ty.size]at g2 g3
 have hch:chunk (chunk cells.toList 0 x.ty.size) o0 1=chunk cells.toList o0 1:=by rw[o7 _ _ _ _ _ (by omega),Nat.zero_add]
 have hce:chunk cells.toList o0 1=[.slice a n cap]:=by
  apply List.ext_getElem?
  intro j
  rw[w8]
  by_cases hj:j<1
  ·have:j=0:=by omega
   subst this
   simp[World.cell?,e4]at hcell
   simpa using hcell
  ·simp[hj]
 rw[hch,hce,hx]at g3
 simp only[q8]at g3
 obtain⟨a',n',cap',k',hk',hv,hrc,htip⟩:=g3
 simp at hk' hv
 subst hk'
 obtain⟨rfl,rfl,rfl⟩:=hv
 have hself:w7 (chunk cells.toList 0 x.ty.size) o0 [.slice a n cap]=chunk cells.toList 0 x.ty.size:=by
  apply List.ext_getElem?
  intro j
  rw[Q3 (by simp;omega)]
  split
  ·rename_i hj
   simp at hj
   have:j=o0:=by omega
   subst this
   have h0:(chunk (chunk cells.toList 0 x.ty.size) j 1)[0]? =some (.slice a n cap):=by rw[hch,hce];rfl
   rw[w8]at h0
   simp at h0 ⊢
   exact h0.symm
  ·rfl
 have hw':x.ty.walk q=some (o0,(V.d (.slice eb e) (.slice cs)).ty):=hw
 obtain⟨r1,r2,r3⟩:=q8.setAt (p:=[]) (ws:=[.slice a n cap]) (y:=.d (.slice eb e) (.slice cs)) e6 e7 hd hw' (by rw[hx];simp) (by simpa only[q8]using hrc) rfl
 rw[hself]at r1
 have hns:(x.setAt q (.d (.slice eb e) (.slice cs))).u0=true:=V.q5p q x _ e8 rfl
 -- the object as it is then, first under the old ghost
 have c1:z8 Γ w {s with loc:=(k,.box (x.setAt q (.d (.slice eb e) (.slice cs))))::s.loc}:=
  c.write ho hι e4 (fun _ _=>rfl) rfl (by rw[r2];exact e5) (by rw[r2];exact r1) r2 r3 hns (fun arr T fr h=>by rw[e4]at h;cases h;rfl)
 obtain⟨_,n1,cap1,f1,_,f2,f3,f4,f5,f6⟩:=X8 hrc
 simp at f1
 obtain⟨rfl,rfl,rfl⟩:=f1
 simp only[C.elems]at f2
 rcases htip with htip|⟨b1,l,sz,rfl,h1,h2,h3,h4⟩
 ·obtain⟨c2,p2,g2'⟩:=c1.Z0 (t:=t) (x:=none) (L:=cs.length) ht (fun _ _ _ h=>by cases h)
  refine⟨_,g2',p2,c2,(w4 rfl rfl).2 ⟨?_,rfl⟩⟩
  simp only[q8]
  exact⟨a,n,cap,rfl,hrc,none,cs.length,w9 _ _ _,Nat.le_refl _,fun _=>htip⟩
 ·have hτ:Γ.τ t=none:=c.y0P ht
  obtain⟨z1,z2,arr,T,z3,z4,_⟩:=c.hκ b1 _ _ h3
  have hp:s6 Γ {Γ with τ:=r8 Γ.τ t (some (b1,l.length,sz),cs.length),κ:=r8 Γ.κ b1 (.tok t,sz)}:=
   ⟨Hp.le_refl _,fun _ _ h=>h,fun u y M h=>by
    have:u≠t:=by intro e;subst e;rw[hτ]at h;cases h
    exact⟨y,M,(j3 _ _ this).trans h,Nat.le_refl _,fun _=>rfl⟩,fun _ _ h=>h⟩
  have hne:∀b' o',Γ.κ b'=some o'→b'≠b1→r8 Γ.κ b1 (.tok t,sz) b'=some o':=fun b' o' h hb=>(j3 _ _ hb).trans h
  refine⟨{Γ with τ:=r8 Γ.τ t (some (b1,l.length,sz),cs.length),κ:=r8 Γ.κ b1 (.tok t,sz)},⟨Hp.le_refl _,rfl,fun _ _=>rfl,fun _ _ h=>h,rfl,rfl,fun _ _ h=>h,fun _ h=>h⟩,hp,?_,(w4 rfl rfl).2 ⟨?_,rfl⟩⟩
  ·refine c1.change hp rfl rfl rfl rfl c.hH (fun _ _=>rfl) (fun b' o' sz' h=>?_) (fun j o' h=>?_) (fun _ h _=>h) c1.dom c.hσ c1.inj (fun u M h=>?_) (fun u h=>?_) (Nat.le_refl _)
   ·by_cases e:b'=b1
    ·subst e
     have h':sz=sz':=by have:=h;simp[r8]at this;exact this.2
     subst h'
     exact⟨z1,z2,arr,T,z3,z4,by have:=h;simp[r8]at this;rw[←this];trivial⟩
    ·exact c.hκ b' o' sz' ((j3 _ _ e).symm.trans h)
   ·have h':S.obj {s with loc:=(k,.box (x.setAt q (.d (.slice eb e) (.slice cs))))::s.loc} j=some o':=h
    by_cases hj:k=j
    ·subst hj
     rw[u3,if_pos rfl]at h'
     cases h'
     refine .inr ⟨b,cells,E,by rw[r2];exact hι,e2,e3,e4,by rw[r2];exact e5,?_,r3,hns⟩
     rw[r2]
     refine q8.q7k (q:=q) hp (fun b' p sz' hb hpq=>?_) _ (fun r hr=>?_) r1
     ·have:b'≠b1:=by
       intro e;subst e;rw[h3]at hb;simp at hb;exact hpq hb.1.symm
      exact⟨(hne b' _ hb this).trans hb.symm,rfl⟩
     ·rw[List.nil_append]at hr
      subst hr
      have:(x.setAt r (.d (.slice eb e) (.slice cs))).at r= .d (.slice eb e) (.slice cs):=V.z3i r x ⟨_,_,_,hx⟩
      rw[this];rfl
    ·refine .inl ⟨h',fun hd=>⟨fun b' p sz' hb=>?_,fun b' τ hb=>?_⟩⟩
     ·have:b'≠b1:=by
       intro e;subst e;rw[h3]at hb;simp at hb;exact hj hb.1.1
      exact⟨(hne b' _ hb this).trans hb.symm,rfl⟩
     ·obtain⟨a1,_⟩:=c1.X7 hb h' hd
      exact⟨rfl,a1⟩
   ·have h9:(if t=u then some cs.length else s.live u)=some M:=(q18 {s with loc:=(k,.box (x.setAt q (.d (.slice eb e) (.slice cs))))::s.loc} t u (some cs.length)).symm.trans h
    clear h
    split at h9
    ·rename_i e
     subst e;cases h9
     refine⟨_,w9 _ _ _,fun b' pos sz' e=>?_⟩
     cases e
     exact⟨⟨l,h1,rfl⟩,w9 _ _ _⟩
    ·rename_i e
     have e':u≠t:=fun h'=>e h'.symm
     obtain⟨y,a1,a2⟩:=c.tok u M h9
     refine⟨y,(j3 _ _ e').trans a1,fun b' pos sz' hy=>?_⟩
     obtain⟨a3,a4⟩:=a2 b' pos sz' hy
     exact⟨a3,hne b' _ a4 (fun e=>by subst e;rw[h3]at a4;cases a4)⟩
   ·refine(q1o {s with loc:=(k,.box (x.setAt q (.d (.slice eb e) (.slice cs))))::s.loc} t u (some cs.length)).trans ?_
    by_cases e:t=u
    ·simp[e]
    ·have e':u≠t:=fun h'=>e h'.symm
     simp only[e,decide_false,Bool.false_or]
     refine c.tdom u ?_
     simpa[r8,e']using h
  ·simp only[q8]
   exact⟨_,n,cap,rfl,hrc,_,_,w9 _ _ _,Nat.le_refl _,fun _=>⟨rfl,h2,h4⟩⟩
end
end Go.E
