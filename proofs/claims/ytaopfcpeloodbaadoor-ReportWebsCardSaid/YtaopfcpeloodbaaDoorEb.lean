/-
 A framework for runs of Go code over abstract data: what it needs, and that it is sound, part 2.
 Conditions: none.
-/
import Derived.Test.YtaopfcpeloodbaaDoorEa
import Derived.Deep.AppendSrc
import Derived.Deep.Upon
import Derived.Great.FillDense
import Derived.Great.BuildSlice
set_option linter.all false
namespace Go.E
open Go
mutual
def Ty.y3D:Ty→Bool
 | .slice _ _=>false
 | .struct _ _ fs=>Ty.z1a fs
 | .opq _=>false
 |_=>true
def Ty.z1a:List Ty→Bool
 | []=>true
 |f::fs=>f.y3D&&Ty.z1a fs
end
mutual
def b5:Ty→C
 | .int _=>.int 0
 | .bool=>.bool false
 | .str=>.str []
 | .slice _ _=>.slice []
 | .arr n e=>.agg (List.replicate n (b5 e))
 | .struct _ _ fs=>.agg (q6S fs)
 |_=>.nil
def q6S:List Ty→List C
 | []=>[]
 |f::fs=>b5 f::q6S fs
end
mutual
def o9:Ty→V
 | .slice eb e=>.emp eb e
 | .struct sz os fs=>if Ty.z1a fs then .d (.struct sz os fs) (.agg (q6S fs))else .agg (.struct sz os fs) (q28 fs)
 |τ=>.d τ (b5 τ)
def q28:List Ty→List V
 | []=>[]
 |f::fs=>o9 f::q28 fs
end
def q2T:Ty→Value→Bool
 | .int k,.int k' n=>k==k'&&n==0
 | .bool,.bool b=> !b
 | .str,.string s=>s.data.toList.isEmpty
 | .slice _ _,.slice a n c=>a.isNone&&n==0&&c==0
 | .ptr,.pointer a=>a.isNone
 | .map,.map r=>r.isNone
 | .func,.nilFunc=>true
 | .iface,.nilIface=>true
 |_,_=>false
mutual
def Y9:Ty→List Value→Bool
 | .arr n e,vs=>vs.length==n*e.size&&vs.all (·.oneCell')&&(List.range n).all fun i=>Y9 e (chunk vs (i*e.size) e.size)
 | .struct sz os fs,vs=>vs.length==sz&&vs.all (·.oneCell')&&q0Z fs os vs
 |τ,vs=>match vs with| [v]=>q2T τ v|_=>false
def q0Z:List Ty→List Nat→List Value→Bool
 | [],_,_=>true
 |f::fs,o::os,vs=>decide (o+f.size≤vs.length)&&Y9 f (chunk vs o f.size)&&q0Z fs os vs
 |_::_,[],_=>false
end
def Q9 (P:Program) (T:TypeId):Bool:=
 match(P.info? T).bind (·.zero)with
 |some z=>Y9 (ty P T) z.cells.toList&&x8 z==(ty P T).isAgg&&Y9 (tyF P 11 T) z.cells.toList
 |none=>false
theorem z4e (k:IntKind):k.min≤0∧0≤k.max:=by cases k <;> decide
theorem z5t {H:Hp} {τ:Ty} {v:Value} (h:q2T τ v=true):z7 H τ [v] (b5 τ):=by
 unfold q2T at h
 split at h <;> simp at h <;> simp only[z7,b5]
 ·obtain⟨rfl,rfl⟩:=h
  exact⟨0,rfl,rfl,(z4e _).1,(z4e _).2⟩
 ·subst h;exact⟨false,rfl,rfl⟩
 ·rename_i s
  refine⟨[],rfl,?_,by simp⟩
  have:s=⟨#[]⟩:=by
   apply ByteArray.ext;simpa using h
  rw[this]
 ·obtain⟨⟨h1,rfl⟩,rfl⟩:=h
  exact⟨_,0,0,[],rfl,rfl,rfl,Nat.le_refl _,by decide,by simp,.inl rfl⟩
 ·subst h;simp
 ·subst h;simp
 ·simp
 ·simp
mutual
theorem Y4 {H:Hp}:∀{τ:Ty} {vs:List Value},Y9 τ vs=true→z7 H τ vs (b5 τ)
 | .arr n e,vs,h=>by
  simp only[Y9,Bool.and_eq_true,beq_iff_eq,List.all_eq_true,List.mem_range]at h
  simp only[z7,b5]
  refine⟨_,rfl,by simp,h.1.1,h.1.2,fun i c hi=>?_⟩
  simp only[List.getElem?_replicate]at hi
  split at hi
  ·cases hi;exact Y4 (h.2 i ‹_›)
  ·cases hi
 | .struct sz os fs,vs,h=>by
  simp only[Y9,Bool.and_eq_true,beq_iff_eq,List.all_eq_true]at h
  simp only[z7,b5]
  exact⟨_,rfl,h.1.1,h.1.2,z0n h.2⟩
 | .int _,[v],h| .bool,[v],h| .str,[v],h| .slice _ _,[v],h| .ptr,[v],h| .map,[v],h| .func,[v],h| .iface,[v],h=>by
  simp only[Y9]at h
  exact z5t h
 | .opq _,[v],h=>by simp[Y9,q2T]at h
 | .int _,[],h| .bool,[],h| .str,[],h| .slice _ _,[],h| .ptr,[],h| .map,[],h| .func,[],h| .iface,[],h| .opq _,[],h=>by simp[Y9]at h
 | .int _,_::_::_,h| .bool,_::_::_,h| .str,_::_::_,h| .slice _ _,_::_::_,h| .ptr,_::_::_,h| .map,_::_::_,h| .func,_::_::_,h| .iface,_::_::_,h| .opq _,_::_::_,h=>by simp[Y9]at h
theorem z0n {H:Hp}:∀{fs:List Ty} {os:List Nat} {vs:List Value},q0Z fs os vs=true→s7 H fs os vs (q6S fs)
 | [],_,_,_=>by simp[s7,q6S]
 |f::fs,o::os,vs,h=>by
  simp only[q0Z,Bool.and_eq_true,decide_eq_true_eq]at h
  simp only[s7,q6S]
  exact⟨_,_,rfl,h.1.1,Y4 h.1.2,z0n h.2⟩
 |_::_,[],_,h=>by simp[q0Z]at h
end
theorem q2S:∀(τ:Ty),(o9 τ).ty=τ
 | .struct sz os fs=>by simp only[o9];split <;> simp[V.ty]
 | .slice _ _=>by simp[o9,V.ty]
 | .int _| .bool| .str| .ptr| .map| .func| .iface| .opq _| .arr _ _=>by simp[o9,V.ty]
theorem q8j:∀(fs:List Ty),(q28 fs).length=fs.length
 | []=>rfl
 |f::fs=>by simp[q28,q8j fs]
theorem z0o:∀{fs:List Ty} {os:List Nat} {vs:List Value} {i:Nat} {f:Ty},q0Z fs os vs=true→fs[i]? =some f→∃o,os[i]? =some o∧o+f.size≤vs.length∧Y9 f (chunk vs o f.size)=true
 | [],_,_,_,_,_,h=>by simp at h
 |f::fs,o::os,vs,0,g,h,hg=>by
  simp only[q0Z,Bool.and_eq_true,decide_eq_true_eq]at h
  simp at hg;subst hg
  exact⟨o,rfl,h.1.1,h.1.2⟩
 |f::fs,o::os,vs,i+1,g,h,hg=>by
  simp only[q0Z,Bool.and_eq_true,decide_eq_true_eq]at h
  obtain⟨o',a,b,c⟩:=z0o h.2 (show fs[i]? =some g by simpa using hg)
  exact⟨o',by simpa using a,b,c⟩
 |_::_,[],_,_,_,h,_=>by simp[q0Z]at h
theorem q4f (τ:Ty):(o9 τ).plain=true:=by
 cases τ <;> simp only[o9] <;> (try split) <;> rfl
mutual
theorem z1y:∀(τ:Ty),(o9 τ).v8=true
 | .struct sz os fs=>by simp only[o9];split <;> simp[V.v8,z0m fs]
 | .slice _ _=>by simp[o9,V.v8]
 | .int _| .bool| .str| .ptr| .map| .func| .iface| .opq _| .arr _ _=>by simp[o9,V.v8]
theorem z0m:∀(fs:List Ty),V.Q0 (q28 fs)=true
 | []=>rfl
 |f::fs=>by simp[q28,V.Q0,z1y f,z0m fs]
end
section
variable {Γ:G} {hm:Option Key}
mutual
theorem q6a:∀(τ:Ty) {p:List Nat} {vs:List Value},Y9 τ vs=true→q8 Γ hm p (o9 τ) vs
 | .struct sz os fs,p,vs,h=>by
  simp only[o9];split
  ·simp only[q8];exact Y4 (τ:=.struct sz os fs) h
  ·simp only[Y9,Bool.and_eq_true,beq_iff_eq,List.all_eq_true]at h
   simp only[q8]
   exact⟨h.1.1,h.1.2,by simp[Ty.kids,q8j],rfl,z1x fs sz os fs 0 (fun i f hf=>by simpa using hf) h.2⟩
 | .slice eb e,p,vs,h=>by
  match vs,h with
  | [v],h=>
   simp only[Y9]at h
   cases v <;> simp[q2T]at h
   obtain⟨⟨rfl,rfl⟩,rfl⟩:=h
   simp only[o9,q8]
   exact⟨none,rfl⟩
  | [],h=>simp[Y9]at h
  |_::_::_,h=>simp[Y9]at h
 | .int k,p,vs,h=>by simp only[o9,q8];exact Y4 h
 | .bool,p,vs,h=>by simp only[o9,q8];exact Y4 h
 | .str,p,vs,h=>by simp only[o9,q8];exact Y4 h
 | .ptr,p,vs,h=>by simp only[o9,q8];exact Y4 h
 | .map,p,vs,h=>by simp only[o9,q8];exact Y4 h
 | .func,p,vs,h=>by simp only[o9,q8];exact Y4 h
 | .iface,p,vs,h=>by simp only[o9,q8];exact Y4 h
 | .opq s,p,vs,h=>by simp only[o9,q8];exact Y4 h
 | .arr n e,p,vs,h=>by simp only[o9,q8];exact Y4 h
theorem z1x:∀(gs:List Ty) (sz:Nat) (os:List Nat) (fs:List Ty) (i:Nat) {p:List Nat} {vs:List Value},(∀(j:Nat) (f:Ty),gs[j]? =some f→fs[i+j]? =some f)→q0Z fs os vs=true→
  y4 Γ hm p i (.struct sz os fs) (q28 gs) vs
 | [],_,_,_,_,_,_,_,_=>by simp[q28,y4]
 |f::gs,sz,os,fs,i,p,vs,hg,h=>by
  have hf:=hg 0 f rfl
  obtain⟨o,a,b,c⟩:=z0o h hf
  simp only[q28,y4,q2S]
  refine⟨⟨o,f,by simp[Ty.child,show os[i]? =some o by simpa using a,show fs[i]? =some f by simpa using hf],rfl,b,q6a f c⟩,z1x gs sz os fs (i+1) (fun j g hj=>?_) h⟩
  rw[show i+1+j=i+(j+1) by omega]
  exact hg (j+1) g (by simpa using hj)
end
end
theorem z5E {P:Program} {T:TypeId} (h:Q9 P T=true):∃z,(∀w,(zeroValue T).run P w= .ok z w)∧Y9 (ty P T) z.cells.toList=true∧x8 z=(ty P T).isAgg:=by
 unfold Q9 at h
 cases hi:P.info? T with
 |none=>simp[hi]at h
 |some i=>
  cases hz:i.zero with
  |none=>simp[hi,hz]at h
  |some z=>
   simp[hi,hz]at h
   exact⟨z,fun w=>by simp[zeroValue,typeInfo,hi,hz],h.1.1,h.1.2⟩
mutual
def view:V→V
 | .ts eb e cs=>.d (.slice eb e) (.slice cs)
 | .agg τ vs=>.agg τ (views vs)
 |x=>x
def views:List V→List V
 | []=>[]
 |x::xs=>view x::views xs
end
theorem q8I:∀xs:List V,(views xs).length=xs.length
 | []=>rfl
 |x::xs=>by simp[views,q8I xs]
theorem z78 (x:V):(view x).ty=x.ty:=by cases x <;> simp[view,V.ty]
theorem z8O (x:V):(view x).plain=x.plain:=by cases x <;> simp[view,V.plain]
section
variable {Γ:G} {hm:Option Key}
mutual
theorem z5u:∀(x:V) {p p':List Nat} {vs:List Value},q8 Γ hm p x vs→q8 Γ none p' (view x) vs
 | .ts eb e cs,_,_,_,h=>by
  simp only[q8,view]at h ⊢
  obtain⟨a,n,cap,k,_,rfl,h2,_⟩:=h
  exact h2
 | .agg τ xs,_,_,_,h=>by
  simp only[q8,view]at h ⊢
  exact⟨h.1,h.2.1,by rw[q8I];exact h.2.2.1,h.2.2.2.1,z3R xs h.2.2.2.2⟩
 | .d _ _,_,_,_,h| .sl _ _ _ _,_,_,_,h| .emp _ _,_,_,_,h| .nilc,_,_,_,h| .ptr _ _ _,_,_,_,h| .cptr _ _,_,_,_,h
 | .sr _ _ _ _ _ _ _,_,_,_,h| .mp _,_,_,_,h| .fn _ _,_,_,_,h| .top _,_,_,_,h=>by simpa only[q8,view]using h
 | .any,_,_,_,h=>by simp only[q8,view]
 | .tup _,_,_,_,h=>by simp only[q8]at h
theorem z3R:∀(xs:List V) {p p':List Nat} {i:Nat} {τ:Ty} {vs:List Value},y4 Γ hm p i τ xs vs→y4 Γ none p' i τ (views xs) vs
 | [],_,_,_,_,_,_=>by simp only[views,y4]
 |x::xs,_,_,_,_,_,h=>by
  simp only[y4,views,z78]at h ⊢
  obtain⟨⟨o,f,h1,h2,h3,h4⟩,h5⟩:=h
  exact⟨⟨o,f,h1,h2,h3,z5u x h4⟩,z3R xs h5⟩
end
end
mutual
def s9:V→Option C
 | .d _ c=>some c
 | .emp _ _=>some (.slice [])
 | .sl _ _ cs _=>some (.slice cs)
 | .ts _ _ cs=>some (.slice cs)
 | .agg _ vs=>(Z7 vs).map .agg
 |_=>none
def Z7:List V→Option (List C)
 | []=>some []
 |x::xs=>match s9 x,Z7 xs with
  |some c,some cs=>some (c::cs)
  |_,_=>none
end
theorem q6O:∀{xs:List V} {cs:List C},Z7 xs=some cs→cs.length=xs.length∧∀(i:Nat) (x:V) (c:C),xs[i]? =some x→cs[i]? =some c→s9 x=some c
 | [],cs,h=>by simp[Z7]at h;subst h;simp
 |x::xs,cs,h=>by
  simp only[Z7]at h
  cases h1:s9 x with
  |none=>simp[h1]at h
  |some c=>
   cases h2:Z7 xs with
   |none=>simp[h1,h2]at h
   |some cs'=>
    simp[h1,h2]at h
    subst h
    obtain⟨a,b⟩:=q6O h2
    refine⟨by simp[a],fun i y d hy hd=>?_⟩
    cases i with
    |zero=>simp at hy hd;subst hy;subst hd;exact h1
    |succ i=>exact b i y d (by simpa using hy) (by simpa using hd)
section
variable {Γ:G} {hm:Option Key}
mutual
theorem q0M:∀(x:V) {p:List Nat} {vs:List Value} {c:C},q8 Γ hm p x vs→s9 x=some c→z7 Γ.H x.ty vs c
 | .d τ c,_,_,_,h,hc=>by simp[s9]at hc;subst hc;simpa only[q8,V.ty]using h
 | .emp eb e,_,_,_,h,hc=>by
  simp[s9]at hc;subst hc
  simp only[q8]at h
  obtain⟨a,rfl⟩:=h
  exact v7 rfl (Nat.le_refl _) (Nat.zero_le _) (by rw[Nat.zero_mul];exact Nat.zero_le _) (.inl rfl)
 | .sl eb e cs t,_,_,_,h,hc=>by
  simp[s9]at hc;subst hc
  simp only[q8]at h
  obtain⟨a,n,cap,rfl,h2,_⟩:=h
  exact h2
 | .ts eb e cs,_,_,_,h,hc=>by
  simp[s9]at hc;subst hc
  simp only[q8]at h
  obtain⟨a,n,cap,k,_,rfl,h2,_⟩:=h
  exact h2
 | .agg τ xs,_,vs,_,h,hc=>by
  simp only[s9]at hc
  cases h1:Z7 xs with
  |none=>simp[h1]at hc
  |some cs=>
   simp[h1]at hc;subst hc
   simp only[q8]at h
   obtain⟨a1,a2,a3,a4,a5⟩:=h
   obtain⟨b1,b2⟩:=q6O h1
   have kid:=z0T xs a5 h1
   simp only[V.ty]
   cases τ <;> simp[Ty.isAgg]at a4
   case arr n e=>
    simp only[z7]
    refine⟨cs,rfl,by rw[b1,a3];rfl,by simpa[Ty.size]using a1,a2,fun i c hi=>?_⟩
    obtain⟨o,f,k1,_,k3⟩:=kid i c hi
    simp only[Nat.zero_add,Ty.child]at k1
    split at k1
    ·simp at k1;obtain⟨rfl,rfl⟩:=k1;exact k3
    ·cases k1
   case struct sz os fs=>
    simp only[z7]
    refine⟨cs,rfl,by simpa[Ty.size]using a1,a2,s7.q4L (by rw[b1,a3];rfl) fun i f c hf hi=>?_⟩
    obtain⟨o,f',k1,k2,k3⟩:=kid i c hi
    simp only[Nat.zero_add,Ty.child]at k1
    cases ho:os[i]? with
    |none=>simp[ho]at k1
    |some o'=>simp[ho,hf]at k1;obtain⟨rfl,rfl⟩:=k1;exact⟨o',rfl,k2,k3⟩
 | .nilc,_,_,_,_,hc| .ptr _ _ _,_,_,_,_,hc| .cptr _ _,_,_,_,_,hc
 | .sr _ _ _ _ _ _ _,_,_,_,_,hc| .mp _,_,_,_,_,hc| .fn _ _,_,_,_,_,hc| .top _,_,_,_,_,hc| .any,_,_,_,_,hc| .tup _,_,_,_,_,hc=>by simp[s9]at hc
theorem z0T:∀(xs:List V) {p:List Nat} {i0:Nat} {τ:Ty} {vs:List Value} {cs:List C},y4 Γ hm p i0 τ xs vs→Z7 xs=some cs→
  ∀(i:Nat) (c:C),cs[i]? =some c→∃o f,τ.child (i0+i)=some (o,f)∧o+f.size≤vs.length∧z7 Γ.H f (chunk vs o f.size) c
 | [],_,_,_,_,_,_,h,i,c,hc=>by simp[Z7]at h;subst h;simp at hc
 |x::xs,_,i0,τ,vs,cs,h,hcs,i,c,hc=>by
  simp only[y4]at h
  simp only[Z7]at hcs
  cases h1:s9 x with
  |none=>simp[h1]at hcs
  |some d=>
   cases h2:Z7 xs with
   |none=>simp[h1,h2]at hcs
   |some ds=>
    simp[h1,h2]at hcs
    subst hcs
    cases i with
    |zero=>
     simp at hc;subst hc
     obtain⟨⟨o,f,k1,k2,k3,k4⟩,_⟩:=h
     have:=q0M x k4 h1
     rw[k2]at this
     exact⟨o,f,k1,k3,this⟩
    |succ i=>
     have:=z0T xs h.2 h2 i c (by simpa using hc)
     rw[show i0+(i+1)=i0+1+i by omega]
     exact this
end
end
end Go.E
namespace Go.E
open Go
theorem w5 (vs:List Value) (o n i:Nat):(chunk vs o n)[i]? =if i<n then vs[o+i]? else none:=by
 simp[chunk,List.getElem?_take,List.getElem?_drop]
def w7 (vs:List Value) (o:Nat) (ws:List Value):List Value:=vs.take o++ws++vs.drop (o+ws.length)
theorem Q7 {vs ws:List Value} {o:Nat} (h:o+ws.length≤vs.length):(w7 vs o ws).length=vs.length:=by
 simp[w7];omega
theorem Z3 {vs ws:List Value} {o:Nat} (h:o+ws.length≤vs.length) (i:Nat):
  (w7 vs o ws)[i]? =if o≤i∧i<o+ws.length then ws[i-o]? else vs[i]?:=by
 unfold w7
 by_cases h1:i<o
 ·rw[if_neg (by omega),List.append_assoc,List.getElem?_append_left (by simp;omega),List.getElem?_take,if_pos h1]
 ·by_cases h2:i<o+ws.length
  ·rw[if_pos (by omega),List.append_assoc,List.getElem?_append_right (by simp;omega),List.getElem?_append_left (by simp;omega)]
   simp only[List.length_take]
   congr 1;omega
  ·rw[if_neg (by omega),List.getElem?_append_right (by simp;omega),List.getElem?_drop]
   simp only[List.length_append,List.length_take]
   congr 1;omega
theorem q2D {vs ws:List Value} {o n:Nat} (h:o+ws.length≤vs.length) (hn:ws.length=n):chunk (w7 vs o ws) o n=ws:=by
 apply List.ext_getElem?
 intro i
 rw[w5,Z3 h]
 split
 ·rw[if_pos (by omega)];congr 1;omega
 ·rw[List.getElem?_eq_none (by omega)]
theorem H8 {vs ws:List Value} {o o' n:Nat} (h:o+ws.length≤vs.length) (hd:o'+n≤o∨o+ws.length≤o'):chunk (w7 vs o ws) o' n=chunk vs o' n:=by
 apply List.ext_getElem?
 intro i
 rw[w5,w5,Z3 h]
 split
 ·rw[if_neg (by omega)]
 ·rfl
theorem z2N {vs ws:List Value} {o o1 n1 o2:Nat} (h:o1+n1≤vs.length) (hw:o2+ws.length≤n1) (ho:o=o1+o2):chunk (w7 vs o ws) o1 n1=w7 (chunk vs o1 n1) o2 ws:=by
 subst ho
 apply List.ext_getElem?
 intro i
 have hl:(chunk vs o1 n1).length=n1:=u9 _ _ _ h
 rw[w5,Z3 (by omega),Z3 (by omega),w5]
 by_cases hi:i<n1
 ·rw[if_pos hi,if_pos hi]
  by_cases h2:o2≤i∧i<o2+ws.length
  ·rw[if_pos (by omega),if_pos h2];congr 1;omega
  ·rw[if_neg (by omega),if_neg h2]
 ·rw[if_neg hi,if_neg hi,if_neg (by omega)]
theorem J0.w7 {vs ws:List Value} {o:Nat} (h1:J0 vs) (h2:J0 ws):J0 (w7 vs o ws):=by
 intro v hv
 simp only[Go.E.w7,List.mem_append]at hv
 rcases hv with(hv|hv)|hv
 ·exact h1 v (List.mem_of_mem_take hv)
 ·exact h2 v hv
 ·exact h1 v (List.mem_of_mem_drop hv)
def q5Z (o n:Nat):List Nat→List Ty→Bool
 |o'::os,f::fs=>decide (o'+f.size≤o∨o+n≤o')&&q5Z o n os fs
 |_,_=>true
def q5w:List Nat→List Ty→Bool
 |o::os,f::fs=>q5Z o f.size os fs&&q5w os fs
 |_,_=>true
mutual
def Ty.W6:Ty→Bool
 | .struct _ os fs=>q5w os fs&&Ty.z2I fs
 | .arr _ e=>e.W6
 |_=>true
def Ty.z2I:List Ty→Bool
 | []=>true
 |f::fs=>f.W6&&Ty.z2I fs
end
theorem q9D:∀{os:List Nat} {fs:List Ty} {o n j o':Nat} {f:Ty},q5Z o n os fs=true→os[j]? =some o'→fs[j]? =some f→o'+f.size≤o∨o+n≤o'
 | [],_,_,_,_,_,_,_,h,_=>by simp at h
 |_::_,[],_,_,_,_,_,_,_,h=>by simp at h
 |o1::os,f1::fs,o,n,0,o',f,h,h1,h2=>by
  simp only[q5Z,Bool.and_eq_true,decide_eq_true_eq]at h
  simp at h1 h2;subst h1;subst h2;exact h.1
 |o1::os,f1::fs,o,n,j+1,o',f,h,h1,h2=>by
  simp only[q5Z,Bool.and_eq_true]at h
  exact q9D h.2 (show os[j]? =some o' by simpa using h1) (show fs[j]? =some f by simpa using h2)
theorem q6M:∀{os:List Nat} {fs:List Ty} {i j o o':Nat} {f f':Ty},q5w os fs=true→i<j→os[i]? =some o→fs[i]? =some f→os[j]? =some o'→fs[j]? =some f'→o'+f'.size≤o∨o+f.size≤o'
 | [],_,_,_,_,_,_,_,_,_,h,_,_,_=>by simp at h
 |_::_,[],_,_,_,_,_,_,_,_,_,h,_,_=>by simp at h
 |o1::os,f1::fs,0,j+1,o,o',f,f',h,_,h1,h2,h3,h4=>by
  simp only[q5w,Bool.and_eq_true]at h
  simp at h1 h2;subst h1;subst h2
  exact q9D h.1 (show os[j]? =some o' by simpa using h3) (show fs[j]? =some f' by simpa using h4)
 |o1::os,f1::fs,i+1,j+1,o,o',f,f',h,hij,h1,h2,h3,h4=>by
  simp only[q5w,Bool.and_eq_true]at h
  exact q6M h.2 (show i<j by omega) (show os[i]? =some o by simpa using h1) (show fs[i]? =some f by simpa using h2) (show os[j]? =some o' by simpa using h3) (show fs[j]? =some f' by simpa using h4)
 |_::_,_::_,_,0,_,_,_,_,_,hij,_,_,_,_=>by omega
theorem z8E {os:List Nat} {fs:List Ty} {i j o o':Nat} {f f':Ty} (h:q5w os fs=true) (hij:i≠j) (h1:os[i]? =some o) (h2:fs[i]? =some f) (h3:os[j]? =some o') (h4:fs[j]? =some f'):
  o'+f'.size≤o∨o+f.size≤o':=by
 rcases Nat.lt_or_ge i j with h5|h5
 ·exact q6M h h5 h1 h2 h3 h4
 ·have:=q6M h (show j<i by omega) h3 h4 h1 h2
  omega
theorem z4t:∀{fs:List Ty} {i:Nat} {f:Ty},Ty.z2I fs=true→fs[i]? =some f→f.W6=true
 | [],_,_,_,h=>by simp at h
 |f1::fs,0,f,h,h1=>by simp only[Ty.z2I,Bool.and_eq_true]at h;simp at h1;subst h1;exact h.1
 |f1::fs,i+1,f,h,h1=>by simp only[Ty.z2I,Bool.and_eq_true]at h;exact z4t h.2 (show fs[i]? =some f by simpa using h1)
def Ty.q06:Ty→List Ty
 | .struct _ _ fs=>fs
 | .arr n e=>List.replicate n e
 |_=>[]
def C.set:C→Nat→C→C
 | .agg cs,i,c=>.agg (cs.set i c)
 |c,_,_=>c
def X1 (c:C):Nat→List Ty→List V
 |_,[]=>[]
 |j,f::fs=>.d f (c.get j)::X1 c (j+1) fs
def V.set:V→Nat→V→V
 | .d τ c,i,.d _ c'=>.d τ (c.set i c')
 | .d τ c,i,y=>.agg τ ((X1 c 0 τ.q06).set i y)
 | .agg τ vs,i,y=>.agg τ (vs.set i y)
 |_,_,_=>.any
def V.setAt:V→List Nat→V→V
 |_,[],y=>y
 |x,i::q,y=>x.set i ((x.get i).setAt q y)
theorem Ty.z4T (τ:Ty):τ.q06.length=τ.kids:=by cases τ <;> simp[Ty.q06,Ty.kids]
theorem z7.child {H:Hp} {τ f:Ty} {vs:List Value} {c:C} {i:Nat} (h:z7 H τ vs c) (hf:τ.q06[i]? =some f):∃o,τ.child i=some (o,f):=by
 cases τ <;> simp only[Ty.q06,List.getElem?_nil,reduceCtorEq]at hf
 case arr n e=>
  rw[List.getElem?_replicate]at hf
  split at hf
  ·cases hf;rename_i hi;exact⟨_,by simp only[Ty.child];rw[if_pos hi]⟩
  ·cases hf
 case struct sz os fs=>
  simp only[z7]at h
  obtain⟨cs,rfl,_,_,h3⟩:=h
  obtain⟨o,c,a,_⟩:=h3.get hf
  exact⟨o,by simp[Ty.child,a,hf]⟩
theorem z71 {τ f f':Ty} {i j o o':Nat} (hd:τ.W6=true) (h1:τ.child i=some (o,f)) (h2:τ.child j=some (o',f')) (hij:i≠j):o'+f'.size≤o∨o+f.size≤o':=by
 cases τ <;> simp only[Ty.child,reduceCtorEq]at h1 h2
 case arr n e=>
  split at h1 <;> simp at h1
  split at h2 <;> simp at h2
  obtain⟨rfl,rfl⟩:=h1
  obtain⟨rfl,rfl⟩:=h2
  rcases Nat.lt_or_ge j i with hlt|hge
  ·left
   have:(j+1)*e.size≤i*e.size:=Nat.mul_le_mul_right _ (by omega)
   rw[Nat.add_mul]at this;omega
  ·right
   have:(i+1)*e.size≤j*e.size:=Nat.mul_le_mul_right _ (by omega)
   rw[Nat.add_mul]at this;omega
 case struct sz os fs=>
  simp only[Ty.W6,Bool.and_eq_true]at hd
  cases ho:os[i]? with
  |none=>simp[ho]at h1
  |some a=>
   cases hf:fs[i]? with
   |none=>simp[ho,hf]at h1
   |some g=>
    cases ho':os[j]? with
    |none=>simp[ho']at h2
    |some a'=>
     cases hf':fs[j]? with
     |none=>simp[ho',hf']at h2
     |some g'=>
      simp[ho,hf]at h1
      simp[ho',hf']at h2
      obtain⟨rfl,rfl⟩:=h1
      obtain⟨rfl,rfl⟩:=h2
      exact z8E hd.1 hij ho hf ho' hf'
section
variable {Γ:G} {hm:Option Key}
theorem z7.set {H:Hp} {τ f:Ty} {vs ws:List Value} {c c':C} {i o:Nat} (h:z7 H τ vs c) (hd:τ.W6=true) (hc:τ.child i=some (o,f)) (hr:z7 H f ws c'):
  z7 H τ (w7 vs o ws) (c.set i c'):=by
 have hwl:=hr.length
 have hb:=(h.get hc).2.1
 cases τ <;> simp only[Ty.child,reduceCtorEq]at hc
 case arr n e=>
  split at hc <;> simp at hc
  rename_i hi
  obtain⟨rfl,rfl⟩:=hc
  simp only[z7]at h ⊢
  obtain⟨cs,rfl,h1,h2,h3,h4⟩:=h
  refine⟨cs.set i c',rfl,by simpa using h1,by rw[Q7 (by omega)];exact h2,h3.w7 hr.one,fun j cc hj=>?_⟩
  rw[List.getElem?_set]at hj
  split at hj
  ·rename_i hij
   subst hij
   split at hj
   ·cases hj
    rw[q2D (by omega) hwl];exact hr
   ·cases hj
  ·rename_i hij
   have hjl:j<n:=by rw[←h1];exact(List.getElem?_eq_some_iff.1 hj).1
   rw[H8 (by omega)]
   ·exact h4 j cc hj
   ·rcases Nat.lt_or_ge j i with hlt|hge
    ·left
     have:(j+1)*e.size≤i*e.size:=Nat.mul_le_mul_right _ (by omega)
     rw[Nat.add_mul]at this;omega
    ·right
     have:(i+1)*e.size≤j*e.size:=Nat.mul_le_mul_right _ (by omega)
     rw[Nat.add_mul]at this;omega
 case struct sz os fs=>
  simp only[z7]at h ⊢
  simp only[Ty.W6,Bool.and_eq_true]at hd
  obtain⟨cs,rfl,h1,h2,h3⟩:=h
  cases ho:os[i]? with
  |none=>simp[ho]at hc
  |some o'=>
   cases hf:fs[i]? with
   |none=>simp[ho,hf]at hc
   |some f'=>
    simp[ho,hf]at hc
    obtain⟨rfl,rfl⟩:=hc
    have hl:=h3.z8n
    refine⟨cs.set i c',rfl,by rw[Q7 (by omega)];exact h1,h2.w7 hr.one,s7.q4L (by simpa using hl) fun j g cc hg hcc=>?_⟩
    rw[List.getElem?_set]at hcc
    obtain⟨oj,cj,a,b,d,r⟩:=h3.get hg
    refine⟨oj,a,by rw[Q7 (by omega)];exact d,?_⟩
    split at hcc
    ·rename_i hij
     subst hij
     rw[hf]at hg;cases hg
     rw[ho]at a;cases a
     split at hcc
     ·cases hcc
      rw[q2D (by omega) hwl];exact hr
     ·cases hcc
    ·rename_i hij
     rw[b]at hcc;cases hcc
     rw[H8 (by omega)]
     ·exact r
     ·have:=z8E hd.1 (fun e=>hij e) ho hf a hg
      omega
theorem y4.q4L {p:List Nat} {τ:Ty}:∀{xs:List V} {i0:Nat} {vs:List Value},
  (∀(i:Nat) (x:V),xs[i]? =some x→∃o f,τ.child (i0+i)=some (o,f)∧x.ty=f∧o+f.size≤vs.length∧q8 Γ hm (p++[i0+i]) x (chunk vs o f.size))→y4 Γ hm p i0 τ xs vs
 | [],_,_,_=>by simp[y4]
 |x::xs,i0,vs,h=>by
  simp only[y4]
  refine⟨h 0 x rfl,y4.q4L fun i y hy=>?_⟩
  have:=h (i+1) y (by simpa using hy)
  rw[show i0+1+i=i0+(i+1) by omega];exact this
theorem q7n (c:C):∀(fs:List Ty) (j i:Nat),(X1 c j fs)[i]? =(fs[i]?).map fun f=>.d f (c.get (j+i))
 | [],_,_=>by simp[X1]
 |f::fs,j,0=>by simp[X1]
 |f::fs,j,i+1=>by
  simp only[X1,List.getElem?_cons_succ]
  rw[q7n c fs (j+1) i,show j+(i+1)=j+1+i by omega]
theorem q5b (c:C):∀(fs:List Ty) (j:Nat),(X1 c j fs).length=fs.length
 | [],_=>rfl
 |f::fs,j=>by simp[X1,q5b c fs]
theorem z9H {τ:Ty} {c:C} {p:List Nat} {vs:List Value} (h:z7 Γ.H τ vs c) (ha:τ.isAgg=true):q8 Γ hm p (.agg τ (X1 c 0 τ.q06)) vs:=by
 simp only[q8]
 refine⟨h.length,h.one,by rw[q5b,Ty.z4T],ha,y4.q4L fun i x hx=>?_⟩
 rw[q7n]at hx
 cases hf:τ.q06[i]? with
 |none=>simp[hf]at hx
 |some f=>
  simp[hf]at hx
  subst hx
  obtain⟨o,ho⟩:=h.child hf
  obtain⟨_,h2,h3⟩:=h.get ho
  refine⟨o,f,by simpa using ho,rfl,h2,?_⟩
  simpa only[q8]using h3
theorem y1n {τ f:Ty} {i o:Nat} (h:τ.child i=some (o,f)):τ.isAgg=true:=by
 cases τ <;> simp[Ty.child]at h <;> rfl
theorem z2W {p:List Nat} {τ:Ty} {xs:List V} {y:V} {vs ws:List Value} {i o:Nat} (h:q8 Γ hm p (.agg τ xs) vs) (hd:τ.W6=true) (hc:τ.child i=some (o,y.ty))
  (hr:q8 Γ hm (p++[i]) y ws) (hy:y.plain=true) (hb:o+y.ty.size≤vs.length):q8 Γ hm p (.agg τ (xs.set i y)) (w7 vs o ws):=by
 simp only[q8]at h ⊢
 obtain⟨h1,h2,h3,h4,h5⟩:=h
 have hwl:=hr.length hy
 refine⟨by rw[Q7 (by omega)];exact h1,h2.w7 (hr.one hy),by simpa using h3,h4,y4.q4L fun j x hx=>?_⟩
 rw[List.getElem?_set]at hx
 split at hx
 ·rename_i hij
  subst hij
  split at hx
  ·cases hx
   refine⟨o,_,by simpa using hc,rfl,by rw[Q7 (by omega)];exact hb,?_⟩
   rw[q2D (by omega) hwl];simpa using hr
  ·cases hx
 ·rename_i hij
  obtain⟨o',f',a,b,d,r⟩:=h5.get hx
  refine⟨o',f',a,b,by rw[Q7 (by omega)];exact d,?_⟩
  rw[H8 (by omega)]
  ·exact r
  ·rw[Nat.zero_add]at a
   have:=z71 hd hc a hij
   omega
theorem q8.set {p:List Nat} {x y:V} {vs ws:List Value} {i o:Nat} (h:q8 Γ hm p x vs) (hd:x.ty.W6=true) (hc:x.ty.child i=some (o,y.ty)) (hg:x.get i≠.any)
  (hr:q8 Γ hm (p++[i]) y ws) (hy:y.plain=true):q8 Γ hm p (x.set i y) (w7 vs o ws)∧(x.set i y).ty=x.ty∧(x.set i y).plain=true:=by
 have hb:=(h.get hc hg).2.1
 have gen:∀{τ:Ty} {c:C},x= .d τ c→q8 Γ hm p (.agg τ ((X1 c 0 τ.q06).set i y)) (w7 vs o ws):=by
  intro τ c e
  subst e
  simp only[q8]at h
  simp only[V.ty]at hc hd
  exact z2W (z9H h (y1n hc)) hd hc hr hy hb
 cases x <;> (try (simp only[V.get,ne_eq,not_true_eq_false]at hg;done))
 case d τ c=>
  have:=gen rfl
  cases y
  case d τ' c'=>
   simp only[V.set]
   refine⟨?_,rfl,rfl⟩
   simp only[q8]at h hr ⊢
   simp only[V.ty]at hc hd
   exact h.set hd hc hr
  all_goals (simp only[V.set];exact⟨this,rfl,rfl⟩)
 case agg τ xs=>
  simp only[V.set]
  exact⟨z2W h hd hc hr hy hb,rfl,rfl⟩
theorem z9Y {τ f:Ty} {i o:Nat} (h:τ.W6=true) (hc:τ.child i=some (o,f)):f.W6=true:=by
 cases τ <;> simp only[Ty.child,reduceCtorEq]at hc
 case arr n e=>split at hc <;> simp at hc;rw[←hc.2];simpa[Ty.W6]using h
 case struct sz os fs=>
  simp only[Ty.W6,Bool.and_eq_true]at h
  cases ho:os[i]? with
  |none=>simp[ho]at hc
  |some o'=>
   cases hf:fs[i]? with
   |none=>simp[ho,hf]at hc
   |some f'=>simp[ho,hf]at hc;rw[←hc.2];exact z4t h.2 hf
theorem q8.setAt:∀{q:List Nat} {p:List Nat} {x y:V} {vs ws:List Value} {o:Nat},q8 Γ hm p x vs→x.plain=true→x.ty.W6=true→x.ty.walk q=some (o,y.ty)→x.at q≠.any→
  q8 Γ hm (p++q) y ws→y.plain=true→
  q8 Γ hm p (x.setAt q y) (w7 vs o ws)∧(x.setAt q y).ty=x.ty∧(x.setAt q y).plain=true
 | [],p,x,y,vs,ws,o,h,hp,hd,hw,hx,hr,hy=>by
  simp[Ty.walk]at hw
  obtain⟨rfl,ht⟩:=hw
  have h1:=h.length hp
  have h2:=hr.length hy
  have:w7 vs 0 ws=ws:=by
   simp only[w7,List.take_zero,List.nil_append,Nat.zero_add]
   rw[List.drop_eq_nil_of_le (by rw[h1,h2,ht];exact Nat.le_refl _)];simp
  simp only[V.setAt,this]
  exact⟨by simpa using hr,ht.symm,hy⟩
 |i::q,p,x,y,vs,ws,o,h,hp,hd,hw,hx,hr,hy=>by
  simp only[Ty.walk]at hw
  cases hc:x.ty.child i with
  |none=>simp[hc]at hw
  |some of=>
   obtain⟨o1,f⟩:=of
   simp only[hc]at hw
   cases hw2:f.walk q with
   |none=>simp[hw2]at hw
   |some ot=>
    obtain⟨o2,t⟩:=ot
    simp only[hw2,Option.some.injEq,Prod.mk.injEq]at hw
    obtain⟨rfl,rfl⟩:=hw
    have hne:x.get i≠.any:=by
     intro e
     apply hx
     simp only[V.at,e];exact V.q9G q
    obtain⟨h1,h2,h3⟩:=h.get hc hne
    have hpl:(x.get i).plain=true:=V.q13 h3 hne
    have _hget:=q4T hc
    have ih:=q8.setAt (q:=q) h3 hpl (by rw[h1];exact z9Y hd hc) (by rw[h1];exact hw2) (by simpa[V.at]using hx) (by simpa using hr) hy
    obtain⟨i1,i2,i3⟩:=ih
    have hwl:=hr.length hy
    have hb2:o2+y.ty.size≤f.size:=by
     obtain⟨_,hb,_⟩:=h3.at_ (by rw[h1];exact hw2) (by simpa[V.at]using hx) hpl
     rwa [u9 _ _ _ h2]at hb
    have hset:=q8.set (i:=i) (o:=o1) (y:=(x.get i).setAt q y) h hd (by rw[i2,h1];exact hc) hne i1 i3
    have e1:w7 vs o1 (w7 (chunk vs o1 f.size) o2 ws)=w7 vs (o1+o2) ws:=by
     have hl1:(chunk vs o1 f.size).length=f.size:=u9 _ _ _ h2
     have hl2:(w7 (chunk vs o1 f.size) o2 ws).length=f.size:=by rw[Q7 (by omega)];exact hl1
     apply List.ext_getElem?
     intro j
     rw[Z3 (vs:=vs) (o:=o1) (by omega),Z3 (vs:=vs) (o:=o1+o2) (ws:=ws) (by omega),hl2]
     by_cases hj:o1≤j∧j<o1+f.size
     ·rw[if_pos hj,Z3 (by omega),w5]
      by_cases hk:o1+o2≤j∧j<o1+o2+ws.length
      ·rw[if_pos (by omega),if_pos hk];congr 1;omega
      ·rw[if_neg (by omega),if_neg hk,if_pos (by omega)];congr 1;omega
     ·rw[if_neg hj,if_neg (by omega)]
    rw[e1]at hset
    simp only[V.setAt]
    exact hset
end
end Go.E
namespace Go.E
open Go
def w4 (P:Program) (o:Oper) (a:Act) (w:World) (u2:Value→World→Prop):Prop:=
 ∀(next:Act→World→Prop) (Q:Exit→Act→World→Prop),(∀v w',u2 v w'→next (a.put o.dst v) w')→o.wp P a w next Q
section
variable {P:Program} {o:Oper} {a:Act} {w w':World} {u2:Value→World→Prop}
theorem w4.val {v:Value} (h:(execOp a.eval o).run P w= .ok (.value v) w') (hp:u2 v w'):w4 P o a w u2:=by
 intro next Q hn
 unfold Oper.wp
 rw[h]
 exact hn v w' hp
theorem w4.skip (h:(execOp a.eval o).run P w= .ok .skip w') (hp:u2 undef w'):w4 P o a w u2:=by
 intro next Q hn
 unfold Oper.wp
 rw[h]
 exact hn _ w' hp
theorem w4.enter {f:FuncId} {args:Array Value} (h:(execOp a.eval o).run P w= .ok (.enter f args) w')
  (hc:Calls P f args w' fun e w''=>∃v,e= .returned v∧u2 v w''):w4 P o a w u2:=by
 intro next Q hn
 unfold Oper.wp
 rw[h]
 refine Calls.mono hc ?_
 rintro e w'' ⟨v,rfl,hp⟩
 exact hn v w'' hp
theorem w4.mono {Post':Value→World→Prop} (h:w4 P o a w u2) (hp:∀v w',u2 v w'→Post' v w'):w4 P o a w Post':=
 fun next Q hn=>h next Q fun v w' hv=>hn v w' (hp v w' hv)
end
structure Ext (w w':World):Prop where
 size:w.heap.size≤w'.heap.size
 old:∀b,b<w.heap.size→w'.heap[b]? =w.heap[b]?
 oo:oof w'=oof w
theorem Ext.refl (w:World):Ext w w:=⟨Nat.le_refl _,fun _ _=>rfl,rfl⟩
theorem Ext.trans {a b c:World} (h:Ext a b) (h':Ext b c):Ext a c:=
 ⟨Nat.le_trans h.size h'.size,fun x hx=>(h'.old x (Nat.lt_of_lt_of_le hx h.size)).trans (h.old x hx),h'.oo.trans h.oo⟩
theorem Ext.alloc (w:World) (o:Obj):Ext w (w.alloc o):=⟨by simp,fun _ hb=>heap_alloc_old w o hb,rfl⟩
theorem Ext.drew (w:World):Ext w w.drew:=⟨Nat.le_refl _,fun _ _=>rfl,rfl⟩
def q0d {α:Type} (f:Key→Option α) (k:Key) (x:α):Key→Option α:=fun j=>if j=k then some x else f j
def r9 {α:Type} (f:Nat→Option α) (k:Nat) (x:α):Nat→Option α:=fun j=>if j=k then some x else f j
theorem w8 {α:Type} (f:Nat→Option α) (k:Nat) (x:α):r9 f k x k=some x:=by simp[r9]
theorem c4 {α:Type} (f:Nat→Option α) {k j:Nat} (x:α) (h:j≠k):r9 f k x j=f j:=by simp[r9,h]
def u2 (Γ:G) (w:World) (s':S) (x:V) (v:Value) (w':World):Prop:=
 ∃Γ',GLe Γ Γ'∧s8 Γ Γ'∧z8 Γ' w' s'∧q9 Γ' x v
section
variable {Γ:G} {w w':World} {s:S}
theorem z8.Zlt (c:z8 Γ w s) {b:Nat} (h:Γ.Z b≠none):b<w.heap.size:=by
 cases hk:Γ.Z b with
 |none=>exact absurd hk h
 |some o=>exact c5 (c.hZ b o hk)
theorem z8.congr (c:z8 Γ w s) {s':S} (h1:∀k,s'.obj k=s.obj k) (h2:∀t,s'.live t=s.live t) (h3:∀t,s.known t=true→s'.known t=true):z8 Γ w s':=
 ⟨c.hH,c.hZ,c.hκ,fun k o h=>c.obj k o (by rw[←h1];exact h),fun k h=>by rw[h1];exact c.dom k h,c.q45 (fun k h=>by unfold S.p9 at h ⊢;rw[h1];exact h),fun t L h=>c.tok t L (by rw[←h2];exact h),fun t h=>h3 t (c.tdom t h),c.hgl,c.hoo,c.hσ⟩
theorem z8.σlt (c:z8 Γ w s) {b:Nat} {sz:Nat} (h:Γ.σ b=some sz):b<w.heap.size:=by
 obtain⟨arr,T,fr,h1,_⟩:=c.hσ b sz h
 exact c5 h1
theorem z8.y1y (c:z8 Γ w s) (he:Ext w w'):∀b sz,Γ.σ b=some sz→∃arr T fr,w'.heap[b]? =some (.cells arr T fr)∧arr.size=sz:=fun b sz h=>by
 rw[he.old b (c.σlt h)];exact c.hσ b sz h
theorem z8.env (c:z8 Γ w s) (e:List (Nat × V)):z8 Γ w {s with env:=e}:=c.congr (fun _=>rfl) (fun _=>rfl) (fun _ h=>h)
theorem z8.ext (c:z8 Γ w s) (he:Ext w w'):z8 Γ w' s:=by
 refine c.change (s8.refl Γ) rfl rfl rfl he.oo (fun b l h=>?_) (fun b h=>he.old b (c.Zlt h)) (fun b o sz h=>?_) (fun k o h=>?_) (fun _ h _=>h) c.dom (c.y1y he) c.inj c.tok c.tdom he.size
 ·rw[he.old b (c.Hlt (by rw[h];simp))];exact c.hH b l h
 ·rw[he.old b (c.κlt (by rw[h];simp))];exact c.hκ b o sz h
 ·refine .inl ⟨h,fun hd=>⟨fun b p sz _=>⟨rfl,rfl⟩,fun b τ hb=>?_⟩⟩
  obtain⟨a1,a2,a3,_⟩:=c.W2 hb h hd
  exact⟨he.old b a3,a1⟩
theorem u2.same (c:z8 Γ w s) {x:V} {v:Value} (h:q9 Γ x v):u2 Γ w s x v w:=⟨Γ,.refl Γ,.refl Γ,c,h⟩
theorem u2.ext (c:z8 Γ w s) (he:Ext w w') {x:V} {v:Value} (h:q9 Γ x v):u2 Γ w s x v w':=⟨Γ,.refl Γ,.refl Γ,c.ext he,h⟩
theorem U4 {α:Type} (n:Key) (x:α) (l:List (Key × α)):z6 ((n,x)::l) n=some x:=by simp[z6]
theorem q2p {α:Type} (n:Nat) (x:α) (l:List (Nat × α)):look ((n,x)::l) n=some x:=by simp[look]
theorem u3 (s:S) (k j:Key) (o:O):S.obj {s with loc:=(k,o)::s.loc} j=if k=j then some o else s.obj j:=by
 unfold S.obj b6
 by_cases h:k=j
 ·subst h;simp[z6]
 ·simp[z6,h]
theorem q2z {s:S} {k:Key} {o:O} (h:s.p9 k=true→o.X3=true) (j:Key) (hj:s.p9 j=true):S.p9 {s with loc:=(k,o)::s.loc} j=true:=by
 unfold S.p9
 rw[u3]
 split
 ·rename_i e;subst e;exact h hj
 ·exact hj
theorem q17 (s:S) (t u:Nat) (L:Option Nat):S.live {s with tk:=(t,L)::s.tk} u=if t=u then L else s.live u:=by
 unfold S.live F1
 by_cases h:t=u
 ·subst h;simp only[q2p,if_true];cases L <;> rfl
 ·simp[look,h]
theorem q1n (s:S) (t u:Nat) (L:Option Nat):S.known {s with tk:=(t,L)::s.tk} u=(decide (t=u)||s.known u):=by
 unfold S.known
 by_cases h:t=u
 ·subst h;simp[look]
 ·simp[look,h]
theorem z8.q6R (c:z8 Γ w s) {k:Key} (h:s.obj k=none):Γ.ι k=none:=by
 cases hk:Γ.ι k with
 |none=>rfl
 |some x=>exact absurd h (c.dom k (by rw[hk];simp))
theorem z8.y0f (c:z8 Γ w s) {t:Nat} (h:s.known t=false):Γ.τ t=none:=by
 cases hk:Γ.τ t with
 |none=>rfl
 |some x=>have:=c.tdom t (by rw[hk];simp);rw[h]at this;cases this
def G.addKey (Γ:G) (k:Key) (b:Nat) (τ:Ty):G:={Γ with ι:=q0d Γ.ι k (b,τ)}
theorem z8.addKey (c:z8 Γ w s) {k:Key} (hn:s.obj k=none) (he:Ext w w') {τ:Ty} {o:O} (ho:∀Γ':G,s8 Γ Γ'→q4e Γ Γ' (some k)→Γ'.ι k=some (w.heap.size,τ)→Γ'.H w.heap.size=none→Γ'.Z w.heap.size=none→Own Γ' w' k o) (hkl:∀i,k≠.g i:=by intro i h;cases h):
  z8 (Γ.addKey k w.heap.size τ) w' {s with loc:=(k,o)::s.loc}∧s8 Γ (Γ.addKey k w.heap.size τ)∧GLe Γ (Γ.addKey k w.heap.size τ):=by
 have hk:=c.q6R hn
 have hι:∀j x,Γ.ι j=some x→(Γ.addKey k w.heap.size τ).ι j=some x:=by
  intro j x hj
  have:j≠k:=by intro e;subst e;rw[hk]at hj;cases hj
  simp[G.addKey,q0d,this,hj]
 have hp:s8 Γ (Γ.addKey k w.heap.size τ):=⟨Hp.le_refl _,hι,fun t x L h=>⟨x,L,h,Nat.le_refl _,fun _=>rfl⟩,fun _ _ h=>h⟩
 refine⟨?_,hp,⟨Hp.le_refl _,rfl,fun _ _=>rfl,fun j x h=>hι _ _ h,rfl,rfl,fun _ _ h=>h,fun i h=>by
  have:Key.g i≠k:=fun e=>hkl i e.symm
  simpa[G.addKey,q0d,this]using h⟩⟩
 refine c.change hp rfl rfl rfl he.oo (fun b l h=>?_) (fun b h=>he.old b (c.Zlt h)) (fun b o sz h=>?_) (fun j o' h=>?_) (fun j h h'=>by
  have:j≠k:=fun e=>by subst e;exact h' hn
  simpa[G.addKey,q0d,this]using h) (fun j h=>?_) (c.y1y he) (fun j j' b τ1 τ2 h1 h2=>?_) c.tok c.tdom he.size
 ·have h':Γ.H b=some l:=h
  rw[he.old b (c.Hlt (by rw[h'];simp))];exact c.hH b l h
 ·have h':Γ.κ b=some (o,sz):=h
  rw[he.old b (c.κlt (by rw[h'];simp))];exact c.hκ b o sz h
 ·rw[u3]at h
  split at h
  ·rename_i e
   cases h;subst e
   refine .inr (ho _ hp (fun _ _ _ _=>⟨rfl,rfl⟩) (by simp[G.addKey,q0d]) ?_ ?_)
   ·cases hh:Γ.H w.heap.size with
    |none=>exact hh
    |some l=>exact absurd (c.Hlt (by rw[hh];simp)) (Nat.lt_irrefl _)
   ·cases hh:Γ.Z w.heap.size with
    |none=>exact hh
    |some l=>exact absurd (c.Zlt (by rw[hh];simp)) (Nat.lt_irrefl _)
  ·refine .inl ⟨h,fun hd=>⟨fun b p sz _=>⟨rfl,rfl⟩,fun b τ hb=>?_⟩⟩
   obtain⟨a1,a2,a3,_⟩:=c.W2 hb h hd
   exact⟨he.old b a3,a1⟩
 ·rw[u3]
  split
  ·simp
  ·rename_i e
   refine c.dom j ?_
   have:j≠k:=fun h=>e h.symm
   simpa[G.addKey,q0d,this]using h
 ·have key:∀j b τ',(Γ.addKey k w.heap.size τ).ι j=some (b,τ')→(j=k∧b=w.heap.size)∨(j≠k∧Γ.ι j=some (b,τ')∧b<w.heap.size):=by
   intro j b τ' h
   by_cases hjk:j=k
   ·left;simp[G.addKey,q0d,hjk]at h;exact⟨hjk,h.1.symm⟩
   ·right
    have h':Γ.ι j=some (b,τ'):=by simpa[G.addKey,q0d,hjk]using h
    obtain⟨_,_,_,hlt,_⟩:=c.y0g h'
    exact⟨hjk,h',hlt⟩
  rcases key j b τ1 h1 with⟨e1,e2⟩|⟨e1,e2,e3⟩ <;> rcases key j' b τ2 h2 with⟨f1,f2⟩|⟨f1,f2,f3⟩
  ·exact .inl (by rw[e1,f1])
  ·omega
  ·omega
  ·refine(c.inj _ _ _ _ _ e2 f2).imp id (And.imp (Or.imp (fun h=>?_) (fun h=>?_)) id)
   ·unfold S.p9 at h ⊢;rw[u3,if_neg (fun e=>e1 e.symm)];exact h
   ·unfold S.p9 at h ⊢;rw[u3,if_neg (fun e=>f1 e.symm)];exact h
theorem q7c (c:z8 Γ w s) {n:Nat} (hn:s.obj (.l n)=none) {x:V} {cells:Array Value} {T:TypeId} {fz:Nat × Nat} (he:Ext w w') (hw:w'.heap[w.heap.size]? =some (.cells cells T fz)) (hsz:x.ty.size≤cells.size)
  (hx:q8 Γ none [] x (chunk cells.toList 0 x.ty.size)) (hp:x.plain=true) (hns:x.v8=true) (hfz:fz.2≤fz.1∨cells.size≤fz.1:=by exact .inl (Nat.le_refl _)):
  u2 Γ w {s with loc:=(.l n,.box x)::s.loc} (.ptr (.l n) [] x.ty) (.pointer (some ⟨w.heap.size,0,none⟩)) w':=by
 obtain⟨h1,h2,h3⟩:=c.addKey hn he (τ:=x.ty) (o:=.box x) fun Γ' hpr _ hι hH hZ=>⟨_,cells,T,hι,hH,hZ,⟨fz,hw,hfz⟩,hsz,(hx.o6 hpr (by trivial)).b9,hp,hns⟩
 exact⟨_,h3,h2,h1,q1z (τ0:=x.ty) (by simp[G.addKey,q0d]) rfl⟩
def G.q0A (Γ:G) (b:Nat) (l:List Value):G:={Γ with H:=r9 Γ.H b l}
theorem z8.q0A (c:z8 Γ w s) (he:Ext w w') {arr:Array Value} {T:TypeId} {fr:Nat × Nat} {l r:List Value} (hw:w'.heap[w.heap.size]? =some (.cells arr T fr)) (hl:arr.toList=l++r):
  z8 (Γ.q0A w.heap.size l) w' s∧s8 Γ (Γ.q0A w.heap.size l)∧GLe Γ (Γ.q0A w.heap.size l):=by
 have oH:∀b,b<w.heap.size→(Γ.q0A w.heap.size l).H b=Γ.H b:=fun b hb=>c4 _ _ (by omega)
 have hle:Γ.H.le (Γ.q0A w.heap.size l).H:=fun b l' h=>⟨[],by rw[oH b (c.Hlt (by rw[h];simp)),h];simp⟩
 have hp:s8 Γ (Γ.q0A w.heap.size l):=⟨hle,fun _ _ h=>h,fun t x L h=>⟨x,L,h,Nat.le_refl _,fun _=>rfl⟩,fun _ _ h=>h⟩
 refine⟨?_,hp,⟨hle,rfl,fun b h=>oH b (c.Zlt h),fun _ _ h=>h,rfl,rfl,fun _ _ h=>h,fun _ h=>h⟩⟩
 refine c.change hp rfl rfl rfl he.oo (fun b l' h=>?_) (fun b h=>he.old b (c.Zlt h)) (fun b o sz h=>?_) (fun k o h=>?_) (fun _ h _=>h) c.dom (c.y1y he) c.inj (fun t L h=>?_) c.tdom he.size
 ·by_cases hb:b=w.heap.size
  ·subst hb
   simp[G.q0A,r9]at h;subst h
   exact⟨arr,T,fr,r,hw,hl⟩
  ·have h':Γ.H b=some l':=by simpa[G.q0A,r9,hb]using h
   rw[he.old b (c.Hlt (by rw[h'];simp))];exact c.hH b l' h'
 ·have h':Γ.κ b=some (o,sz):=h
  have hlt:=c.κlt (by rw[h'];simp)
  rw[he.old b hlt,oH b hlt];exact c.hκ b o sz h
 ·refine .inl ⟨h,fun hd=>⟨fun b p sz hb=>⟨rfl,oH b (c.κlt (by rw[hb];simp))⟩,fun b τ hb=>?_⟩⟩
  obtain⟨a1,a2,a3,_⟩:=c.W2 hb h hd
  exact⟨he.old b a3,by rw[oH b a3];exact a1⟩
 ·obtain⟨x,h1,h2⟩:=c.tok t L h
  refine⟨x,h1,fun b pos sz hx=>?_⟩
  obtain⟨a1,a2⟩:=h2 b pos sz hx
  rw[oH b (c.κlt (by rw[a2];simp))]
  exact⟨a1,a2⟩
def G.q3J (Γ:G) (b sz:Nat):G:={Γ with σ:=r9 Γ.σ b sz}
theorem z8.q3J (c:z8 Γ w s) {b:Nat} {arr:Array Value} {T:TypeId} {fr:Nat × Nat} (hw:w.heap[b]? =some (.cells arr T fr)):
  z8 (Γ.q3J b arr.size) w s∧s8 Γ (Γ.q3J b arr.size)∧GLe Γ (Γ.q3J b arr.size):=by
 have hσ:∀b' sz,Γ.σ b'=some sz→(Γ.q3J b arr.size).σ b'=some sz:=by
  intro b' sz h
  by_cases e:b'=b
  ·subst e
   obtain⟨arr',T',fr',a1,a2⟩:=c.hσ b' sz h
   rw[hw]at a1;cases a1
   rw[←a2];exact w8 _ _ _
  ·exact(c4 _ _ e).trans h
 have hp:s8 Γ (Γ.q3J b arr.size):=⟨Hp.le_refl _,fun _ _ h=>h,fun t x L h=>⟨x,L,h,Nat.le_refl _,fun _=>rfl⟩,hσ⟩
 refine⟨?_,hp,⟨Hp.le_refl _,rfl,fun _ _=>rfl,fun _ _ h=>h,rfl,rfl,hσ,fun _ h=>h⟩⟩
 refine c.change hp rfl rfl rfl rfl c.hH (fun _ _=>rfl) c.hκ (fun k o h=>?_) (fun _ h _=>h) c.dom (fun b' sz h=>?_) c.inj c.tok c.tdom (Nat.le_refl _)
 ·refine .inl ⟨h,fun hd=>⟨fun b p sz _=>⟨rfl,rfl⟩,fun b τ hb=>?_⟩⟩
  obtain⟨a1,a2,a3,_⟩:=c.W2 hb h hd
  exact⟨rfl,a1⟩
 ·by_cases e:b'=b
  ·subst e
   have:arr.size=sz:=by
    have h':r9 Γ.σ b' arr.size b'=some sz:=h
    rw[w8]at h';exact Option.some.inj h'
   exact⟨arr,T,fr,hw,this⟩
  ·exact c.hσ b' sz ((c4 _ _ e).symm.trans h)
def G.Z9 (Γ:G) (t:Nat) (x:Option (Nat × Nat × Nat)) (L:Nat):G:=
 {Γ with τ:=r9 Γ.τ t (x,L),κ:=match x with|none=>Γ.κ|some (b,_,sz)=>r9 Γ.κ b (.tok t,sz)}
theorem z8.Z9 (c:z8 Γ w s) {t:Nat} (ht:s.known t=false) {x:Option (Nat × Nat × Nat)} {L:Nat}
  (hx:∀b pos sz,x=some (b,pos,sz)→Γ.κ b=none∧Γ.Z b=none∧(∃l,Γ.H b=some l∧l.length=pos)∧∃arr T,w.heap[b]? =some (.cells arr T (0,0))∧arr.size=sz):
  z8 (Γ.Z9 t x L) w {s with tk:=(t,some L)::s.tk}∧s8 Γ (Γ.Z9 t x L)∧GLe Γ (Γ.Z9 t x L):=by
 have hτ:=c.y0f ht
 have oκ:∀b o,Γ.κ b=some o→(Γ.Z9 t x L).κ b=some o:=by
  intro b o h
  cases x with
  |none=>exact h
  |some y=>
   obtain⟨b',pos,sz⟩:=y
   have:b≠b':=by intro e;subst e;rw[(hx b pos sz rfl).1]at h;cases h
   simp[G.Z9,r9,this,h]
 have hp:s8 Γ (Γ.Z9 t x L):=⟨Hp.le_refl _,fun _ _ h=>h,fun u y M h=>by
  have:u≠t:=by intro e;subst e;rw[hτ]at h;cases h
  exact⟨y,M,by simp[G.Z9,r9,this,h],Nat.le_refl _,fun _=>rfl⟩,fun _ _ h=>h⟩
 refine⟨?_,hp,⟨Hp.le_refl _,rfl,fun _ _=>rfl,fun _ _ h=>h,rfl,rfl,fun _ _ h=>h,fun _ h=>h⟩⟩
 refine c.change hp rfl rfl rfl rfl c.hH (fun b _=>rfl) (fun b o sz h=>?_) (fun k o h=>?_) (fun _ h _=>h) c.dom c.hσ c.inj (fun u M h=>?_) (fun u h=>?_) (Nat.le_refl _)
 ·cases hk:Γ.κ b with
  |some o'=>rw[oκ b o' hk]at h;cases h;exact c.hκ b o sz hk
  |none=>
   cases x with
   |none=>have h':Γ.κ b=some (o,sz):=h;rw[hk]at h';cases h'
   |some y=>
    obtain⟨b',pos,sz'⟩:=y
    by_cases e:b=b'
    ·subst e
     simp[G.Z9,r9]at h
     obtain⟨_,a2,⟨l,a3,_⟩,a4⟩:=hx b pos sz' rfl
     rw[←h.2]
     obtain⟨arr,T,q1,q2⟩:=a4
     exact⟨a2,by show Γ.H b≠none;rw[a3];simp,arr,T,q1,q2,by rw[←h.1];trivial⟩
    ·simp[G.Z9,r9,e,hk]at h
 ·refine .inl ⟨h,fun hd=>⟨fun b p sz hb=>⟨by rw[oκ b _ hb,hb],rfl⟩,fun b τ hb=>?_⟩⟩
  obtain⟨a1,a2,a3,_⟩:=c.W2 hb h hd
  exact⟨rfl,a1⟩
 ·rw[q17]at h
  split at h
  ·rename_i e
   subst e;cases h
   refine⟨x,by simp[G.Z9,r9],fun b pos sz e=>?_⟩
   obtain⟨a1,a2,a3,a4⟩:=hx b pos sz e
   subst e
   exact⟨a3,by simp[G.Z9,r9]⟩
  ·rename_i e
   obtain⟨y,h1,h2⟩:=c.tok u M h
   have e':u≠t:=fun h'=>e h'.symm
   refine⟨y,by simp[G.Z9,r9,e',h1],fun b pos sz hy=>?_⟩
   obtain⟨a1,a2⟩:=h2 b pos sz hy
   exact⟨a1,oκ b _ a2⟩
 ·rw[q1n]
  by_cases e:t=u
  ·simp[e]
  ·simp only[e,decide_false,Bool.false_or]
   have e':u≠t:=fun h'=>e h'.symm
   refine c.tdom u ?_
   simpa[G.Z9,r9,e']using h
end
end Go.E
namespace Go.E
open Go
def Y0 (s:S):V→Option (Nat × Ty × List C)
 | .sr k q lo n _ eb e=>match s.obj k with
  |some (.box x)=>match x.at q with
   | .d _ c=>some (eb,e,(c.elems.drop lo).take n)
   |_=>none
  |_=>none
 |x=>x.q1O
theorem q03 {H:Hp} {e:Ty} {ys:List C} {m:Nat} {news:List Value} (h1:ys.length=m) (hl:news.length=m*e.size) (hr:∀i c',ys[i]? =some c'→z7 H e (chunk news (i*e.size) e.size) c'):J0 news:=by
 intro v hv
 obtain⟨j,hj⟩:=List.getElem?_of_mem hv
 have hjl:j<m*e.size:=by rw[←hl];exact(List.getElem?_eq_some_iff.1 hj).1
 have hs:0<e.size:=by rcases Nat.eq_zero_or_pos e.size with h|h;· rw[h,Nat.mul_zero]at hjl;omega
                      ·exact h
 have hi:j / e.size<ys.length:=by rw[h1];exact(Nat.div_lt_iff_lt_mul hs).2 hjl
 have hdm:=Nat.div_add_mod j e.size
 have hmod:=Nat.mod_lt j hs
 refine(hr _ _ (List.getElem?_eq_getElem hi)).one v (List.mem_of_getElem? (i:=j%e.size) ?_)
 rw[w5,if_pos hmod,Nat.mul_comm,hdm];exact hj
section
variable {P:Program} {Γ:G} {w:World} {s:S}
theorem q8C {b off k:Nat} {arr:Array Value} {T:TypeId} {fr:Nat × Nat} {l r:List Value} (hb:w.heap[b]? =some (.cells arr T fr)) (hl:arr.toList=l++r) {j:Nat} {u:Value} (h:(chunk l off k)[j]? =some u):
  w.cell? ⟨b,off+j,none⟩=some u:=by
 rw[w5]at h
 split at h
 ·have hlt:=(List.getElem?_eq_some_iff.1 h).1
  have:arr[off+j]? =some u:=by
   rw[←Array.getElem?_toList,hl,List.getElem?_append_left hlt];exact h
  simp[World.cell?,hb,this]
 ·cases h
theorem z1F (c:z8 Γ w s) {Y:V} {v:Value} {eb:Nat} {e:Ty} {ys:List C} (hr:q9 Γ Y v) (he:Y0 s Y=some (eb,e,ys)) {tx E':TypeId} (hu:P.underlying tx=some (.slice E')):
  ∃n news,Src P e.size tx v n news w∧ys.length=n∧n≤maxLen∧n*eb≤140737488355328∧∀i c',ys[i]? =some c'→z7 Γ.H e (chunk news (i*e.size) e.size) c':=by
 -- a slice that is known as data
 have frozen:∀{eb:Nat} {e:Ty} {ys:List C},Y.q1O=some (eb,e,ys)→∃n news,Src P e.size tx v n news w∧ys.length=n∧n≤maxLen∧n*eb≤140737488355328∧∀i c',ys[i]? =some c'→z7 Γ.H e (chunk news (i*e.size) e.size) c':=by
  intro eb e ys he
  obtain⟨a,n,cap,rfl,h1,h2,h3,h4,h5⟩:=q0J hr he
  obtain⟨a',n',cap',e1,_,e2,e3,e4,e5,e6⟩:=W3 h5
  simp at e1
  obtain⟨rfl,rfl,rfl⟩:=e1
  simp only[C.elems]at e6
  have hz:∀{ad:Addr},n=0→Src P e.size tx (.slice (some ad) n cap) n [] w:=by
   intro ad h0
   subst h0
   exact Src.ofSlice w hu _ 0 cap [] (by simp) (by simp) (by simp)
  by_cases h0:n=0
  ·refine⟨n,[],?_,h1,by omega,h4,fun i c' hi=>?_⟩
   ·cases a with
    |none=>subst h0;exact Src.ofNil w hu cap
    |some ad=>exact hz h0
   ·have:=(List.getElem?_eq_some_iff.1 hi).1;omega
  ·rcases e6 with e6|⟨b,off,l,rfl,hb,hs,hc⟩
   ·exact absurd e6 h0
   ·obtain⟨arr,T,fr,r,hw,hl⟩:=c.hH b l hb
    have hnl:(chunk l off (n*e.size)).length=n*e.size:=u9 _ _ _ hs
    have hrep:∀i c',ys[i]? =some c'→z7 Γ.H e (chunk (chunk l off (n*e.size)) (i*e.size) e.size) c':=by
     intro i c' hi
     have hil:i<n:=by rw[←h1];exact(List.getElem?_eq_some_iff.1 hi).1
     have hle:(i+1)*e.size≤n*e.size:=Nat.mul_le_mul_right _ hil
     rw[Nat.add_mul]at hle
     rw[o5 _ _ _ _ _ (by omega)];exact hc i c' hi
    exact⟨n,chunk l off (n*e.size),Src.ofSlice w hu _ n cap _ hnl (fun j u hj=>by rw[q0q];exact q8C hw hl hj) (q03 h1 hnl hrep),h1,by omega,h4,hrep⟩
 cases Y <;> (try exact frozen he)
 case sr k q lo n cp eb' e'=>
  simp only[Y0]at he
  cases ho:s.obj k with
  |none=>simp[ho]at he
  |some o=>
   cases o with
   |map=>simp[ho]at he
   |it=>simp[ho]at he
   |dead=>simp[ho]at he
   |box x=>
    simp only[ho]at he
    cases hx:x.at q with
    |d τ cc=>
     simp only[hx,Option.some.injEq,Prod.mk.injEq]at he
     obtain⟨rfl,rfl,rfl⟩:=he
     rcases q0j hr with⟨_,rfl,a,rfl⟩|⟨b,τ0,o0,m,cap,a,a1,a2,a3,rfl,a4,a5,a6,a7,_⟩
     ·refine⟨0,[],?_,by simp,by unfold maxLen;omega,by rw[Nat.zero_mul];exact Nat.zero_le _,fun i c' hi=>by simp at hi⟩
      cases a with
      |none=>exact Src.ofNil w hu 0
      |some ad=>exact Src.ofSlice w hu _ 0 0 [] (by simp) (by simp) (by simp)
     obtain⟨b',cells,T,g1,g2,g3,g4,g5,g6,g7,_⟩:=c.own a1 ho
     obtain⟨fr0,g4,hfr0⟩:=g4
     rw[a1]at g1;cases g1
     obtain⟨q1,q2,q3⟩:=g6.at_ a2 (by rw[hx];simp) g7
     rw[hx]at q1 q3
     simp only[V.ty]at q1
     subst q1
     simp only[q8,z7]at q3
     obtain⟨cs,rfl,r1,r2,r3,r4⟩:=q3
     simp only[C.elems]
     rw[u9 _ _ _ (by simpa using g5)]at q2
     have hlen:((cs.drop lo).take n).length=n:=by simp;omega
     have hmul:(lo+n)*e'.size≤m*e'.size:=Nat.mul_le_mul_right _ a3
     rw[Nat.add_mul]at hmul
     simp only[Ty.size]at q2 r2 r4
     have hall:o0+lo*e'.size+n*e'.size≤cells.toList.length:=by simp;omega
     have hnl:(chunk cells.toList (o0+lo*e'.size) (n*e'.size)).length=n*e'.size:=u9 _ _ _ hall
     have hrep:∀i c',((cs.drop lo).take n)[i]? =some c'→z7 Γ.H e' (chunk (chunk cells.toList (o0+lo*e'.size) (n*e'.size)) (i*e'.size) e'.size) c':=by
      intro i c' hi
      rw[List.getElem?_take]at hi
      split at hi
      ·rename_i hin
       rw[List.getElem?_drop]at hi
       have:=r4 _ _ hi
       have hle:(i+1)*e'.size≤n*e'.size:=Nat.mul_le_mul_right _ hin
       have hle2:(lo+i+1)*e'.size≤m*e'.size:=Nat.mul_le_mul_right _ (by omega)
       rw[Nat.add_mul,Nat.add_mul]at hle2
       rw[Nat.add_mul]at hle this
       rw[o5 _ _ _ _ _ (by omega),o5 _ _ _ _ _ (by omega)]at this
       rw[o5 _ _ _ _ _ (by omega)]
       rw[show 0+(o0+(lo*e'.size+i*e'.size))=o0+lo*e'.size+i*e'.size by omega]at this
       exact this
      ·cases hi
     rcases Nat.eq_zero_or_pos n with h0|h0
     ·subst h0
      refine⟨0,[],?_,hlen,by omega,by rw[Nat.zero_mul];exact Nat.zero_le _,fun i c' hi=>by simp at hi⟩
      cases a with
      |none=>exact Src.ofNil w hu cap
      |some ad=>exact Src.ofSlice w hu _ 0 cap [] (by simp) (by simp) (by simp)
     ·have ha:a=some ⟨b,o0+lo*e'.size,none⟩:=by rcases a4 with h|h;· omega
                                                ·exact h
      subst ha
      exact⟨n,_,Src.ofSlice w hu _ n cap _ hnl (fun j u hj=>by rw[q0q];exact q8C (r:=[]) g4 (by simp) hj) (q03 hlen hnl hrep),hlen,by omega,a7,hrep⟩
    |_=>simp[hx]at he
theorem y3t {Y:V} {v:Value} (hr:q9 Γ Y v) (hY:Y.isStr) {tx:TypeId} (hu:P.underlying tx=some .string):
  ∃n news,Src P 1 tx v n news w∧(Y.toStr.map fun b=>C.int b.toNat).length=n∧n≤maxLen∧n*1≤140737488355328∧
   ∀i c',(Y.toStr.map fun b=>C.int b.toNat)[i]? =some c'→z7 Γ.H (.int .u8) (chunk news (i*1) 1) c':=by
 obtain⟨cc,rfl⟩:=V.q2X hY
 obtain⟨rfl,_,hl⟩:=U3 hr
 have hsz:(⟨cc.toStr.toArray⟩:ByteArray).size=cc.toStr.length:=by simp[ByteArray.size]
 refine⟨cc.toStr.length,byteCells ⟨cc.toStr.toArray⟩,?_,by simp[V.toStr],by unfold maxLen;omega,by omega,fun i c' hi=>?_⟩
 ·have:=Src.ofString w hu (⟨cc.toStr.toArray⟩:ByteArray)
  rwa [hsz]at this
 ·simp only[V.toStr,List.getElem?_map]at hi
  cases hc:cc.toStr[i]? with
  |none=>simp[hc]at hi
  |some b=>
   simp[hc]at hi
   subst hi
   have:chunk (byteCells ⟨cc.toStr.toArray⟩) (i*1) 1=[.int .u8 b.toNat]:=by
    apply List.ext_getElem?
    intro j
    rw[w5]
    by_cases hj:j<1
    ·have:j=0:=by omega
     subst this
     simp[byteCells,hc]
    ·simp[hj]
   rw[this]
   simp only[z7]
   refine⟨_,rfl,rfl,?_,?_⟩
   ·have:IntKind.u8.min=0:=by decide
    omega
   ·have:IntKind.u8.max=255:=by decide
    have:=b.toNat_lt
    omega
end
theorem q6I {H:Hp} {e:Ty} {n m:Nat} {xs ys:List C} {olds news rest:List Value} (h1:xs.length=n) (h2:ys.length=m) (h3:olds.length=n*e.size) (h4:news.length=m*e.size)
  (hx:∀i c',xs[i]? =some c'→z7 H e (chunk olds (i*e.size) e.size) c') (hy:∀i c',ys[i]? =some c'→z7 H e (chunk news (i*e.size) e.size) c'):
  ∀i c',(xs++ys)[i]? =some c'→z7 H e (chunk (olds++news++rest) (i*e.size) e.size) c':=by
 intro i c' hi
 by_cases hlt:i<n
 ·rw[List.getElem?_append_left (by omega)]at hi
  have:=hx i c' hi
  have hb:(i+1)*e.size≤n*e.size:=Nat.mul_le_mul_right _ (by omega)
  rw[Nat.add_mul]at hb
  rw[List.append_assoc,q08 _ _ _ _ (by omega)];exact this
 ·rw[List.getElem?_append_right (by omega),h1]at hi
  have hil:i-n<m:=by rw[←h2];exact(List.getElem?_eq_some_iff.1 hi).1
  have:=hy _ c' hi
  have hb:(i-n+1)*e.size≤m*e.size:=Nat.mul_le_mul_right _ (by omega)
  rw[Nat.add_mul]at hb
  have hmul:i*e.size=n*e.size+(i-n)*e.size:=by rw[←Nat.add_mul];congr 1;omega
  have e1:chunk (olds++news++rest) (i*e.size) e.size=chunk news ((i-n)*e.size) e.size:=by
   simp only[chunk,List.append_assoc]
   rw[hmul,←h3,List.drop_append,List.drop_eq_nil_of_le (by omega),List.nil_append,Nat.add_sub_cancel_left,List.drop_append_of_le_length (by omega),List.take_append_of_le_length (by simp;omega)]
  rw[e1];exact this
end Go.E
namespace Go.E
open Go
def y7 (P:Program) (T:TypeId):TypeId:=match P.underlying T with
 |some (.slice e)=>e
 |_=>0
section
variable {P:Program} {Γ:G} {w w':World} {s:S}
theorem q1a (hP:x4 P=true) {T:TypeId} {eb:Nat} {e:Ty} (h:ty P T= .slice eb e):
  P.underlying T=some (.slice (y7 P T))∧e=tyF P 11 (y7 P T)∧eb=P.bytesOf (y7 P T)∧y7 P T<P.types.size:=by
 obtain⟨E,h1,h2,h3,h4⟩:=F3 hP h
 have:y7 P T=E:=by simp[y7,h1]
 rw[this];exact⟨h1,h2,h3,h4⟩
theorem q2Z {T:TypeId} (h:Q9 P T=true):∃i z,P.info? T=some i∧i.zero=some z∧Y9 (ty P T) z.cells.toList=true∧Y9 (tyF P 11 T) z.cells.toList=true:=by
 unfold Q9 at h
 cases hi:P.info? T with
 |none=>simp[hi]at h
 |some i=>
  cases hz:i.zero with
  |none=>simp[hi,hz]at h
  |some z=>simp[hi,hz]at h;exact⟨i,z,rfl,hz,h.1.1,h.2⟩
theorem F2 {τ:Ty} {vs:List Value} (h:Y9 τ vs=true):vs.length=τ.size:=(Y4 (H:=fun _=>none) h).length
theorem q8T {w w':World} {b:Nat} {o:Obj} (hw:w'.heap[b]? =some o) (oth:∀b',b'≠b→w'.heap[b']? =w.heap[b']?):w.heap.size≤w'.heap.size:=by
 cases Nat.lt_or_ge w'.heap.size w.heap.size with
 |inr h=>exact h
 |inl hlt=>
  have h1:=c5 hw
  have h3:=oth w'.heap.size (by omega)
  rw[Array.getElem?_eq_none (Nat.le_refl _),Array.getElem?_eq_getElem hlt]at h3
  cases h3
theorem z8.y3N (c:z8 Γ w s) {t L L' b pos sz:Nat} {l ws r:List Value} {arr':Array Value} {T:TypeId} (hl:s.live t=some L) (hτ:Γ.τ t=some (some (b,pos,sz),L)) (hw:w'.heap[b]? =some (.cells arr' T (0,0)))
  (hH:Γ.H b=some l) (hκ:Γ.κ b=some (.tok t,sz)) (harr:arr'.toList=l++ws++r) (hsz:arr'.size=sz) (oth:∀b',b'≠b→w'.heap[b']? =w.heap[b']?) (hLL:L<L') (hoo:oof w'=oof w):
  ∃Γ',Γ'.H b=some (l++ws)∧Γ'.τ t=some (some (b,(l++ws).length,sz),L')∧z8 Γ' w' {s with tk:=(t,some L')::s.tk}∧s8 Γ Γ'∧GLe Γ Γ':=by
 have hz:Γ.Z b=none:=(c.hκ b _ _ hκ).1
 refine⟨{Γ with H:=r9 Γ.H b (l++ws),τ:=r9 Γ.τ t (some (b,(l++ws).length,sz),L')},w8 _ _ _,w8 _ _ _,?_⟩
 have hle:Γ.H.le (r9 Γ.H b (l++ws)):=by
  intro b' l' h
  by_cases e:b'=b
  ·subst e;rw[hH]at h;cases h;exact⟨ws,w8 _ _ _⟩
  ·exact⟨[],by rw[c4 _ _ e,h];simp⟩
 have hp:s8 Γ {Γ with H:=r9 Γ.H b (l++ws),τ:=r9 Γ.τ t (some (b,(l++ws).length,sz),L')}:=by
  refine⟨hle,fun _ _ h=>h,fun u y M h=>?_,fun _ _ h=>h⟩
  by_cases e:u=t
  ·subst e;rw[hτ]at h;cases h
   exact⟨_,L',w8 _ _ _,by omega,fun e=>by omega⟩
  ·exact⟨y,M,(c4 _ _ e).trans h,Nat.le_refl _,fun _=>rfl⟩
 refine⟨?_,hp,⟨hle,rfl,fun b' h=>c4 _ _ (fun e=>by subst e;exact h hz),fun _ _ h=>h,rfl,rfl,fun _ _ h=>h,fun _ h=>h⟩⟩
 refine c.change hp rfl rfl rfl hoo (fun b' l' h=>?_) (fun b' h=>oth b' (fun e=>by subst e;exact h hz)) (fun b' o sz' h=>?_) (fun k o h=>?_) (fun _ h _=>h) c.dom (fun b' sz' h=>?_) c.inj (fun u M h=>?_) (fun u h=>?_) (q8T hw oth)
 ·by_cases e:b'=b
  ·subst e
   have h':l++ws=l':=by simpa[r9]using h
   subst h'
   exact⟨arr',T,(0,0),r,hw,harr⟩
  ·have h':Γ.H b'=some l':=by simpa[r9,e]using h
   rw[oth b' e];exact c.hH b' l' h'
 ·have h':Γ.κ b'=some (o,sz'):=h
  by_cases e:b'=b
  ·subst e
   rw[hκ]at h';cases h'
   exact⟨hz,by simp[r9],arr',T,hw,hsz,trivial⟩
  ·obtain⟨a1,a2,a3⟩:=c.hκ b' o sz' h'
   exact⟨a1,by simpa[r9,e]using a2,by rw[oth b' e];exact a3⟩
 ·refine .inl ⟨h,fun hd=>⟨fun b' p sz' hb=>?_,fun b' τ hb=>?_⟩⟩
  ·have hb':Γ.κ b'=some (.home k p,sz'):=hb
   have e:b'≠b:=by intro e;subst e;rw[hκ]at hb';cases hb'
   exact⟨rfl,c4 _ _ e⟩
  ·obtain⟨a1,a2,a3,_⟩:=c.W2 hb h hd
   have e:b'≠b:=by intro e;subst e;rw[hH]at a1;cases a1
   exact⟨oth b' e,by simpa[r9,e]using a1⟩
 ·obtain⟨arr,T1,fr,a1,a2⟩:=c.hσ b' sz' h
  by_cases e:b'=b
  ·subst e
   obtain⟨_,_,arr2,T2,a3,a4,_⟩:=c.hκ b' _ _ hκ
   rw[a1]at a3;cases a3
   exact⟨arr',T,(0,0),hw,by omega⟩
  ·exact⟨arr,T1,fr,by rw[oth b' e];exact a1,a2⟩
 ·rw[q17]at h
  split at h
  ·rename_i e
   subst e;cases h
   refine⟨_,w8 _ _ _,fun b' pos' sz' e=>?_⟩
   cases e
   exact⟨⟨_,w8 _ _ _,rfl⟩,hκ⟩
  ·rename_i e
   have e':u≠t:=fun h'=>e h'.symm
   obtain⟨y,h1,h2⟩:=c.tok u M h
   refine⟨y,(c4 _ _ e').trans h1,fun b' pos' sz' hy=>?_⟩
   obtain⟨a1,a2⟩:=h2 b' pos' sz' hy
   have e2:b'≠b:=by intro e2;subst e2;rw[hκ]at a2;simp at a2;exact e a2.1
   exact⟨by simpa[r9,e2]using a1,a2⟩
 ·rw[q1n]
  by_cases e:t=u
  ·simp[e]
  ·have e':u≠t:=fun h'=>e h'.symm
   simp only[e,decide_false,Bool.false_or]
   refine c.tdom u ?_
   simpa[r9,e']using h
theorem z8.y3F (c:z8 Γ w s) {t L L' b sz:Nat} {x:Option (Nat × Nat × Nat)} {l:List Value} {arr:Array Value} {T:TypeId} (hτ:Γ.τ t=some (x,L)) (hw:w.heap[b]? =some (.cells arr T (0,0)))
  (hH:Γ.H b=some l) (hκ:Γ.κ b=none) (hz:Γ.Z b=none) (hsz:arr.size=sz) (hLL:L<L'):
  ∃Γ',Γ'.H=Γ.H∧Γ'.τ t=some (some (b,l.length,sz),L')∧z8 Γ' w {s with tk:=(t,some L')::s.tk}∧s8 Γ Γ'∧GLe Γ Γ':=by
 refine⟨{Γ with τ:=r9 Γ.τ t (some (b,l.length,sz),L'),κ:=r9 Γ.κ b (.tok t,sz)},rfl,w8 _ _ _,?_⟩
 have oκ:∀b' o,Γ.κ b'=some o→r9 Γ.κ b (.tok t,sz) b'=some o:=by
  intro b' o h
  have:b'≠b:=by intro e;subst e;rw[hκ]at h;cases h
  rw[c4 _ _ this,h]
 have hp:s8 Γ {Γ with τ:=r9 Γ.τ t (some (b,l.length,sz),L'),κ:=r9 Γ.κ b (.tok t,sz)}:=by
  refine⟨Hp.le_refl _,fun _ _ h=>h,fun u y M h=>?_,fun _ _ h=>h⟩
  by_cases e:u=t
  ·subst e;rw[hτ]at h;cases h
   exact⟨_,L',w8 _ _ _,by omega,fun e=>by omega⟩
  ·exact⟨y,M,(c4 _ _ e).trans h,Nat.le_refl _,fun _=>rfl⟩
 refine⟨?_,hp,⟨Hp.le_refl _,rfl,fun _ _=>rfl,fun _ _ h=>h,rfl,rfl,fun _ _ h=>h,fun _ h=>h⟩⟩
 refine c.change hp rfl rfl rfl rfl c.hH (fun b' _=>rfl) (fun b' o sz' h=>?_) (fun k o h=>?_) (fun _ h _=>h) c.dom c.hσ c.inj (fun u M h=>?_) (fun u h=>?_) (Nat.le_refl _)
 ·by_cases e:b'=b
  ·subst e
   have h':sz=sz':=by have:=h;simp[r9]at this;exact this.2
   subst h'
   exact⟨hz,by rw[hH];simp,arr,T,hw,hsz,by have:=h;simp[r9]at this;rw[←this];trivial⟩
  ·exact c.hκ b' o sz' ((c4 _ _ e).symm.trans h)
 ·refine .inl ⟨h,fun hd=>⟨fun b' p sz' hb=>⟨(oκ b' _ hb).trans hb.symm,rfl⟩,fun b' τ hb=>?_⟩⟩
  obtain⟨a1,_⟩:=c.W2 hb h hd
  exact⟨rfl,a1⟩
 ·rw[q17]at h
  split at h
  ·rename_i e
   subst e;cases h
   refine⟨_,w8 _ _ _,fun b' pos' sz' e=>?_⟩
   cases e
   exact⟨⟨l,hH,rfl⟩,w8 _ _ _⟩
  ·rename_i e
   have e':u≠t:=fun h'=>e h'.symm
   obtain⟨y,h1,h2⟩:=c.tok u M h
   refine⟨y,(c4 _ _ e').trans h1,fun b' pos' sz' hy=>?_⟩
   obtain⟨a1,a2⟩:=h2 b' pos' sz' hy
   exact⟨a1,oκ b' _ a2⟩
 ·rw[q1n]
  by_cases e:t=u
  ·simp[e]
  ·have e':u≠t:=fun h'=>e h'.symm
   simp only[e,decide_false,Bool.false_or]
   refine c.tdom u ?_
   simpa[r9,e']using h
theorem z8.y3y (c:z8 Γ w s) {t L:Nat} (hl:s.live t=some L):z8 Γ w {s with tk:=(t,some L)::s.tk}:=by
 refine c.congr (fun _=>rfl) (fun u=>?_) (fun u h=>?_)
 ·rw[q17]
  split
  ·rename_i e;rw[←e,hl]
  ·rfl
 ·rw[q1n,h];simp
theorem q2M (b:Nat):∀(vs:List Value) (o:Nat) (w:World) (arr:Array Value) (T:TypeId) (fr:Nat × Nat),w.heap[b]? =some (.cells arr T fr)→o+vs.length≤arr.size→
  ∃arr',(w.setCells b o vs).heap[b]? =some (.cells arr' T fr)∧arr'.toList=w7 arr.toList o vs
 | [],o,w,arr,T,fr,h,_=>⟨arr,h,by simp[w7]⟩
 |v::vs,o,w,arr,T,fr,h,hl=>by
  have h1:(w.setCell ⟨b,o,none⟩ v).heap[b]? =some (.cells (arr.setIfInBounds o v) T fr):=by
   simp[World.setCell,Array.getElem?_modify,h]
  obtain⟨arr',h2,h3⟩:=q2M b vs (o+1) _ _ T fr h1 (by simp at hl ⊢;omega)
  refine⟨arr',h2,?_⟩
  rw[h3]
  apply List.ext_getElem?
  intro j
  simp only[List.length_cons]at hl
  rw[Z3 (by simp;omega),Z3 (by simp;omega)]
  simp only[List.length_cons,Array.toList_setIfInBounds,List.getElem?_set,Array.length_toList]
  by_cases h4:o+1≤j∧j<o+1+vs.length
  ·rw[if_pos h4,if_pos (by omega),show j-o=(j-(o+1))+1 by omega,List.getElem?_cons_succ]
  ·rw[if_neg h4]
   by_cases h5:o=j
   ·subst h5;rw[if_pos rfl,if_pos (by omega),if_pos (by omega)];simp
   ·rw[if_neg h5,if_neg (by omega)]
theorem q8l (b:Nat):∀(vs:List Value) (o:Nat) (w:World),(w.setCells b o vs).heap.size=w.heap.size
 | [],_,_=>rfl
 |v::vs,o,w=>by rw[World.setCells,q8l b vs];simp[World.setCell]
theorem q2j (b:Nat):∀(vs:List Value) (o:Nat) (w:World) (b':Nat),b'≠b→(w.setCells b o vs).heap[b']? =w.heap[b']?
 | [],_,_,_,_=>rfl
 |v::vs,o,w,b',h=>by
  rw[World.setCells,q2j b vs _ _ b' h]
  have hb:b≠b':=fun e=>h e.symm
  simp[World.setCell,Array.getElem?_modify,hb]
def q4c (o:Oper) (x y:Operand) (t t':TypeId):Prop:=o.op= .call {callee:=.builtin .append,args:=#[x,y],argTypes:=#[t,t']}
theorem q0e {o:Oper} {x y:Operand} {t t':TypeId} (ho:q4c o x y t t') {ρ:Operand→Value} {w w':World} {v:Value}
  (h:(Builtin.append_ #[t,t'] o.type #[ρ x,ρ y]).run P w= .ok v w'):(execOp ρ o).run P w= .ok (.value v) w':=by
 unfold q4c at ho
 unfold execOp
 simp[ho,resolve,invoke,builtin,h]
theorem q0s {t tx T:TypeId} {E:TypeId} {i:TypeInfo} (ht:P.underlying t=some (.slice E)) (hi:P.info? E=some i) {a:Option Addr} {n cap:Nat} {x:Value} {news:List Value} (hs:Src P i.size tx x 0 news w) (h:n≤cap):
  (Builtin.append_ #[t,tx] T #[.slice a n cap,x]).run P w= .ok (.slice a n cap) w:=by
 have hn:news=[]:=List.eq_nil_of_length_eq_zero (by rw[hs.newsLen];simp)
 subst hn
 rcases hs.kind with⟨e',hk⟩|hk <;> cases a <;> simp[Builtin.append_,run_underlying ht,run_underlying hk,sizeOf,typeInfo,hi,hs.len,h,hs.cells,storeCells]
def q5d (P:Program) (s:S) (t':TypeId) (eb:Nat) (e:Ty) (Y:V) (ys:List C):Prop:=
 ((∃E',P.underlying t'=some (.slice E'))∧(Y0 s Y=some (eb,e,ys)∨(Y= .nilc∧ys=[])))∨
 (P.underlying t'=some .string∧Y.isStr∧e= .int .u8∧eb=1∧ys=Y.toStr.map fun b=>C.int b.toNat)
theorem q6V (c:z8 Γ w s) {t':TypeId} {Y:V} {v:Value} {eb:Nat} {e:Ty} {ys:List C} (hr:q9 Γ Y v) (h:q5d P s t' eb e Y ys):
  ∃n news,Src P e.size t' v n news w∧ys.length=n∧n≤maxLen∧n*eb≤140737488355328∧∀i c',ys[i]? =some c'→z7 Γ.H e (chunk news (i*e.size) e.size) c':=by
 rcases h with⟨⟨E',hu⟩,h|⟨rfl,rfl⟩⟩|⟨hu,h1,rfl,rfl,rfl⟩
 ·exact z1F c hr h hu
 ·rw[Z5 hr]
  exact⟨0,[],Src.ofNil w hu 0,rfl,Nat.zero_le _,by rw[Nat.zero_mul];exact Nat.zero_le _,fun i c' hi=>by simp at hi⟩
 ·exact y3t hr h1 hu
theorem z0K (c:z8 Γ w s):Γ.κ w.heap.size=none∧Γ.Z w.heap.size=none:=by
 refine⟨?_,?_⟩
 ·cases hh:Γ.κ w.heap.size with
  |none=>rfl
  |some x=>exact absurd (c.κlt (by rw[hh];simp)) (Nat.lt_irrefl _)
 ·cases hh:Γ.Z w.heap.size with
  |none=>rfl
  |some x=>exact absurd (c.Zlt (by rw[hh];simp)) (Nat.lt_irrefl _)
theorem q6z (hP:x4 P=true) (c:z8 Γ w s) {o:Oper} {a:Act} {x y:Operand} {t t':TypeId} {n:Nat} {X Y:V} {ys:List C} {eb:Nat} {e:Ty} (ho:q4c o x y t t')
  (ht:ty P t= .slice eb e) (hz:Q9 P (y7 P t)=true) (hn:s.known n=false)
  (hx:q9 Γ X (a.eval x)) (hX:X= .nilc∨∃eb' e',X= .emp eb' e') (hy:q9 Γ Y (a.eval y)) (hel:q5d P s t' eb e Y ys):
  w4 P o a w (u2 Γ w {s with tk:=(n,some ys.length)::s.tk} (.sl eb e ys n)):=by
 obtain⟨hu,he,heb,hE⟩:=q1a hP ht
 obtain⟨a0,hx0⟩:∃a0,a.eval x= .slice a0 0 0:=by
  rcases hX with rfl|⟨eb',e',rfl⟩
  ·exact⟨none,Z5 hx⟩
  ·obtain⟨h1,_⟩:=(x9 rfl rfl).1 hx
   simp only[q8]at h1
   obtain⟨a0,h1⟩:=h1
   exact⟨a0,by simpa using h1⟩
 obtain⟨m,news,hs,r1,r2,r3,r4⟩:=q6V c hy hel
 obtain⟨i,z,hi,hzz,hzo,hzo2⟩:=q2Z hz
 have hcz:=F2 hzo
 have hsz:i.size=e.size:=by
  have:=j3 hP 11 (y7 P t)
  rw[he,this];simp[Program.cellsOf,hi]
 have hby:i.bytes=eb:=by rw[heb];simp[Program.bytesOf,hi]
 rw[←hsz]at hs
 by_cases hm:m=0
 ·subst hm
  have hys:ys=[]:=List.eq_nil_of_length_eq_zero r1
  subst hys
  obtain⟨c1,p1,g1⟩:=c.Z9 hn (x:=none) (L:=0) (fun _ _ _ h=>by cases h)
  refine w4.val (v:=.slice a0 0 0) (w':=w) (q0e ho ?_) ⟨_,g1,p1,c1,(x9 rfl rfl).2 ⟨?_,rfl⟩⟩
  ·rw[hx0];exact q0s hu hi hs (Nat.le_refl _)
  ·simp only[q8]
   exact⟨a0,0,0,rfl,v7 rfl (Nat.le_refl _) (Nat.zero_le _) (by rw[Nat.zero_mul];exact Nat.zero_le _) (.inl rfl),none,0,by simp[G.Z9,r9],Nat.le_refl _,fun _=>rfl⟩
 ·have hmx':((0+m:Nat):Int)≤9223372036854775807:=by unfold maxLen at r2;omega
  have hge:=grownCap_ge w (0+m) 0 (y7 P t)
  have hcm:=grownCap_le_maxLen w (0+m) 0 (y7 P t) (by omega)
  have hold:(Builtin.firstCells i.size 0 (.slice a0 0 0)).run P w.drew= .ok ([]:List Value).toArray w.drew:=by
   cases a0 with
   |none=>exact run_firstCells_none w.drew i.size 0 0 0
   |some ad=>exact run_firstCells_some w.drew i.size 0 ad 0 0 [] (by simp) (by simp)
  have run:=run_append_grow_src (P:=P) w t t' o.type _ i z hu hi hzz a0 0 0 [] hold (a.eval y) m news hs (by omega) hmx' (by
   rw[hby];exact growslice_fits (by omega) (by rw[Nat.zero_add];exact r3))
  rw[←hx0]at run
  have he:Ext w (w.drew.alloc (.cells ((([]:List Value)++news).toArray++Builtin.zeroCells z.cells (grownCap w (0+m) 0 (y7 P t)-(0+m))) (y7 P t))):=(Ext.drew w).trans (Ext.alloc _ _)
  have hnew:=heap_alloc_new w.drew (.cells ((([]:List Value)++news).toArray++Builtin.zeroCells z.cells (grownCap w (0+m) 0 (y7 P t)-(0+m))) (y7 P t))
  obtain⟨c1,p1,g1⟩:=c.q0A he (l:=news) (r:=(Builtin.zeroCells z.cells (grownCap w (0+m) 0 (y7 P t)-(0+m))).toList) hnew (by simp)
  obtain⟨k1,k2⟩:=z0K c
  have hzc:z.cells.size=e.size:=by
   have h1:=j3 hP 11 (y7 P t)
   have h2:=q3Q hP (y7 P t)
   rw[‹e=_›,h1,←h2,←hcz];simp
  have hnl:news.length=m*e.size:=by rw[hs.newsLen,hsz]
  have hsize:((([]:List Value)++news).toArray++Builtin.zeroCells z.cells (grownCap w (0+m) 0 (y7 P t)-(0+m))).size=grownCap w (0+m) 0 (y7 P t)*e.size:=by
   simp only[List.nil_append,Array.size_append,List.size_toArray,size_zeroCells,hzc,hnl,←Nat.add_mul]
   congr 1;omega
  obtain⟨c2,p2,g2⟩:=c1.Z9 (t:=n) hn (x:=some (w.heap.size,news.length,grownCap w (0+m) 0 (y7 P t)*e.size)) (L:=ys.length) (fun b pos sz h=>by
   cases h
   exact⟨k1,k2,⟨news,w8 _ _ _,rfl⟩,_,_,hnew,hsize⟩)
  refine w4.val (q0e ho run) ⟨_,g1.trans g2,p1.trans p2,c2,(x9 rfl rfl).2 ⟨?_,rfl⟩⟩
  simp only[q8]
  rw[show 0+m=m by omega]at hge hcm ⊢
  refine⟨_,m,_,rfl,v7 r1 hge hcm r3 (.inr ⟨w.heap.size,0,news,rfl,w8 _ _ _,by omega,fun i c' hi=>?_⟩),_,_,w8 _ _ _,Nat.le_refl _,fun _=>⟨rfl,hnl.symm,Nat.le_refl _⟩⟩
  rw[Nat.zero_add]
  exact(r4 i c' hi).mono p1.H
theorem z4Y (hP:x4 P=true) (c:z8 Γ w s) {o:Oper} {a:Act} {x y:Operand} {t t':TypeId} {tk:Nat} {Y:V} {cs ys:List C} {eb:Nat} {e:Ty} (ho:q4c o x y t t')
  (ht:ty P t= .slice eb e) (hz:Q9 P (y7 P t)=true) (hl:s.live tk=some cs.length)
  (hx:q9 Γ (.sl eb e cs tk) (a.eval x)) (hy:q9 Γ Y (a.eval y)) (hel:q5d P s t' eb e Y ys) (hlen:(cs.length+ys.length)*eb≤140737488355328) (hlen2:cs.length+ys.length≤maxLen):
  w4 P o a w (u2 Γ w {s with tk:=(tk,some (cs.length+ys.length))::s.tk} (.sl eb e (cs++ys) tk)):=by
 obtain⟨hu,he,heb,hE⟩:=q1a hP ht
 obtain⟨m,news,hs,r1,r2,r3,r4⟩:=q6V c hy hel
 obtain⟨n,olds,hso,o1,o2,o3,o4⟩:=z1F (P:=P) (tx:=t) c hx (show Y0 s (.sl eb e cs tk)=some (eb,e,cs) from rfl) hu
 obtain⟨h1,_⟩:=(x9 rfl rfl).1 hx
 simp only[q8]at h1
 obtain⟨aa,n',cap,hv,hrc,x0,L0,hτ,hL1,hL2⟩:=h1
 simp at hv
 obtain⟨x1,hτ1,htok⟩:=c.tok tk _ hl
 rw[hτ]at hτ1;cases hτ1
 have hL2:=hL2 rfl
 obtain⟨_,n1,cap1,e1,_,e2,hle,hcap,hnb,hm⟩:=W3 hrc
 simp at e1
 obtain⟨rfl,rfl,rfl⟩:=e1
 simp only[C.elems]at e2 hm
 have hnn:n=n':=by omega
 subst hnn
 obtain⟨i,z,hi,hzz,hzo,hzo2⟩:=q2Z hz
 have hcz:=F2 hzo
 have hsz:i.size=e.size:=by
  have:=j3 hP 11 (y7 P t)
  rw[he,this];simp[Program.cellsOf,hi]
 have hby:i.bytes=eb:=by rw[heb];simp[Program.bytesOf,hi]
 have hzc:z.cells.size=e.size:=by
  have h1:=j3 hP 11 (y7 P t)
  have h2:=q3Q hP (y7 P t)
  rw[‹e=_›,h1,←h2,←hcz];simp
 rw[←hsz]at hs hso
 have hnl:news.length=m*e.size:=by rw[hs.newsLen,hsz]
 have hol:olds.length=n*e.size:=by rw[hso.newsLen,hsz]
 by_cases hm0:m=0
 ·subst hm0
  have hys:ys=[]:=List.eq_nil_of_length_eq_zero r1
  subst hys
  refine w4.val (v:=.slice aa n cap) (w':=w) (q0e ho ?_) ⟨Γ,.refl Γ,.refl Γ,?_,?_⟩
  ·rw[hv];exact q0s hu hi hs hle
  ·exact c.y3y (by simpa using hl)
  ·rw[List.append_nil,←hv];exact hx
 ·have hys:0<ys.length:=by omega
  have hlen':(cs++ys).length=n+m:=by rw[List.length_append,o1,r1]
  have hmx:n+m≤maxLen:=by omega
  have hmx':((n+m:Nat):Int)≤9223372036854775807:=by unfold maxLen at hmx;omega
  have hbb:(n+m)*eb≤140737488355328:=by rw[←o1,←r1];exact hlen
  by_cases hroom:n+m≤cap
  · -- in the room behind
   cases x0 with
   |none=>simp only at hL2;omega
   |some y0=>
    obtain⟨b,pos,sz⟩:=y0
    simp only at hL2
    obtain⟨rfl,hpos,hcs⟩:=hL2
    obtain⟨⟨l,hH,hlp⟩,hκ⟩:=htok b pos sz rfl
    obtain⟨hZ,_,arr,T,hw,has,_⟩:=c.hκ b _ _ hκ
    have hfit:n*e.size+m*e.size≤arr.size:=by
     rw[has,←Nat.add_mul];exact Nat.le_trans (Nat.mul_le_mul_right _ hroom) hcs
    have run:=run_append_room_src (P:=P) w t t' o.type _ i hu hi b 0 n cap (a.eval y) m news hs hroom
     (fun j hj=>by
      rw[hnl]at hj
      simp[World.cell?,hw]
      rw[hsz];omega)
     (fun j hj=>by simp[World.frozen?,hw])
    rw[←hv]at run
    rw[Nat.zero_add,hsz]at run
    obtain⟨arr',hw',harr'⟩:=q2M b news (n*e.size) w arr T (0,0) hw (by rw[hnl];exact hfit)
    obtain⟨arr0,T0,fr0,r0,hw0,hl0⟩:=c.hH b l hH
    rw[hw]at hw0;cases hw0
    have hsplit:arr'.toList=l++news++r0.drop news.length:=by
     rw[harr',hl0]
     unfold w7
     rw[hpos,←hlp,List.take_left',List.drop_append,List.drop_eq_nil_of_le (by omega)]
     ·simp
     ·rfl
    obtain⟨Γ',q1,q2,q3,q4,q5⟩:=c.y3N (w':=w.setCells b (n*e.size) news) hl hτ hw' hH hκ hsplit (by rw[←has,←Array.length_toList,←Array.length_toList,harr',Q7 (by rw[hnl];simpa using hfit)])
     (fun b' hb'=>q2j b news _ w b' hb') (show cs.length<cs.length+ys.length by omega) (by unfold oof;rw[World.os_setCells,World.output_setCells])
    refine w4.val (q0e ho run) ⟨Γ',q5,q4,q3,(x9 rfl rfl).2 ⟨?_,rfl⟩⟩
    simp only[q8]
    refine⟨_,n+m,cap,rfl,v7 hlen' hroom hcap hbb (.inr ⟨b,0,l++news,rfl,q1,?_,fun j c' hj=>?_⟩),_,_,q2,by rw[List.length_append];exact Nat.le_refl _,fun _=>⟨rfl,?_,hcs⟩⟩
    ·simp only[List.length_append,hnl,hlp];rw[Nat.add_mul];omega
    ·rw[Nat.zero_add]
     have hold:∀i c',cs[i]? =some c'→z7 Γ'.H e (chunk l (i*e.size) e.size) c':=by
      intro i' c'' hi'
      rcases hm with hm|⟨b1,off,l1,e1,hb1,hs1,hc1⟩
      ·have:=(List.getElem?_eq_some_iff.1 hi').1;omega
      ·simp at e1
       obtain⟨rfl,rfl⟩:=e1
       rw[hH]at hb1;cases hb1
       have:=hc1 i' c'' hi'
       rw[Nat.zero_add]at this
       exact this.mono q4.H
     have hnew:∀i c',ys[i]? =some c'→z7 Γ'.H e (chunk news (i*e.size) e.size) c':=fun i c' hi=>(r4 i c' hi).mono q4.H
     have:=q6I (rest:=[]) e2 r1 (by rw[hlp];exact hpos.symm) hnl hold hnew j c' hj
     simpa using this
    ·simp only[List.length_append,hnl,hlp,Nat.add_mul,hpos]
  · -- a new block
   have hge:=grownCap_ge w (n+m) cap (y7 P t)
   have hcm:=grownCap_le_maxLen w (n+m) cap (y7 P t) hmx
   have hold':(Builtin.firstCells i.size n (.slice aa n cap)).run P w.drew= .ok olds.toArray w.drew:=by rw[←hv];exact hso.cellsD
   have run:=run_append_grow_src (P:=P) w t t' o.type _ i z hu hi hzz aa n cap olds hold' (a.eval y) m news hs (by omega) hmx' (by
    rw[hby];exact growslice_fits (by omega) hbb)
   rw[←hv]at run
   have hext:Ext w (w.drew.alloc (.cells ((olds++news).toArray++Builtin.zeroCells z.cells (grownCap w (n+m) cap (y7 P t)-(n+m))) (y7 P t))):=(Ext.drew w).trans (Ext.alloc _ _)
   have hnew:=heap_alloc_new w.drew (.cells ((olds++news).toArray++Builtin.zeroCells z.cells (grownCap w (n+m) cap (y7 P t)-(n+m))) (y7 P t))
   obtain⟨c1,p1,g1⟩:=c.q0A hext (l:=olds++news) (r:=(Builtin.zeroCells z.cells (grownCap w (n+m) cap (y7 P t)-(n+m))).toList) hnew (by simp)
   obtain⟨k1,k2⟩:=z0K c
   have hsize:((olds++news).toArray++Builtin.zeroCells z.cells (grownCap w (n+m) cap (y7 P t)-(n+m))).size=grownCap w (n+m) cap (y7 P t)*e.size:=by
    simp only[Array.size_append,List.size_toArray,List.length_append,size_zeroCells,hzc,hnl,hol,←Nat.add_mul]
    congr 1;omega
   obtain⟨Γ',q1,q2,q3,q4,q5⟩:=c1.y3F (t:=tk) (L':=cs.length+ys.length) (show(Γ.q0A w.heap.size (olds++news)).τ tk=some (x0,cs.length) from hτ) hnew (w8 _ _ _) k1 k2 hsize (by omega)
   refine w4.val (q0e ho run) ⟨Γ',g1.trans q5,p1.trans q4,q3,(x9 rfl rfl).2 ⟨?_,rfl⟩⟩
   simp only[q8]
   have hll:(olds++news).length=(n+m)*e.size:=by rw[List.length_append,hol,hnl,Nat.add_mul]
   refine⟨_,n+m,_,rfl,v7 hlen' hge hcm hbb (.inr ⟨w.heap.size,0,olds++news,rfl,by rw[q1];exact w8 _ _ _,by omega,fun j c' hj=>?_⟩),_,_,q2,by rw[List.length_append];exact Nat.le_refl _,fun _=>⟨rfl,hll.symm,Nat.le_refl _⟩⟩
   rw[Nat.zero_add]
   have hold2:∀i c',cs[i]? =some c'→z7 Γ'.H e (chunk olds (i*e.size) e.size) c':=fun i c' hi=>(o4 i c' hi).mono (p1.trans q4).H
   have hnew2:∀i c',ys[i]? =some c'→z7 Γ'.H e (chunk news (i*e.size) e.size) c':=fun i c' hi=>(r4 i c' hi).mono (p1.trans q4).H
   have:=q6I (rest:=[]) e2 r1 hol hnl hold2 hnew2 j c' hj
   simpa using this
end
end Go.E
namespace Go.E
open Go
theorem q74 {sz:Nat}:∀(vs:List Value) (i:Nat) (v:Value),(∀v∈vs,v.cells.size=sz)→vs[i]? =some v→chunk (vs.flatMap fun v=>v.cells.toList) (i*sz) sz=v.cells.toList
 | [],_,_,_,h=>by simp at h
 |u::vs,0,v,hs,h=>by
  simp at h;subst h
  have:=hs u (by simp)
  simp only[chunk,Nat.zero_mul,List.drop_zero,List.flatMap_cons]
  rw[List.take_append_of_le_length (by simp[this]),List.take_of_length_le (by simp[this])]
 |u::vs,i+1,v,hs,h=>by
  have hu:=hs u (by simp)
  have ih:=q74 vs i v (fun v hv=>hs v (by simp[hv])) (by simpa using h)
  simp only[chunk,List.flatMap_cons]at ih ⊢
  rw[List.drop_append,List.drop_eq_nil_of_le (by simp[hu,Nat.add_mul]),List.nil_append]
  rw[show(i+1)*sz-u.cells.toList.length=i*sz by simp[hu,Nat.add_mul]]
  exact ih
theorem z6N (off:Nat):∀(l:List Value) (k:Nat) (cells:Array Value),off+k+l.length≤cells.size→
  ((l.zipIdx k).foldl (fun cs (p:Value × Nat)=>cs.setIfInBounds (off+p.2) p.1) cells).toList=cells.toList.take (off+k)++l++cells.toList.drop (off+k+l.length)
 | [],k,cells,_=>by simp
 |v::l,k,cells,h=>by
  simp only[List.length_cons]at h
  simp only[List.zipIdx_cons,List.foldl_cons]
  rw[z6N off l (k+1) _ (by simp;omega)]
  have hlt:off+k<cells.toList.length:=by simp;omega
  simp only[Array.toList_setIfInBounds,List.length_cons]
  rw[show off+(k+1)=off+k+1 by omega,List.take_add_one]
  simp only[List.getElem?_set,if_true,hlt]
  rw[List.take_set_of_le (Nat.le_refl _),List.drop_set_of_lt (by omega)]
  rw[show off+k+1+l.length=off+k+(l.length+1) by omega]
  simp
theorem y2p {place:Nat→Option (Nat × Nat)} {cells:Array Value} {i off size:Nat} {v:Value} {rest:List (Nat × Value)} (hp:place i=some (off,size)) (hv:v.cells.size=size) (hl:off+size≤cells.size):
  ∃cells',cells'.toList=w7 cells.toList off v.cells.toList∧Instr.fill place cells ((i,v)::rest)=Instr.fill place cells' rest:=by
 refine⟨v.cells.zipIdx.foldl (fun cs (c,j)=>cs.setIfInBounds (off+j) c) cells,?_,?_⟩
 ·rw[←Array.foldl_toList,Array.toList_zipIdx]
  have:=z6N off v.cells.toList 0 cells (by simp;omega)
  simpa[w7]using this
 ·simp only[Instr.fill,hp]
  rw[if_neg]
  simp[hv]
  omega
def Q6 (τ:Ty) (y:V):V:=
 match y,τ with
 | .nilc,.slice eb e=>.emp eb e
 |y,_=>y
def q3E (τ:Ty):V→List (Nat × V)→V
 |x,[]=>x
 |x,(i,v)::rest=>q3E τ (x.setAt [i] (Q6 (τ.get i) v)) rest
def q4a (τ:Ty):V→List (Nat × V)→Prop
 |_,[]=>True
 |x,(i,v)::rest=>(τ.child i).isSome=true∧(Q6 (τ.get i) v).ty=τ.get i∧(Q6 (τ.get i) v).plain=true∧x.at [i]≠.any∧q4a τ (x.setAt [i] (Q6 (τ.get i) v)) rest
section
variable {P:Program} {Γ:G} {w w':World} {s:S}
theorem z1r {τ:Ty} {y:V} {v:Value} (h:q9 Γ y v):q9 Γ (Q6 τ y) v:=by
 unfold Q6
 split
 ·rw[Z5 h];exact q1A
 ·exact h
theorem q4j {T:TypeId} {τ:Ty} (hP:x4 P=true) (ht:ty P T=τ) (hk:τ.known=true) {b off:Nat} {arr:Array Value} {E:TypeId} {fr:Nat × Nat} {w:World}
  (hb:w.heap[b]? =some (.cells arr E fr)) (hl:off+τ.size≤arr.size) (h1:J0 (chunk arr.toList off τ.size)):
  ∃v,(loadVar T ⟨b,off,none⟩).run P w= .ok v w∧v.cells.toList=chunk arr.toList off τ.size∧x8 v=τ.isAgg:=by
 have hno:∀s,τ≠.opq s:=by intro s e;subst e;simp[Ty.known]at hk
 have hagg:=y0s (w:=w) ht hno
 have hsz:=run_sizeOf (w:=w) hP (T:=T) (by intro s e;exact hno s (ht ▸ e))
 rw[ht]at hsz
 unfold loadVar
 cases ha:τ.isAgg with
 |true=>
  have hlen:(chunk arr.toList off τ.size).length=τ.size:=u9 _ _ _ (by simpa using hl)
  have:=run_loadCells_list (P:=P) w ⟨b,off,none⟩ (chunk arr.toList off τ.size) (fun j v hv=>by
   rw[q0q]
   rw[w5]at hv
   split at hv
   ·simp[World.cell?,hb];simpa using hv
   ·cases hv)
  rw[hlen]at this
  refine⟨.agg (chunk arr.toList off τ.size).toArray,?_,by simp[Value.cells],rfl⟩
  simp[hagg,ha,hsz,this]
 |false=>
  have h0:τ.size=1:=Ty.size_leaf hk ha
  have hlt:off<arr.size:=by omega
  have hc:chunk arr.toList off τ.size=[arr[off]]:=by
   rw[h0];simp[chunk,List.drop_eq_getElem_cons (l:=arr.toList) (i:=off) (by simpa using hlt)]
  have hone:arr[off].oneCell'=true:=h1 _ (by rw[hc];simp)
  have hna:x8 arr[off]=false:=by cases hv:arr[off] <;> simp_all[Value.oneCell',x8]
  refine⟨arr[off],?_,by rw[x5 hna,hc],hna⟩
  have hcell:w.cell? ⟨b,off,none⟩=some arr[off]:=by simp[World.cell?,hb,Array.getElem?_eq_getElem hlt]
  simp[hagg,ha,hcell]
theorem z1e (hP:x4 P=true) (c:z8 Γ w s) {T:TypeId} {k:Key} {q:List Nat} {τ:Ty} {x:V} {v:Value}
  (hr:q9 Γ (.ptr k q τ) v) (ho:s.obj k=some (.box x)) (hne:x.at q≠.any) (ht:τ=ty P T) (hk:τ.known=true):
  ∃u,(Instr.loadAt T v).run P w= .ok u w∧q9 Γ (view (x.at q)) u:=by
 obtain⟨b,τ0,o,h1,h2,rfl⟩:=X5 hr
 obtain⟨b',cells,E,e1,_,_,hb,hsz,hrep,hxp,_⟩:=c.own (by assumption) ho
 obtain⟨fr0,hb,hfr0⟩:=hb
 rw[h1]at e1
 cases e1
 obtain⟨g1,g2,g3⟩:=hrep.at_ h2 hne hxp
 have hcl:(chunk cells.toList 0 x.ty.size).length=x.ty.size:=u9 _ _ _ (by simpa using hsz)
 rw[hcl]at g2
 have hch:chunk (chunk cells.toList 0 x.ty.size) o τ.size=chunk cells.toList o τ.size:=by rw[o5 _ _ _ _ _ g2,Nat.zero_add]
 rw[hch]at g3
 have hpl:=V.q13 g3 hne
 obtain⟨u,r1,r2,r3⟩:=q4j (T:=T) (E:=E) (fr:=fr0) hP ht.symm hk hb (by omega) (g3.one hpl)
 refine⟨u,?_,(y8 (by rw[z8O];exact hpl)).2 ⟨?_,by rw[z78,g1,r3]⟩⟩
 ·simp[Instr.loadAt,Instr.sureAddr,r1]
 ·rw[r2];exact z5u _ g3
theorem z0p:∀{q:List Nat} {τ0 f:Ty} {o:Nat} {i:Nat},τ0.walk (q++[i])=some (o,f)→∃o1 τ o2,τ0.walk q=some (o1,τ)∧τ.child i=some (o2,f)∧o=o1+o2
 | [],τ0,f,o,i,h=>by
  simp only[List.nil_append,Ty.walk]at h
  cases hc:τ0.child i with
  |none=>rw[hc]at h;cases h
  |some x=>
   obtain⟨o2,f2⟩:=x
   rw[hc]at h
   simp only[Option.some.injEq,Prod.mk.injEq]at h
   obtain⟨rfl,rfl⟩:=h
   exact⟨0,τ0,o2,rfl,hc,by omega⟩
 |j::q,τ0,f,o,i,h=>by
  simp only[List.cons_append,Ty.walk]at h ⊢
  cases hc:τ0.child j with
  |none=>rw[hc]at h;cases h
  |some x=>
   obtain⟨o3,f3⟩:=x
   rw[hc]at h
   simp only at h ⊢
   cases hw:f3.walk (q++[i])with
   |none=>rw[hw]at h;cases h
   |some y=>
    obtain⟨o4,f4⟩:=y
    rw[hw]at h
    simp only[Option.some.injEq,Prod.mk.injEq]at h
    obtain⟨rfl,rfl⟩:=h
    obtain⟨o1,τ,o2,h1,h2,rfl⟩:=z0p hw
    exact⟨o3+o1,τ,o2,by rw[h1],h2,by omega⟩
theorem y17 (hP:x4 P=true) (c:z8 Γ w s) {T:TypeId} {k:Key} {q:List Nat} {lo m M:Nat} {e:Ty} {x:V} {cc:C} {v:Value}
  (hr:q9 Γ (.ptr k (q++[lo]) e) v) (ho:s.obj k=some (.box x)) (hat:x.at q= .d (.arr M e) cc) (ht:ty P T= .arr m e) (hk:(Ty.arr m e).known=true) (hlo:lo+m≤M):
  ∃u,(Instr.loadAt T v).run P w= .ok u w∧q9 Γ (.d (.arr m e) (.agg ((cc.elems.drop lo).take m))) u:=by
 obtain⟨b,τ0,o,h1,h2,rfl⟩:=X5 hr
 obtain⟨b',cells,E,e1,_,_,hb,hsz,hrep,hxp,_⟩:=c.own (by assumption) ho
 obtain⟨fr0,hb,hfr0⟩:=hb
 rw[h1]at e1
 cases e1
 obtain⟨o1,τ,o2,w1,w2,rfl⟩:=z0p h2
 obtain⟨g1,g2,g3⟩:=hrep.at_ w1 (by rw[hat];simp) hxp
 have hcl:(chunk cells.toList 0 x.ty.size).length=x.ty.size:=u9 _ _ _ (by simpa using hsz)
 rw[hcl]at g2
 have hch:chunk (chunk cells.toList 0 x.ty.size) o1 τ.size=chunk cells.toList o1 τ.size:=by rw[o5 _ _ _ _ _ g2,Nat.zero_add]
 rw[hch,hat]at g3
 rw[hat]at g1
 simp only[V.ty]at g1
 subst g1
 simp only[q8,z7,Ty.size]at g3
 obtain⟨cs,rfl,r1,r2,r3,r4⟩:=g3
 simp only[C.elems]
 simp only[Ty.child]at w2
 split at w2
 ·rename_i hlM
  simp only[Option.some.injEq,Prod.mk.injEq,and_true]at w2
  subst w2
  simp only[Ty.size]at g2
  have hlen:((cs.drop lo).take m).length=m:=by simp;omega
  have hms:(lo+m)*e.size≤M*e.size:=Nat.mul_le_mul_right _ hlo
  rw[Nat.add_mul]at hms
  have hcl2:(chunk cells.toList (o1+lo*e.size) (m*e.size)).length=m*e.size:=u9 _ _ _ (by simp;omega)
  have hel:∀i c,((cs.drop lo).take m)[i]? =some c→z7 Γ.H e (chunk (chunk cells.toList (o1+lo*e.size) (m*e.size)) (i*e.size) e.size) c:=by
   intro i c hi
   rw[List.getElem?_take]at hi
   split at hi
   ·rename_i hin
    rw[List.getElem?_drop]at hi
    have h9:=r4 _ _ hi
    have hle:(i+1)*e.size≤m*e.size:=Nat.mul_le_mul_right _ hin
    rw[Nat.add_mul]at hle
    rw[Nat.add_mul]at h9
    rw[o5 _ _ _ _ _ (by omega)]at h9 ⊢
    rw[show o1+lo*e.size+i*e.size=o1+(lo*e.size+i*e.size) by omega]
    exact h9
   ·cases hi
  have h4:z7 Γ.H (.arr m e) (chunk cells.toList (o1+lo*e.size) (Ty.arr m e).size) (.agg ((cs.drop lo).take m)):=by
   simp only[z7,Ty.size]
   exact⟨_,rfl,hlen,hcl2,z3Z hlen hcl2 hel,hel⟩
  obtain⟨u,q1,q2,q3⟩:=q4j (T:=T) (E:=E) (fr:=fr0) (off:=o1+lo*e.size) hP ht hk hb (by simp only[Ty.size];omega) h4.one
  refine⟨u,?_,Q2.2 ⟨by rw[q2];exact h4,q3⟩⟩
  simp[Instr.loadAt,Instr.sureAddr,q1]
 ·cases w2
theorem y0D (hP:x4 P=true) (c:z8 Γ w s) {T:TypeId} {τ:Ty} {cc:C} {v:Value}
  (hr:q9 Γ (.cptr τ cc) v) (ht:τ=ty P T) (hk:τ.known=true):
  ∃u,(Instr.loadAt T v).run P w= .ok u w∧q9 Γ (.d τ cc) u:=by
 obtain⟨b,off,l,rfl,h2,h3,h4⟩:=q4I hr
 obtain⟨arr,E,fr,r,hb,hl⟩:=c.hH b l h2
 have hch:chunk arr.toList off τ.size=chunk l off τ.size:=by rw[hl,q08 _ _ _ _ h3]
 have hsz:off+τ.size≤arr.size:=by rw[←Array.length_toList,hl,List.length_append];omega
 obtain⟨u,r1,r2,r3⟩:=q4j (T:=T) hP ht.symm hk hb hsz (by rw[hch];exact h4.one)
 exact⟨u,by simp[Instr.loadAt,Instr.sureAddr,r1],Q2.2 ⟨by rw[r2,hch];exact h4,r3⟩⟩
theorem z8M {cells:Array Value} (h:Y9 F5 cells.toList=true):cells=#[.pointer none,.slice none 0 0]:=by
 apply Array.ext'
 generalize cells.toList=l at h
 simp only[F5,Y9,q0Z,Bool.and_eq_true,beq_iff_eq,decide_eq_true_eq,Ty.size,chunk]at h
 obtain⟨⟨h1,_⟩,⟨_,h2⟩,⟨_,h3⟩,_⟩:=h
 match l,h1 with
 | [a,b],_=>
  simp only[List.drop_zero,List.take_succ_cons,List.take_zero,List.drop_succ_cons]at h2 h3
  cases a <;> simp[q2T]at h2
  cases b <;> simp[q2T]at h3
  obtain⟨⟨rfl,rfl⟩,rfl⟩:=h3
  subst h2
  rfl
def z6j (τ:Ty) (T:TypeId):O:=bif Ty.beq τ F5 then .it [] T else .box (o9 τ)
theorem y2F (c:z8 Γ w s) {o:Oper} {a:Act} {T:TypeId} {n:Nat} (ho:o.op= .alloc T) (hn:s.obj (.l n)=none) (hz:Q9 P T=true):
  w4 P o a w (u2 Γ w {s with loc:=(.l n,z6j (ty P T) T)::s.loc} (.ptr (.l n) [] (ty P T))):=by
 obtain⟨z,hrun,hzo,hag⟩:=z5E hz
 have hlen:=F2 hzo
 cases hB:Ty.beq (ty P T) F5 with
 |true=>
  have e:=(Ty.beq_iff _ _).1 hB
  rw[e]at hzo
  have hz2:z.cells=#[.pointer none,.slice none 0 0]:=z8M hzo
  obtain⟨h1,h2,h3⟩:=c.addKey hn (Ext.alloc w (.cells z.cells T)) (τ:=F5) (o:=.it [] T) fun Γ' hpr _ hι hH hZ=>⟨w.heap.size,.pointer none,.slice none 0 0,hι,hH,hZ,by rw[heap_alloc_new,hz2],.inl rfl,by simp,.inl ⟨rfl,rfl⟩⟩
  simp only[z6j,hB,cond_true]
  rw[e]
  refine w4.val (v:=.pointer (some ⟨w.heap.size,0,none⟩)) (w':=w.alloc (.cells z.cells T)) ?_ ⟨_,h3,h2,h1,(y8 rfl).2 ⟨?_,by simp[V.ty,Ty.isAgg,x8]⟩⟩
  ·unfold execOp
   simp only[ho,Instr.alloc,Sem.run_bind,hrun,Result.andThen_ok]
   simp[newVar,newRow]
  ·simp only[q8]
   exact⟨w.heap.size,F5,0,by simp[G.addKey,q0d],rfl,by simp[Value.cells]⟩
 |false=>
 simp only[z6j,hB,cond_false]
 have hX:q8 Γ none [] (o9 (ty P T)) z.cells.toList:=q6a (ty P T) hzo
 have hb:=q7c c hn (T:=T) (x:=o9 (ty P T)) (cells:=z.cells) (Ext.alloc w _) (heap_alloc_new w (.cells z.cells T)) (by rw[q2S,←hlen];simp) (by rw[q2S,←hlen,q2f];exact hX) (q4f _) (z1y _)
 rw[q2S]at hb
 refine w4.val (v:=.pointer (some ⟨w.heap.size,0,none⟩)) (w':=w.alloc (.cells z.cells T)) ?_ hb
 unfold execOp
 simp only[ho,Instr.alloc,Sem.run_bind,hrun,Result.andThen_ok]
 simp[newVar,newRow]
theorem y4U (c:z8 Γ w s) {o:Oper} {a:Act} {T:TypeId} {x:Operand} {n:Nat} {y:V} (ho:o.op= .box T x) (hn:s.obj (.l n)=none) (hr:q9 Γ y (a.eval x)) (hpl:y.plain=true) (hns:y.v8=true):
  w4 P o a w (u2 Γ w {s with loc:=(.l n,.box y)::s.loc} (.ptr (.l n) [] y.ty)):=by
 obtain⟨h1,_⟩:=(y8 hpl).1 hr
 have hlen:=h1.length hpl
 have hb:=q7c c hn (T:=T) (x:=y) (cells:=(a.eval x).cells) (Ext.alloc w _) (heap_alloc_new w (.cells (a.eval x).cells T)) (by rw[←hlen];simp) (by rw[←hlen,q2f];exact h1) hpl hns
 refine w4.val (v:=.pointer (some ⟨w.heap.size,0,none⟩)) (w':=w.alloc (.cells (a.eval x).cells T)) ?_ hb
 unfold execOp
 simp only[ho,Instr.box]
 simp[newVar,newRow]
theorem y38 (c:z8 Γ w s) {o:Oper} {a:Act} {T:TypeId} {x:Operand} {y:V} {cc:C} (ho:o.op= .box T x) (hr:q9 Γ y (a.eval x)) (hpl:y.plain=true) (hc:s9 y=some cc):
  w4 P o a w (u2 Γ w s (.cptr y.ty cc)):=by
 obtain⟨h1,_⟩:=(y8 hpl).1 hr
 have hlen:=h1.length hpl
 obtain⟨c1,p1,g1⟩:=c.q0A (l:=(a.eval x).cells.toList) (r:=[]) (Ext.alloc w _) (heap_alloc_new w (.cells (a.eval x).cells T)) (by simp)
 refine w4.val (v:=.pointer (some ⟨w.heap.size,0,none⟩)) (w':=w.alloc (.cells (a.eval x).cells T)) ?_ ⟨_,g1,p1,c1,q0k (l:=(a.eval x).cells.toList) (w8 _ _ _) (by rw[hlen];omega) ?_⟩
 ·unfold execOp
  simp only[ho,Instr.box]
  simp[newVar,newRow]
 ·have:=(q0M _ h1 hc).mono p1.H
  rw[←hlen,q2f]
  exact this
theorem z8.write (c:z8 Γ w s) {k:Key} {x x':V} {b:Nat} {τ:Ty} {cells':Array Value} {T:TypeId} {fz:Nat × Nat}
  (ho:s.obj k=some (.box x)) (hι:Γ.ι k=some (b,τ)) (hnew:w'.heap[b]? =some (.cells cells' T fz)) (hfz:fz.2≤fz.1∨cells'.size≤fz.1) (hsame:∀b',b'≠b→w'.heap[b']? =w.heap[b']?) (hoo:oof w'=oof w)
  (hsz:x'.ty.size≤cells'.size) (hx:q8 Γ (some k) [] x' (chunk cells'.toList 0 x'.ty.size)) (ht:x'.ty=x.ty) (hp:x'.plain=true) (hns:x'.v8=true)
  (hcs:∀arr T fr,w.heap[b]? =some (.cells arr T fr)→cells'.size=arr.size):
  z8 Γ w' {s with loc:=(k,.box x')::s.loc}:=by
 obtain⟨hH,hZ,hlt,e2⟩:=c.W2 hι ho rfl
 simp only[O.ty]at e2
 refine c.change (.refl Γ) rfl rfl rfl hoo (fun b' l h=>?_) (fun b' h=>hsame b' (fun e=>by subst e;exact h hZ)) (fun b' o sz h=>?_) (fun j o h=>?_) (fun _ h _=>h) (fun j h=>?_) (fun b' sz h=>?_) (c.q45 (q2z fun h=>by rw[c6 ho]at h;cases h)) c.tok c.tdom (q8T hnew hsame)
 ·rw[hsame b' (fun e=>by subst e;rw[hH]at h;cases h)];exact c.hH b' l h
 ·obtain⟨a1,a2,a3⟩:=c.hκ b' o sz h
  rw[hsame b' (fun e=>by subst e;exact a2 hH)];exact⟨a1,a2,a3⟩
 ·rw[u3]at h
  split at h
  ·rename_i e
   subst e;cases h
   exact .inr ⟨b,cells',T,by rw[hι,e2,ht],hH,hZ,⟨fz,hnew,hfz⟩,hsz,hx,hp,hns⟩
  ·rename_i e
   refine .inl ⟨h,fun hd=>⟨fun _ _ _ _=>⟨rfl,rfl⟩,fun b' τ' hb=>?_⟩⟩
   obtain⟨a1,a2,a3,_⟩:=c.W2 hb h hd
   refine⟨hsame b' (fun e'=>?_),a1⟩
   subst e'
   exact e (c.z9w hι hb (by rw[c6 ho];rfl) (by rw[c6 h];exact hd))
 ·rw[u3]
  split
  ·simp
  ·exact c.dom j h
 ·obtain⟨arr,T1,fr,a1,a2⟩:=c.hσ b' sz h
  by_cases e:b'=b
  ·subst e
   exact⟨cells',T,fz,hnew,by rw[hcs _ _ _ a1];exact a2⟩
  ·exact⟨arr,T1,fr,by rw[hsame b' e];exact a1,a2⟩
theorem q2V (P:Program) (g o:Nat) (t:TypeId) (fz:Nat × Nat):∀(vs:List Value) (i:Nat) (cur:Array Value) (w:World),w.heap[g]? =some (.cells cur t fz)→(fz.2≤fz.1∨cur.size≤fz.1)→o+i+vs.length≤cur.size→(∀v∈vs,v.oneCell'=true)→
  (storeCells ⟨g,o,none⟩ vs i).run P w= .ok () (w.setRow g (cur.toList.take (o+i)++vs++cur.toList.drop (o+i+vs.length)).toArray)
 | [],i,cur,w,hg,_,_,_=>by
  simp only[storeCells,List.append_nil,List.length_nil,Nat.add_zero,List.take_append_drop,Array.toArray_toList]
  rw[setRow_self w g cur t fz hg]
  rfl
 |v::rest,i,cur,w,hg,hfz,hl,h1=>by
  have hi:o+i<cur.size:=by simp at hl;omega
  have hadd:(⟨g,o,none⟩:Addr).add i=⟨g,o+i,none⟩:=by unfold Addr.add;split <;> simp_all
  have hcell:w.cell? ⟨g,o+i,none⟩=some cur[o+i]:=by simp[World.cell?,hg,hi]
  have hfro:w.frozen? ⟨g,o+i,none⟩=false:=by
   obtain⟨lo,hi'⟩:=fz
   simp only[World.frozen?,hg,Bool.and_eq_false_iff,decide_eq_false_iff_not]
   simp only at hfz
   omega
  have hst:(store ((⟨g,o,none⟩:Addr).add i) v).run P w= .ok () (w.setRow g (cur.setIfInBounds (o+i) v)):=by
   rw[hadd,run_store P w _ v _ (h1 v (by simp)),hcell]
   simp[hfro,setCell_eq_setRow w g (o+i) cur t fz v hg]
  have ih:=q2V P g o t fz rest (i+1) (cur.setIfInBounds (o+i) v) (w.setRow g (cur.setIfInBounds (o+i) v)) (setRow_heap w g cur _ t _ hg) (by simpa using hfz) (by simp at hl ⊢;omega) (fun x hx=>h1 x (by simp[hx]))
  simp only[storeCells,Sem.run_bind,hst,Result.andThen_ok,ih,setRow_setRow]
  congr 3
  have e:=list_seg_step cur.toList (o+i) v rest (by simp at hl ⊢;omega)
  simpa[Array.toList_setIfInBounds,Nat.add_assoc]using e
theorem z5F {T:TypeId} {τ:Ty} (hP:x4 P=true) (ht:ty P T=τ) (hk:τ.known=true) {b off:Nat} {arr:Array Value} {E:TypeId} {fz:Nat × Nat} {v:Value}
  (hb:w.heap[b]? =some (.cells arr E fz)) (hfz:fz.2≤fz.1∨arr.size≤fz.1) (hl:off+τ.size≤arr.size) (hv:v.cells.toList.length=τ.size) (h1:J0 v.cells.toList):
  (storeVar T ⟨b,off,none⟩ v).run P w= .ok () (w.setRow b (w7 arr.toList off v.cells.toList).toArray):=by
 have hsz:=run_sizeOf (w:=w) hP (T:=T) (by intro s e;rw[ht]at e;subst e;simp[Ty.known]at hk)
 rw[ht]at hsz
 have hv':v.cells.size=τ.size:=by simpa using hv
 have hst:=q2V P b off E fz v.cells.toList 0 arr w hb hfz (by simp;omega) h1
 simp only[Nat.add_zero]at hst
 simp[storeVar,hsz,hv',hst,w7]
theorem q8k (vs ws:List Value) {o n:Nat} (h:o+ws.length≤n) (hn:n≤vs.length):chunk (w7 vs o ws) 0 n=w7 (chunk vs 0 n) o ws:=by
 apply List.ext_getElem?
 intro i
 have hl:(chunk vs 0 n).length=n:=u9 _ _ _ (by omega)
 rw[w5,Z3 (by omega),Z3 (by omega),w5]
 simp only[Nat.zero_add]
 by_cases hi:i<n
 ·rw[if_pos hi,if_pos hi]
 ·rw[if_neg hi,if_neg (by omega),if_neg hi]
theorem z68 (hP:x4 P=true) (c:z8 Γ w s) {o:Oper} {a:Act} {t:TypeId} {l cp:Operand} {L Cp:V} {k1 k2:IntKind} {nl nc:Nat} {n:Nat} {eb:Nat} {e:Ty}
  (ho:o.op= .makeSlice t l cp) (ht:ty P t= .slice eb e) (hz:Q9 P (y7 P t)=true) (hn:s.obj (.l n)=none)
  (hl:a.eval l= .int k1 nl) (hc:a.eval cp= .int k2 nc) (h1:nl≤nc) (h2:nc≤maxLen) (hb:nc*eb≤140737488355328) (hes:e.size≠0) {cpv:Option Nat} (hcpv:∀c,cpv=some c→nc=c):
  w4 P o a w (u2 Γ w {s with loc:=(.l n,.box (.d (.arr nl e) (.agg (List.replicate nl (b5 e)))))::s.loc} (.sr (.l n) [] 0 nl cpv eb e)):=by
 obtain⟨hu,he,heb,hE⟩:=q1a hP ht
 obtain⟨i,z,hi,hzz,hzo,hzo2⟩:=q2Z hz
 have hcz:=F2 hzo
 have hsz:i.size=e.size:=by
  have:=j3 hP 11 (y7 P t)
  rw[he,this];simp[Program.cellsOf,hi]
 have hby:i.bytes=eb:=by rw[heb];simp[Program.bytesOf,hi]
 have hzc:z.cells.size=e.size:=by
  have h1:=j3 hP 11 (y7 P t)
  have h2:=q3Q hP (y7 P t)
  rw[he,h1,←h2,←hcz];simp
 have w1:IntKind.i64.wrap (nl:Int)=nl:=IntWalk.i64_in _ (by unfold maxLen at h2;omega)
 have w2:IntKind.i64.wrap (nc:Int)=nc:=IntWalk.i64_in _ (by unfold maxLen at h2;omega)
 have hb':¬(281474976710656:Int)<(eb:Int)*(nc:Int):=by
  have:(eb:Int)*(nc:Int)=((nc*eb:Nat):Int):=by rw[Int.mul_comm];push_cast;rfl
  rw[this];omega
 have hrun:(Instr.makeSlice t (a.eval l) (a.eval cp)).run P w= .ok (.slice (some ⟨w.heap.size,0,none⟩) nl nc) (w.alloc (.cells ((Array.range (nc*e.size)).map (z.cells[· %z.cells.size]!)) (y7 P t))):=by
  by_cases h0:nc=0
  ·subst h0
   have:nl=0:=by omega
   subst this
   have h00:(Array.map (fun _=>(default:Value)) (Array.range 0))=#[]:=by apply Array.eq_empty_of_size_eq_zero;simp
   have h01:(Array.map (fun x=>z.cells[x%z.cells.size]!) (Array.range 0))=#[]:=by apply Array.eq_empty_of_size_eq_zero;simp
   have w0:IntKind.i64.wrap 0=0:=by decide
   simp[Instr.makeSlice,hl,hc,run_underlying hu,asInt,asIntOf,typeInfo,hi,w0,sizeOf,hsz,newRow,h00,h01]
  ·have h3:¬(nc*e.size=0):=Nat.mul_ne_zero h0 hes
   have h4:¬((nc:Int)<(nl:Int)):=by omega
   have h5:¬((nc:Int)<0):=by omega
   have h6:¬((nl:Int)<0):=by omega
   simp[Instr.makeSlice,hl,hc,run_underlying hu,asInt,asIntOf,typeInfo,hi,w1,w2,sizeOf,hsz,newRow,h3,hby,hb',h4,h5,h6,zeroValue,hzz]
 have hsize:((Array.range (nc*e.size)).map (z.cells[· %z.cells.size]!)).size=nc*e.size:=by rw[Array.size_map,Array.size_range]
 have hnl:nl*e.size≤nc*e.size:=Nat.mul_le_mul_right _ h1
 have hX:∀j,j<nl→chunk ((Array.range (nc*e.size)).map (z.cells[· %z.cells.size]!)).toList (j*e.size) e.size=z.cells.toList:=by
  intro j hlt
  apply List.ext_getElem?
  intro q
  rw[w5]
  have hb2:(j+1)*e.size≤nc*e.size:=Nat.mul_le_mul_right _ (by omega)
  rw[Nat.add_mul]at hb2
  split
  ·rename_i hq
   have e1:(j*e.size+q)%z.cells.size=q:=by rw[hzc,Nat.add_comm,Nat.add_mul_mod_self_right,Nat.mod_eq_of_lt hq]
   rw[Array.toList_map,List.getElem?_map,Array.toList_range,List.getElem?_range (by omega)]
   simp only[Option.map_some,e1]
   have:q<z.cells.size:=by omega
   simp[getElem!_pos z.cells q this]
  ·rw[List.getElem?_eq_none (by simp;omega)]
 have hrep:q8 Γ none [] (.d (.arr nl e) (.agg (List.replicate nl (b5 e)))) (chunk ((Array.range (nc*e.size)).map (z.cells[· %z.cells.size]!)).toList 0 (V.d (.arr nl e) (.agg (List.replicate nl (b5 e)))).ty.size):=by
  simp only[q8,V.ty,Ty.size]
  have hlen:(chunk ((Array.range (nc*e.size)).map (z.cells[· %z.cells.size]!)).toList 0 (nl*e.size)).length=nl*e.size:=u9 _ _ _ (by simp only[Array.length_toList,hsize];omega)
  have hel:∀i c',(List.replicate nl (b5 e))[i]? =some c'→z7 Γ.H e (chunk (chunk ((Array.range (nc*e.size)).map (z.cells[· %z.cells.size]!)).toList 0 (nl*e.size)) (i*e.size) e.size) c':=by
   intro i c' hi
   rw[List.getElem?_replicate]at hi
   split at hi
   ·rename_i hlt
    cases hi
    have hb2:(i+1)*e.size≤nl*e.size:=Nat.mul_le_mul_right _ hlt
    rw[Nat.add_mul]at hb2
    rw[o5 _ _ _ _ _ (by omega),Nat.zero_add,hX i hlt,he]
    exact Y4 hzo2
   ·cases hi
  simp only[z7]
  exact⟨_,rfl,by simp,hlen,q03 (by simp) hlen hel,hel⟩
 obtain⟨Γ',q1,q2,q3,q4⟩:=q7c c hn (T:=y7 P t) (Ext.alloc w _) (heap_alloc_new w (.cells ((Array.range (nc*e.size)).map (z.cells[· %z.cells.size]!)) (y7 P t))) (by rw[hsize];exact hnl) hrep rfl rfl
 obtain⟨y1,y2,y3⟩:=q3.q3J (heap_alloc_new w (.cells ((Array.range (nc*e.size)).map (z.cells[· %z.cells.size]!)) (y7 P t)))
 refine w4.val (v:=.slice (some ⟨w.heap.size,0,none⟩) nl nc) (w':=w.alloc (.cells ((Array.range (nc*e.size)).map (z.cells[· %z.cells.size]!)) (y7 P t))) ?_ ⟨_,q1.trans y3,q2.trans y2,y1,?_⟩
 ·unfold execOp
  simp only[ho,Sem.run_bind,hrun,Result.andThen_ok,Sem.run_pure]
 ·obtain⟨b,τ0,o',r1,r2,r3⟩:=X5 q4
  simp at r3
  obtain⟨rfl,rfl⟩:=r3
  exact q3g (show(G.q3J Γ' _ _).ι (.l n)=_ from r1) r2 (by omega) (.inr (by simp)) h1 h2 (Nat.le_trans (Nat.mul_le_mul_right _ h1) hb) hcpv (fun _=>.inr ⟨_,w8 _ _ _,by rw[hsize,Nat.zero_add,Nat.zero_add];exact Nat.le_refl _⟩)
theorem z2P (hP:x4 P=true) (w:World) (a:Act) {t:TypeId} {len:Nat} {parts:Array (Nat × Operand)} {eb:Nat} {e:Ty}
  (ht:ty P t= .slice eb e) (hz:Q9 P (y7 P t)=true) (hlen:0<len) (hes:e.size≠0) (hsmall:len*e.size≤16777216)
  (hidx:parts.toList.map (·.1)=List.range len) (hsizes:∀v∈(parts.toList.map fun x=>a.eval x.2),v.cells.size=e.size):
  (Instr.buildSlice t len (parts.map fun(i,x)=>(i,a.eval x))).run P w= .ok (.slice (some ⟨w.heap.size,0,none⟩) len len) (w.alloc (.cells ((parts.toList.map fun x=>a.eval x.2).flatMap fun v=>v.cells.toList).toArray (y7 P t)))∧
  ((parts.toList.map fun x=>a.eval x.2).flatMap fun v=>v.cells.toList).length=len*e.size:=by
 obtain⟨hu,he,heb,hE⟩:=q1a hP ht
 obtain⟨i,z,hi,hzz,hzo,hzo2⟩:=q2Z hz
 have hcz:=F2 hzo
 have hsz:i.size=e.size:=by
  have:=j3 hP 11 (y7 P t)
  rw[he,this];simp[Program.cellsOf,hi]
 have hzc:z.cells.size=e.size:=by
  have h1:=j3 hP 11 (y7 P t)
  have h2:=q3Q hP (y7 P t)
  rw[he,h1,←h2,←hcz];simp
 have hpl:parts.toList.length=len:=by have:=congrArg List.length hidx;simpa using this
 have hvs:(parts.map fun(i,x)=>(i,a.eval x)).toList=((parts.toList.map fun x=>a.eval x.2).zipIdx 0).map fun x=>(x.2,x.1):=by
  apply List.ext_getElem?
  intro j
  simp only[Array.toList_map,List.getElem?_map,List.getElem?_zipIdx]
  cases hj:parts.toList[j]? with
  |none=>simp
  |some x=>
   have:(parts.toList.map (·.1))[j]? =some x.1:=by simp[hj]
   rw[hidx]at this
   have hlt:j<len:=by rw[←hpl];exact(List.getElem?_eq_some_iff.1 hj).1
   simp[List.getElem?_range hlt]at this
   simp[this]
 have hf:=Great.fill_whole (s:=e.size) (by omega) (parts.toList.map fun x=>a.eval x.2) ((Array.range (len*e.size)).map (z.cells[· %z.cells.size]!)) hsizes (by simp[hpl])
 have run:=run_buildSlice (P:=P) w t (y7 P t) len (parts.map fun(i,x)=>(i,a.eval x)) _ i z hu hi hzz (by rw[hsz];omega) (by rw[hsz];exact Nat.mul_ne_zero (by omega) hes) (by rw[hsz,hvs];exact hf)
 refine⟨run,?_⟩
 simp only[List.length_flatMap]
 have:(List.map (fun v=>v.cells.toList.length) (parts.toList.map fun x=>a.eval x.2))=List.replicate len e.size:=by
  apply List.eq_replicate_iff.2
  refine⟨by simp[hpl],fun b hb=>?_⟩
  obtain⟨v,hv,rfl⟩:=List.mem_map.1 hb
  simpa using hsizes v hv
 rw[this];simp
theorem q7t (hP:x4 P=true) (c:z8 Γ w s) {o:Oper} {a:Act} {t:TypeId} {len:Nat} {parts:Array (Nat × Operand)} {cs:List C} {eb:Nat} {e:Ty}
  (ho:o.op= .buildSlice t len parts) (ht:ty P t= .slice eb e) (hz:Q9 P (y7 P t)=true) (hlen:0<len) (hes:e.size≠0) (hsmall:len*e.size≤16777216) (hb:len*eb≤140737488355328)
  (hidx:parts.toList.map (·.1)=List.range len) (hcs:cs.length=len)
  (hx:∀(i:Nat) (x:Nat × Operand) (cc:C),parts.toList[i]? =some x→cs[i]? =some cc→q9 Γ (.d e cc) (a.eval x.2)):
  w4 P o a w (fun v w'=>(∃ad,v= .slice ad len len)∧u2 Γ w s (.d (.slice eb e) (.slice cs)) v w'):=by
 have hpl:parts.toList.length=len:=by have:=congrArg List.length hidx;simpa using this
 have hrep:∀(j:Nat) (v:Value),(parts.toList.map fun x=>a.eval x.2)[j]? =some v→∃cc,cs[j]? =some cc∧q9 Γ (.d e cc) v:=by
  intro j v hj
  simp only[List.getElem?_map]at hj
  cases hx':parts.toList[j]? with
  |none=>simp[hx']at hj
  |some x=>
   simp[hx']at hj
   have hlt:j<len:=by rw[←hpl];exact(List.getElem?_eq_some_iff.1 hx').1
   have hcj:cs[j]? =some cs[j]:=List.getElem?_eq_getElem (by omega)
   exact⟨_,hcj,hj ▸ hx j x _ hx' hcj⟩
 have hsizes:∀v∈(parts.toList.map fun x=>a.eval x.2),v.cells.size=e.size:=by
  intro v hv
  obtain⟨j,hj⟩:=List.mem_iff_getElem?.1 hv
  obtain⟨cc,_,hr⟩:=hrep j v hj
  have:=(Q2.1 hr).1.length
  simpa using this
 obtain⟨run,hflen⟩:=z2P hP w a ht hz hlen hes hsmall hidx hsizes
 obtain⟨c1,p1,g1⟩:=c.q0A (Ext.alloc w _) (l:=(parts.toList.map fun x=>a.eval x.2).flatMap fun v=>v.cells.toList) (r:=[]) (heap_alloc_new w (.cells ((parts.toList.map fun x=>a.eval x.2).flatMap fun v=>v.cells.toList).toArray (y7 P t))) (by simp)
 refine w4.val (v:=.slice (some ⟨w.heap.size,0,none⟩) len len) (w':=w.alloc (.cells ((parts.toList.map fun x=>a.eval x.2).flatMap fun v=>v.cells.toList).toArray (y7 P t))) ?_ ⟨⟨_,rfl⟩,_,g1,p1,c1,q0B (v7 hcs (Nat.le_refl _) (by have:=Nat.le_mul_of_pos_right len (Nat.pos_of_ne_zero hes);unfold maxLen;omega) hb (.inr ⟨w.heap.size,0,_,rfl,w8 _ _ _,by rw[hflen];omega,fun j c' hj=>?_⟩))⟩
 ·unfold execOp
  simp only[ho,Sem.run_bind,run,Result.andThen_ok,Sem.run_pure]
 ·have hlt:j<len:=by rw[←hcs];exact(List.getElem?_eq_some_iff.1 hj).1
  have hv:(parts.toList.map fun x=>a.eval x.2)[j]? =some ((parts.toList.map fun x=>a.eval x.2)[j]'(by simp[hpl];omega)):=List.getElem?_eq_getElem _
  obtain⟨cc,hcc,hr⟩:=hrep j _ hv
  rw[hj]at hcc;cases hcc
  have:=q74 _ j _ hsizes hv
  rw[Nat.zero_add,this]
  exact(Q2.1 hr).1.mono p1.H
theorem z5J {Γ:G} {τ:Ty} {cells:List Value}:∀(xs:List V) (p:List Nat) (i:Nat),(∀(j:Nat) y,xs[j]? =some y→∃o f,τ.child (i+j)=some (o,f)∧y.ty=f∧o+f.size≤cells.length∧q8 Γ none [] y (chunk cells o f.size))→y4 Γ none p i τ xs cells
 | [],_,_,_=>by simp only[y4]
 |x::xs,p,i,h=>by
  simp only[y4]
  obtain⟨o,f,h1,h2,h3,h4⟩:=h 0 x rfl
  exact⟨⟨o,f,h1,h2,h3,h4.b9⟩,z5J xs p (i+1) fun j y hy=>by rw[show i+1+j=i+(j+1) by omega];exact h (j+1) y hy⟩
theorem z3E (hP:x4 P=true) (c:z8 Γ w s) {o:Oper} {a:Act} {t:TypeId} {len:Nat} {parts:Array (Nat × Operand)} {vs:List V} {eb:Nat} {e:Ty} {n:Nat} (hn:s.obj (.l n)=none)
  (ho:o.op= .buildSlice t len parts) (ht:ty P t= .slice eb e) (hz:Q9 P (y7 P t)=true) (hlen:0<len) (hes:e.size≠0) (hsmall:len*e.size≤16777216) (hb:len*eb≤140737488355328)
  (hidx:parts.toList.map (·.1)=List.range len) (hcs:vs.length=len)
  (hx:∀(i:Nat) (x:Nat × Operand) (y:V),parts.toList[i]? =some x→vs[i]? =some y→q9 Γ y (a.eval x.2)) (hy:∀y∈vs,y.ty=e∧y.plain=true) (hns:V.Q0 vs=true):
  w4 P o a w (u2 Γ w {s with loc:=(.l n,.box (.agg (.arr len e) vs))::s.loc} (.sr (.l n) [] 0 len (some len) eb e)):=by
 have hpl:parts.toList.length=len:=by have:=congrArg List.length hidx;simpa using this
 have hrep:∀(j:Nat) (v:Value),(parts.toList.map fun x=>a.eval x.2)[j]? =some v→∃y,vs[j]? =some y∧y.ty=e∧y.plain=true∧q8 Γ none [] y v.cells.toList:=by
  intro j v hj
  simp only[List.getElem?_map]at hj
  cases hx':parts.toList[j]? with
  |none=>simp[hx']at hj
  |some x=>
   simp[hx']at hj
   have hlt:j<len:=by rw[←hpl];exact(List.getElem?_eq_some_iff.1 hx').1
   have hcj:vs[j]? =some vs[j]:=List.getElem?_eq_getElem (by omega)
   obtain⟨h1,h2⟩:=hy _ (List.mem_of_getElem? hcj)
   exact⟨_,hcj,h1,h2,hj ▸ ((y8 h2).1 (hx j x _ hx' hcj)).1⟩
 have hsizes:∀v∈(parts.toList.map fun x=>a.eval x.2),v.cells.size=e.size:=by
  intro v hv
  obtain⟨j,hj⟩:=List.mem_iff_getElem?.1 hv
  obtain⟨y,_,h1,h2,hr⟩:=hrep j v hj
  have:=hr.length h2
  rw[h1]at this
  simpa using this
 obtain⟨run,hflen⟩:=z2P hP w a ht hz hlen hes hsmall hidx hsizes
 have hone:J0 ((parts.toList.map fun x=>a.eval x.2).flatMap fun v=>v.cells.toList):=by
  intro u hu
  obtain⟨v,hv,hu⟩:=List.mem_flatMap.1 hu
  obtain⟨j,hj⟩:=List.mem_iff_getElem?.1 hv
  obtain⟨y,_,_,h2,hr⟩:=hrep j v hj
  exact hr.one h2 u hu
 have hX:q8 Γ none [] (.agg (.arr len e) vs) ((parts.toList.map fun x=>a.eval x.2).flatMap fun v=>v.cells.toList):=by
  simp only[q8]
  refine⟨hflen,hone,hcs,rfl,z5J _ _ _ fun j y hj=>?_⟩
  have hlt:j<len:=by rw[←hcs];exact(List.getElem?_eq_some_iff.1 hj).1
  have hv:(parts.toList.map fun x=>a.eval x.2)[j]? =some ((parts.toList.map fun x=>a.eval x.2)[j]'(by simp[hpl];omega)):=List.getElem?_eq_getElem _
  obtain⟨y',hy',h1,h2,hr⟩:=hrep j _ hv
  rw[hj]at hy';cases hy'
  have:=q74 _ j _ hsizes hv
  have hm:(j+1)*e.size≤len*e.size:=Nat.mul_le_mul_right _ hlt
  rw[Nat.add_mul]at hm
  refine⟨j*e.size,e,by simp only[Ty.child,Nat.zero_add];rw[if_pos hlt],h1,by rw[hflen];omega,?_⟩
  rw[this]
  exact hr
 obtain⟨Γ',q1,q2,q3,q4⟩:=q7c c hn (T:=y7 P t) (Ext.alloc w _) (heap_alloc_new w (.cells ((parts.toList.map fun x=>a.eval x.2).flatMap fun v=>v.cells.toList).toArray (y7 P t)))
  (x:=.agg (.arr len e) vs) (by rw[List.size_toArray,hflen];exact Nat.le_refl _) (by rw[show(V.agg (.arr len e) vs).ty.size=((parts.toList.map fun x=>a.eval x.2).flatMap fun v=>v.cells.toList).length from hflen.symm,List.toList_toArray,q2f];exact hX) rfl hns
 refine w4.val (v:=.slice (some ⟨w.heap.size,0,none⟩) len len) (w':=w.alloc (.cells ((parts.toList.map fun x=>a.eval x.2).flatMap fun v=>v.cells.toList).toArray (y7 P t))) ?_ ⟨Γ',q1,q2,q3,?_⟩
 ·unfold execOp
  simp only[ho,Sem.run_bind,run,Result.andThen_ok,Sem.run_pure]
 ·obtain⟨b,τ0,o',r1,r2,r3⟩:=X5 q4
  simp at r3
  obtain⟨rfl,rfl⟩:=r3
  exact q3g (show Γ'.ι (.l n)=_ from r1) r2 (by omega) (.inr (by simp)) (Nat.le_refl _) (by have:=Nat.le_mul_of_pos_right len (Nat.pos_of_ne_zero hes);unfold maxLen;omega) hb (fun c h=>by cases h;rfl) (fun h=>by cases h)
theorem z4W (hP:x4 P=true) (c:z8 Γ w s) {o:Oper} {a:Act} {t:TypeId} {len:Nat} {parts:Array (Nat × Operand)} {cs:List C} {eb:Nat} {e:Ty}
  (ho:o.op= .buildSlice t len parts) (ht:ty P t= .slice eb e) (hz:Q9 P (y7 P t)=true) (hlen:0<len) (hes:e.size≠0) (hsmall:len*e.size≤16777216) (hb:len*eb≤140737488355328)
  (hidx:parts.toList.map (·.1)=List.range len) (hcs:cs.length=len)
  (hx:∀(i:Nat) (x:Nat × Operand) (cc:C),parts.toList[i]? =some x→cs[i]? =some cc→q9 Γ (.d e cc) (a.eval x.2)):
  w4 P o a w (u2 Γ w s (.d (.slice eb e) (.slice cs))):=
 (q7t hP c ho ht hz hlen hes hsmall hb hidx hcs hx).mono fun _ _ h=>h.2
theorem z3D (hP:x4 P=true) (c:z8 Γ w s) {o:Oper} {a:Act} {t:TypeId} {len:Nat} {parts:Array (Nat × Operand)} {cs:List C} {eb:Nat} {e:Ty} {n:Nat} (hn:s.known n=false)
  (ho:o.op= .buildSlice t len parts) (ht:ty P t= .slice eb e) (hz:Q9 P (y7 P t)=true) (hlen:0<len) (hes:e.size≠0) (hsmall:len*e.size≤16777216) (hb:len*eb≤140737488355328)
  (hidx:parts.toList.map (·.1)=List.range len) (hcs:cs.length=len)
  (hx:∀(i:Nat) (x:Nat × Operand) (cc:C),parts.toList[i]? =some x→cs[i]? =some cc→q9 Γ (.d e cc) (a.eval x.2)):
  w4 P o a w (u2 Γ w {s with tk:=(n,some cs.length)::s.tk} (.sl eb e cs n)):=by
 refine(q7t hP c ho ht hz hlen hes hsmall hb hidx hcs hx).mono ?_
 rintro v w' ⟨⟨ad,rfl⟩,Γ',g1,p1,c1,hr⟩
 obtain⟨c2,p2,g2⟩:=c1.Z9 hn (x:=none) (L:=cs.length) (fun _ _ _ h=>by cases h)
 refine⟨_,g1.trans g2,p1.trans p2,c2,(x9 rfl rfl).2 ⟨?_,rfl⟩⟩
 obtain⟨h1,_⟩:=(x9 rfl rfl).1 (hr.o6 p2)
 simp only[q8]at h1 ⊢
 exact⟨ad,len,len,rfl,h1,none,cs.length,by simp[G.Z9,r9],Nat.le_refl _,fun _=>rfl⟩
theorem z3F (hP:x4 P=true) (c:z8 Γ w s) {o:Oper} {a:Act} {t:TypeId} {eb:Nat} {e:Ty} (ho:o.op= .buildSlice t 0 #[]) (ht:ty P t= .slice eb e):
  w4 P o a w (u2 Γ w s (.emp eb e)):=by
 obtain⟨hu,he,heb,hE⟩:=q1a hP ht
 have hz:=J9 (f:=11) hP (w:=w) hE
 refine w4.val (v:=.slice (some ⟨w.heap.size,0,none⟩) 0 0) (w':=w.alloc (.cells #[] (y7 P t))) ?_ (.ext c (Ext.alloc _ _) q1A)
 have h0:(Array.map (fun _=>(default:Value)) (Array.range 0))=#[]:=by apply Array.eq_empty_of_size_eq_zero;simp
 unfold execOp
 simp[ho,Instr.buildSlice,run_underlying hu,hz,Instr.fill,newRow,h0]
theorem z1n {place:Nat→Option (Nat × Nat)} {τ:Ty} (hd:τ.W6=true) (hpl:∀i o f,τ.child i=some (o,f)→place i=some (o,f.size)) {ρ:Operand→V} {ev:Operand→Value}:
  ∀(L:List (Nat × Operand)) (x:V) (cells:Array Value),q8 Γ none [] x cells.toList→x.ty=τ→x.plain=true→(∀p∈L,q9 Γ (ρ p.2) (ev p.2))→q4a τ x (L.map fun p=>(p.1,ρ p.2))→
  ∃cells',Instr.fill place cells (L.map fun p=>(p.1,ev p.2))=some cells'∧q8 Γ none [] (q3E τ x (L.map fun p=>(p.1,ρ p.2))) cells'.toList∧(q3E τ x (L.map fun p=>(p.1,ρ p.2))).ty=τ∧(q3E τ x (L.map fun p=>(p.1,ρ p.2))).plain=true
 | [],x,cells,hx,ht,hp,_,_=>⟨cells,rfl,hx,ht,hp⟩
 |(i,y)::L,x,cells,hx,ht,hp,hr,hok=>by
  simp only[List.map_cons,q4a]at hok
  obtain⟨h1,h2,h3,h4,h6⟩:=hok
  obtain⟨⟨o,f⟩,hc⟩:=Option.isSome_iff_exists.1 h1
  have hf:=q4T hc
  rw[hf]at h2 h3 h6
  have hy:=z1r (τ:=f) (hr (i,y) (by simp))
  obtain⟨q1,q2⟩:=(y8 h3).1 hy
  have hwalk:x.ty.walk [i]=some (o,(Q6 f (ρ y)).ty):=by rw[ht,h2];simp[Ty.walk,hc]
  obtain⟨g1,g2,_⟩:=hx.at_ hwalk h4 hp
  have hlen:=q1.length h3
  rw[h2]at hlen g2
  have q3:q8 Γ none ([]++[i]) (Q6 f (ρ y)) (ev y).cells.toList:=q1.b9
  obtain⟨r1,r2,r3⟩:=q8.setAt hx hp (by rw[ht];exact hd) hwalk h4 q3 h3
  obtain⟨cells',e1,e2⟩:=y2p (rest:=L.map fun p=>(p.1,ev p.2)) (hpl i o f hc) (by simpa using hlen) (by simpa using g2)
  simp only[List.map_cons,e2,q3E,hf]
  exact z1n hd hpl L _ cells' (by rw[e1];exact r1) (by rw[r2,ht]) r3 (fun p hp'=>hr p (by simp[hp'])) h6
theorem z7J {gs:List Field}:∀{places:List (Nat × Nat)} {j:Nat} {g:Field},gs.mapM (fun f=>(P.info? f.type).map fun i=>(f.offset,i.size))=some places→gs[j]? =some g→places[j]? =some (g.offset,P.cellsOf g.type):=by
 induction gs with
 |nil=>intro places j g _ hj;simp at hj
 |cons g0 gs ih=>
  intro places j g h hj
  simp only[List.mapM_cons,Option.bind_eq_bind,Option.pure_def]at h
  cases hi:P.info? g0.type with
  |none=>simp[hi]at h
  |some it=>
   cases hr:gs.mapM (fun f=>(P.info? f.type).map fun i=>(f.offset,i.size))with
   |none=>simp[hi,hr]at h
   |some rest=>
    simp[hi,hr]at h
    subst h
    cases j with
    |zero=>simp at hj;subst hj;simp[Program.cellsOf,hi]
    |succ j=>simpa using ih hr (by simpa using hj)
theorem mapM_some {gs:List Field} (h:∀g∈gs,g.type<P.types.size):∃places,gs.mapM (fun f=>(P.info? f.type).map fun i=>(f.offset,i.size))=some places:=by
 induction gs with
 |nil=>exact⟨[],rfl⟩
 |cons g gs ih=>
  obtain⟨rest,hr⟩:=ih fun g' hg'=>h g' (by simp[hg'])
  have hlt:=h g (by simp)
  cases hi:P.info? g.type with
  |none=>simp[Tables.info?,hlt]at hi
  |some it=>exact⟨(g.offset,it.size)::rest,by simp[List.mapM_cons,hi,hr]⟩
theorem y2E (hP:x4 P=true) {T:TypeId} {parts:Array (Nat × Operand)} {ρ:Operand→V} {ev:Operand→Value} (hz:Q9 P T=true) (hd:(ty P T).W6=true) (hs:(ty P T).isAgg=true)
  (hr:∀p∈parts.toList,q9 Γ (ρ p.2) (ev p.2)) (hok:q4a (ty P T) (o9 (ty P T)) (parts.toList.map fun p=>(p.1,ρ p.2))):
  ∃v,(Instr.build T (parts.map fun p=>(p.1,ev p.2))).run P w= .ok v w∧q9 Γ (q3E (ty P T) (o9 (ty P T)) (parts.toList.map fun p=>(p.1,ρ p.2))) v:=by
 obtain⟨it,z,hi,hzz,hzo,_⟩:=q2Z hz
 have hX:q8 Γ none [] (o9 (ty P T)) z.cells.toList:=q6a (ty P T) hzo
 have hXp:=q4f (ty P T)
 cases hτ:ty P T with
 |struct sz os fs=>
  obtain⟨gs,hu,rfl,rfl,hsz,hgs⟩:=q8O hP hτ
  obtain⟨places,hpm⟩:=mapM_some (P:=P) (gs:=gs.toList) fun g hg=>(hgs g hg).1
  have hpl:∀i o f,(ty P T).child i=some (o,f)→(places.toArray[i]?)=some (o,f.size):=by
   intro i o f hc
   rw[hτ]at hc
   simp only[Ty.child,List.getElem?_map]at hc
   cases hg:gs.toList[i]? with
   |none=>rw[hg]at hc;simp at hc
   |some g=>
    rw[hg]at hc
    simp at hc
    obtain⟨rfl,rfl⟩:=hc
    rw[j3 hP 11 g.type]
    simpa using z7J hpm hg
  obtain⟨cells',e1,e2,e3,e4⟩:=z1n (Γ:=Γ) hd hpl parts.toList (o9 (ty P T)) z.cells hX (q2S _) hXp hr hok
  refine⟨.agg cells',run_build w T _ cells' ?_,?_⟩
  ·simp only[Program.built,hi,hu,hzz,hpm,Array.toList_map]
   exact e1
  ·rw[←hτ]
   refine(y8 e4).2 ⟨by simpa[Value.cells]using e2,?_⟩
   rw[e3,hτ];simp[x8,Ty.isAgg]
 |arr n e=>
  obtain⟨E,hu,he⟩:=q6U hτ
  have hT:T<P.types.size:=by
   rcases Nat.lt_or_ge T P.types.size with hh|hh
   ·exact hh
   ·unfold ty tyF at hτ;rw[if_neg (Nat.not_lt.2 hh)]at hτ;cases hτ
  have hok':=q15 hP hT
  unfold okT at hok'
  simp only[hu]at hok'
  simp at hok'
  obtain⟨ie,hie⟩:∃i,P.info? E=some i:=by
   cases hi:P.info? E with
   |none=>simp[Tables.info?,hok'.2]at hi
   |some i=>exact⟨i,rfl⟩
  have hes:ie.size=e.size:=by
   have:=j3 hP 11 E
   rw[he,this];simp[Program.cellsOf,hie]
  have hpl:∀i o f,(ty P T).child i=some (o,f)→(fun i=>some (i*ie.size,ie.size):Nat→Option (Nat × Nat)) i=some (o,f.size):=by
   intro i o f hc
   rw[hτ]at hc
   simp only[Ty.child]at hc
   split at hc
   ·simp at hc;obtain⟨rfl,rfl⟩:=hc;simp[hes]
   ·cases hc
  obtain⟨cells',e1,e2,e3,e4⟩:=z1n (Γ:=Γ) hd hpl parts.toList (o9 (ty P T)) z.cells hX (q2S _) hXp hr hok
  refine⟨.agg cells',run_build w T _ cells' ?_,?_⟩
  ·simp only[Program.built,hi,hu,hzz,hie,Array.toList_map]
   exact e1
  ·rw[←hτ]
   refine(y8 e4).2 ⟨by simpa[Value.cells]using e2,?_⟩
   rw[e3,hτ];simp[x8,Ty.isAgg]
 |int|bool|str|slice|ptr|map|func|iface|opq=>rw[hτ]at hs;simp[Ty.isAgg]at hs
end
end Go.E
