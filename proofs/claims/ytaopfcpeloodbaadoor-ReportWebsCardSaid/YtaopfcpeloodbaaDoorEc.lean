/-
 A framework for runs of Go code over abstract data: what it needs, and that it is sound, part 3.
 Conditions: none.
-/
import Derived.Test.YtaopfcpeloodbaaDoorEb
import Derived.MapKept
import Derived.WideKeyRuns
import Derived.Laws.IdiomStrings
set_option linter.all false
namespace Go.E
open Go
mutual
def V.sites (lv:Nat→Option Nat):List Nat→V→List (Nat × List Nat)
 |p,.sl _ _ cs t=>if lv t=some cs.length then[(t,p)]else[]
 |p,.agg _ vs=>V.q8U lv p 0 vs
 |_,_=>[]
def V.q8U (lv:Nat→Option Nat):List Nat→Nat→List V→List (Nat × List Nat)
 |_,_,[]=>[]
 |p,i,x::xs=>V.sites lv (p++[i]) x++V.q8U lv p (i+1) xs
end
mutual
def V.o7 (σ:List (Nat × List Nat)) (lv:Nat→Option Nat):List Nat→V→V
 |p,.sl eb e cs t=>if look σ t=some p∧lv t=some cs.length then .ts eb e cs else .d (.slice eb e) (.slice cs)
 |p,.agg τ vs=>.agg τ (V.q1x σ lv p 0 vs)
 |_,x=>x
def V.q1x (σ:List (Nat × List Nat)) (lv:Nat→Option Nat):List Nat→Nat→List V→List V
 |_,_,[]=>[]
 |p,i,x::xs=>V.o7 σ lv (p++[i]) x::V.q1x σ lv p (i+1) xs
end
theorem V.q8y (σ:List (Nat × List Nat)) (lv:Nat→Option Nat):∀(p:List Nat) (i:Nat) (xs:List V),(V.q1x σ lv p i xs).length=xs.length
 |_,_,[]=>rfl
 |p,i,x::xs=>by simp[V.q1x,V.q8y σ lv p (i+1) xs]
theorem V.q5T (σ:List (Nat × List Nat)) (lv:Nat→Option Nat) (p:List Nat) (x:V):(x.o7 σ lv p).ty=x.ty:=by
 cases x <;> simp only[V.o7] <;> (try split) <;> simp[V.ty]
theorem V.z0N (σ:List (Nat × List Nat)) (lv:Nat→Option Nat) (p:List Nat) (x:V):(x.o7 σ lv p).plain=x.plain:=by
 cases x <;> simp only[V.o7] <;> (try split) <;> simp[V.plain]
mutual
def V.okH:V→Bool
 | .fn _ vs=>V.Q0 vs
 | .agg _ vs=>V.z6e vs
 | .tup _=>false
 |_=>true
def V.z6e:List V→Bool
 | []=>true
 |x::xs=>x.okH&&V.z6e xs
end
mutual
theorem V.q7Z (σ:List (Nat × List Nat)) (lv:Nat→Option Nat):∀(x:V) (p:List Nat),x.okH=true→(x.o7 σ lv p).v8=true
 | .sl eb e cs t,p,_=>by simp only[V.o7];split <;> rfl
 | .agg τ vs,p,h=>by simp only[V.o7,V.v8];exact V.z0M σ lv vs p 0 (by simpa[V.okH]using h)
 | .fn f vs,p,h=>by simpa[V.o7,V.v8,V.okH]using h
 | .tup _,p,h=>by simp[V.okH]at h
 | .d _ _,_,_| .ts _ _ _,_,_| .emp _ _,_,_| .nilc,_,_| .ptr _ _ _,_,_| .cptr _ _,_,_| .sr _ _ _ _ _ _ _,_,_| .mp _,_,_| .top _,_,_| .any,_,_=>by simp[V.o7,V.v8]
theorem V.z0M (σ:List (Nat × List Nat)) (lv:Nat→Option Nat):∀(xs:List V) (p:List Nat) (i:Nat),V.z6e xs=true→V.Q0 (V.q1x σ lv p i xs)=true
 | [],_,_,_=>rfl
 |x::xs,p,i,h=>by
  simp only[V.z6e,Bool.and_eq_true]at h
  simp only[V.q1x,V.Q0,Bool.and_eq_true]
  exact⟨V.q7Z σ lv x _ h.1,V.z0M σ lv xs _ _ h.2⟩
end
def G.home (Γ:G) (k:Key) (σ:List (Nat × List Nat)):G:=
 {Γ with κ:=fun b=>match Γ.κ b with
   |some (.tok t,sz)=>match look σ t with
    |some p=>some (.home k p,sz)
    |none=>some (.tok t,sz)
   |x=>x}
def q3B (σ:List (Nat × List Nat)):List (Nat × Option Nat):=σ.map fun x=>(x.1,none)
theorem q4q (σ:List (Nat × List Nat)) (tk:List (Nat × Option Nat)) (t:Nat):look (q3B σ++tk) t=match look σ t with|some _=>some none|none=>look tk t:=by
 induction σ with
 |nil=>rfl
 |cons x σ ih=>
  obtain⟨u,p⟩:=x
  simp only[q3B,List.map_cons,List.cons_append,look]at ih ⊢
  split
  ·rfl
  ·exact ih
section
variable {P:Program} {Γ:G} {w w':World} {s:S}
theorem s8.home (Γ:G) (k:Key) (σ:List (Nat × List Nat)):s8 Γ (Γ.home k σ):=⟨Hp.le_refl _,fun _ _ h=>h,fun t x L h=>⟨x,L,h,Nat.le_refl _,fun _=>rfl⟩,fun _ _ h=>h⟩
mutual
theorem q8.o7 (c:z8 Γ w s) (k:Key) (σ:List (Nat × List Nat)):∀(x:V) {p:List Nat} {vs:List Value},q8 Γ none p x vs→q8 (Γ.home k σ) (some k) p (x.o7 σ s.live p) vs
 | .sl eb e cs t,p,vs,h=>by
  simp only[q8]at h
  obtain⟨a,n,cap,rfl,h2,x,L,h3,h4,h5⟩:=h
  simp only[V.o7]
  split
  ·rename_i hc
   obtain⟨hσ,hl⟩:=hc
   obtain⟨x',h6,h7⟩:=c.tok t _ hl
   rw[h3]at h6;cases h6
   have h5:=h5 rfl
   simp only[q8]
   refine⟨a,n,cap,k,rfl,rfl,h2,?_⟩
   cases x with
   |none=>exact .inl h5
   |some y=>
    obtain⟨b,pos,sz⟩:=y
    simp only at h5
    obtain⟨⟨l,a1,a2⟩,a3⟩:=h7 b pos sz rfl
    exact .inr ⟨b,l,sz,h5.1,a1,by rw[a2];exact h5.2.1,by simp[G.home,a3,hσ],h5.2.2⟩
  ·simp only[q8];exact h2
 | .agg τ xs,p,vs,h=>by
  simp only[q8]at h
  simp only[V.o7,q8]
  exact⟨h.1,h.2.1,by rw[V.q8y];exact h.2.2.1,h.2.2.2.1,y4.o7 c k σ xs h.2.2.2.2⟩
 | .ts _ _ _,_,_,h=>by
  simp only[q8]at h
  obtain⟨_,_,_,_,h0,_⟩:=h
  cases h0
 | .tup _,_,_,h=>by simp only[q8]at h
 | .d τ cc,_,_,h=>by simp only[V.o7];exact(q8.o6 (s8.home Γ k σ) (hm:=none) trivial _ h).b9
 | .emp _ _,_,_,h=>by simp only[V.o7];exact(q8.o6 (s8.home Γ k σ) (hm:=none) trivial _ h).b9
 | .nilc,_,_,h=>by simp only[V.o7];exact(q8.o6 (s8.home Γ k σ) (hm:=none) trivial _ h).b9
 | .ptr _ _ _,_,_,h=>by simp only[V.o7];exact(q8.o6 (s8.home Γ k σ) (hm:=none) trivial _ h).b9
 | .cptr _ _,_,_,h=>by simp only[V.o7];exact(q8.o6 (s8.home Γ k σ) (hm:=none) trivial _ h).b9
 | .sr _ _ _ _ _ _ _,_,_,h=>by simp only[V.o7];exact(q8.o6 (s8.home Γ k σ) (hm:=none) trivial _ h).b9
 | .mp _,_,_,h=>by simp only[V.o7];exact(q8.o6 (s8.home Γ k σ) (hm:=none) trivial _ h).b9
 | .fn _ _,_,_,h=>by simp only[V.o7];exact(q8.o6 (s8.home Γ k σ) (hm:=none) trivial _ h).b9
 | .top _,_,_,h=>by simp only[V.o7];exact(q8.o6 (s8.home Γ k σ) (hm:=none) trivial _ h).b9
 | .any,_,_,_=>by simp only[V.o7,q8]
theorem y4.o7 (c:z8 Γ w s) (k:Key) (σ:List (Nat × List Nat)):∀(xs:List V) {p:List Nat} {i:Nat} {τ:Ty} {vs:List Value},y4 Γ none p i τ xs vs→y4 (Γ.home k σ) (some k) p i τ (V.q1x σ s.live p i xs) vs
 | [],_,_,_,_,_=>by simp only[V.q1x,y4]
 |x::xs,_,_,_,_,h=>by
  simp only[y4]at h
  simp only[V.q1x,y4,V.q5T]
  obtain⟨⟨o,f,h1,h2,h3,h4⟩,h5⟩:=h
  exact⟨⟨o,f,h1,h2,h3,q8.o7 c k σ x h4⟩,y4.o7 c k σ xs h5⟩
end
theorem z8.home (c:z8 Γ w s) (k:Key) (σ:List (Nat × List Nat)):z8 (Γ.home k σ) w {s with tk:=q3B σ++s.tk}∧GLe Γ (Γ.home k σ):=by
 refine⟨?_,⟨Hp.le_refl _,rfl,fun _ _=>rfl,fun _ _ h=>h,rfl,rfl,fun _ _ h=>h,fun _ h=>h⟩⟩
 have hlive:∀t L,S.live {s with tk:=q3B σ++s.tk} t=some L→look σ t=none∧s.live t=some L:=by
  intro t L h
  unfold S.live F1 at h
  simp only[q4q]at h
  cases hs:look σ t with
  |some p=>simp[hs]at h
  |none=>rw[hs]at h;exact⟨rfl,h⟩
 refine c.change (s8.home Γ k σ) rfl rfl rfl rfl c.hH (fun _ _=>rfl) (fun b o sz h=>?_) (fun j o h=>?_) (fun _ h _=>h) c.dom c.hσ c.inj (fun t L h=>?_) (fun t h=>?_) (Nat.le_refl _)
 ·simp only[G.home]at h
  cases hk:Γ.κ b with
  |none=>simp[hk]at h
  |some y=>
   obtain⟨o',sz'⟩:=y
   have:sz'=sz:=by
    cases o' with
    |home=>simp[hk]at h;exact h.2
    |tok t=>simp only[hk]at h;split at h <;> simp at h <;> exact h.2
   subst this
   obtain⟨a1,a2,arr,T,a3,a4,a5⟩:=c.hκ b o' sz' hk
   refine⟨a1,a2,arr,T,a3,a4,?_⟩
   cases o' with
   |home=>simp[hk]at h;rw[←h];exact a5
   |tok t=>simp only[hk]at h;split at h <;> simp at h <;> rw[←h] <;> trivial
 ·refine .inl ⟨h,fun hd=>⟨fun b p sz hb=>⟨by simp[G.home,hb],rfl⟩,fun b τ hb=>?_⟩⟩
  obtain⟨a1,_⟩:=c.W2 hb h hd
  exact⟨rfl,a1⟩
 ·obtain⟨h1,h2⟩:=hlive t L h
  obtain⟨x,h3,h4⟩:=c.tok t L h2
  refine⟨x,h3,fun b pos sz hx=>?_⟩
  obtain⟨a1,a2⟩:=h4 b pos sz hx
  exact⟨a1,by simp[G.home,a2,h1]⟩
 ·have:=c.tdom t h
  unfold S.known at this ⊢
  rw[q4q]
  split
  ·rfl
  ·exact this
theorem y13 (c:z8 Γ w s) {n:Nat} (hn:s.obj (.l n)=none) {x:V} {cells:Array Value} {T:TypeId} (he:Ext w w') (hw:w'.heap[w.heap.size]? =some (.cells cells T (0,0))) (hsz:x.ty.size≤cells.size)
  (hx:q8 Γ none [] x (chunk cells.toList 0 x.ty.size)) (hp:x.plain=true) (hok:x.okH=true):
  u2 Γ w {s with loc:=(.l n,.box (x.o7 (x.sites s.live []) s.live []))::s.loc,tk:=q3B (x.sites s.live [])++s.tk} (.ptr (.l n) [] x.ty) (.pointer (some ⟨w.heap.size,0,none⟩)) w':=by
 obtain⟨c0,g0⟩:=c.home (.l n) (x.sites s.live [])
 have p0:=s8.home Γ (.l n) (x.sites s.live [])
 have hx':=hx.o7 c (.l n) (x.sites s.live [])
 obtain⟨h1,h2,h3⟩:=c0.addKey (k:=.l n) hn he (τ:=x.ty) (o:=.box (x.o7 (x.sites s.live []) s.live [])) fun Γ' hpr hkh hι hH hZ=>
  ⟨_,cells,T,by rw[V.q5T];exact hι,hH,hZ,⟨(0,0),hw,.inl (Nat.le_refl _)⟩,by rw[V.q5T];exact hsz,by rw[V.q5T];exact hx'.o6 hpr hkh,by rw[V.z0N];exact hp,V.q7Z _ _ _ _ hok⟩
 exact⟨_,g0.trans h3,p0.trans h2,h1,q1z (τ0:=x.ty) (by simp[G.addKey,q0d]) rfl⟩
theorem y37 (c:z8 Γ w s) {o:Oper} {a:Act} {T:TypeId} {x:Operand} {n:Nat} {y:V} (ho:o.op= .box T x) (hn:s.obj (.l n)=none) (hr:q9 Γ y (a.eval x)) (hpl:y.plain=true) (hok:y.okH=true):
  w4 P o a w (u2 Γ w {s with loc:=(.l n,.box (y.o7 (y.sites s.live []) s.live []))::s.loc,tk:=q3B (y.sites s.live [])++s.tk} (.ptr (.l n) [] y.ty)):=by
 obtain⟨h1,_⟩:=(y8 hpl).1 hr
 have hlen:=h1.length hpl
 have hb:=y13 c hn (T:=T) (x:=y) (cells:=(a.eval x).cells) (Ext.alloc w _) (heap_alloc_new w (.cells (a.eval x).cells T)) (by rw[←hlen];simp) (by rw[←hlen,q2f];exact h1) hpl hok
 refine w4.val (v:=.pointer (some ⟨w.heap.size,0,none⟩)) (w':=w.alloc (.cells (a.eval x).cells T)) ?_ hb
 unfold execOp
 simp only[ho,Instr.box]
 simp[newVar,newRow]
theorem q9g:∀{xs:List V} {i:Nat} {y:V},V.Q0 xs=true→y.v8=true→V.Q0 (xs.set i y)=true
 | [],_,_,_,_=>rfl
 |x::xs,0,y,h,hy=>by simp[V.Q0]at h ⊢;exact⟨hy,h.2⟩
 |x::xs,i+1,y,h,hy=>by simp[V.Q0]at h ⊢;exact⟨h.1,q9g h.2 hy⟩
theorem q9h (c:C):∀(j:Nat) (fs:List Ty),V.Q0 (X1 c j fs)=true
 |_,[]=>rfl
 |j,f::fs=>by simp[X1,V.Q0,V.v8,q9h c (j+1) fs]
theorem V.y11:∀(x:V) (i:Nat) (y:V),x.v8=true→y.v8=true→(x.set i y).v8=true
 | .d τ c,i,y,_,hy=>by
  cases y <;> simp only[V.set] <;> first|rfl|(simp only[V.v8];exact q9g (q9h _ _ _) hy)
 | .agg τ vs,i,y,hx,hy=>by simp only[V.set,V.v8];exact q9g (by simpa[V.v8]using hx) hy
 | .sl _ _ _ _,_,_,h,_=>by simp[V.v8]at h
 | .ts _ _ _,_,_,_,_| .emp _ _,_,_,_,_| .nilc,_,_,_,_| .ptr _ _ _,_,_,_,_| .cptr _ _,_,_,_,_| .sr _ _ _ _ _ _ _,_,_,_,_| .mp _,_,_,_,_| .fn _ _,_,_,_,_| .tup _,_,_,_,_| .top _,_,_,_,_| .any,_,_,_,_=>by simp[V.set,V.v8]
theorem z32:∀{xs:List V} {i:Nat} {x:V},V.Q0 xs=true→xs[i]? =some x→x.v8=true
 | [],_,_,_,h=>by simp at h
 |y::ys,0,x,h,hx=>by simp[V.Q0]at h;simp at hx;subst hx;exact h.1
 |y::ys,i+1,x,h,hx=>by simp[V.Q0]at h;exact z32 h.2 (by simpa using hx)
theorem V.y12 {x:V} (h:x.v8=true) (i:Nat):(x.get i).v8=true:=by
 cases x <;> simp only[V.get] <;> (try rfl)
 case agg τ vs=>
  cases hi:vs[i]? with
  |none=>simp[List.getD,hi,V.v8]
  |some y=>simp[List.getD,hi];exact z32 (by simpa[V.v8]using h) hi
theorem V.q5h:∀(q:List Nat) (x y:V),x.v8=true→y.v8=true→(x.setAt q y).v8=true
 | [],_,_,_,hy=>hy
 |i::q,x,y,hx,hy=>by simp only[V.setAt];exact V.y11 x i _ hx (V.q5h q _ y (V.y12 hx i) hy)
theorem z8.v8 (c:z8 Γ w s) {k:Key} {x:V} {y:Nat × Ty} (hι:Γ.ι k=some y) (h:s.obj k=some (.box x)):x.v8=true:=by
 obtain⟨_,_,_,_,_,_,_,_,_,_,h⟩:=c.own hι h
 exact h
theorem y1d (hP:x4 P=true) (c:z8 Γ w s) {o:Oper} {a:Act} {T:TypeId} {p y:Operand} {k:Key} {q:List Nat} {τ:Ty} {x Y:V}
  (ho:o.op= .store T p y) (hr:q9 Γ (.ptr k q τ) (a.eval p)) (hy:q9 Γ Y (a.eval y)) (hobj:s.obj k=some (.box x))
  (ht:τ=ty P T) (hk:τ.known=true) (hY:(Q6 τ Y).ty=τ) (hYp:(Q6 τ Y).plain=true) (hne:x.at q≠.any) (hd:x.ty.W6=true) (hok:(Q6 τ Y).okH=true):
  w4 P o a w (u2 Γ w {s with loc:=(k,.box (x.setAt q ((Q6 τ Y).o7 ((Q6 τ Y).sites s.live q) s.live q)))::s.loc,tk:=q3B ((Q6 τ Y).sites s.live q)++s.tk} .any):=by
 obtain⟨c0,g0⟩:=c.home k ((Q6 τ Y).sites s.live q)
 have p0:=s8.home Γ k ((Q6 τ Y).sites s.live q)
 obtain⟨b,τ0,off,h1,h2,hpv⟩:=X5 (hr.o6 p0)
 obtain⟨b2,cells,E,e1,e2,e3,e4,e5,e6,e7,e8⟩:=c0.own h1 hobj
 obtain⟨fr0,e4,hfr0⟩:=e4
 rw[h1]at e1
 cases e1
 obtain⟨g1,g2,_⟩:=e6.at_ h2 hne e7
 have hcl:(chunk cells.toList 0 x.ty.size).length=x.ty.size:=u9 _ _ _ (by simpa using e5)
 rw[hcl]at g2
 have hy':=z1r (τ:=τ) hy
 obtain⟨q1,q2⟩:=(y8 hYp).1 hy'
 have hlen:=q1.length hYp
 rw[hY]at hlen
 have q3:=(q1.b9 (hm:=none) (p':=q)).o7 c k ((Q6 τ Y).sites s.live q)
 obtain⟨r1,r2,r3⟩:=q8.setAt (q:=q) (p:=[]) (y:=(Q6 τ Y).o7 ((Q6 τ Y).sites s.live q) s.live q) e6 e7 hd (by rw[V.q5T,hY];exact h2) hne q3 (by rw[V.z0N];exact hYp)
 have hrun:=z5F (w:=w) (T:=T) (τ:=τ) (v:=a.eval y) (off:=off) hP ht.symm hk e4 hfr0 (by omega) hlen (q1.one hYp)
 have hlc:off+(a.eval y).cells.toList.length≤cells.toList.length:=by rw[hlen];simp;omega
 have hs2:(w7 cells.toList off (a.eval y).cells.toList).toArray.size=cells.size:=by simp only[List.size_toArray,Q7 hlc];simp
 have c':=c0.write (x':=x.setAt q ((Q6 τ Y).o7 ((Q6 τ Y).sites s.live q) s.live q)) (cells':=(w7 cells.toList off (a.eval y).cells.toList).toArray) (w':=w.setRow b (w7 cells.toList off (a.eval y).cells.toList).toArray) hobj h1
  (setRow_heap w b cells _ E fr0 e4) (by rw[hs2];exact hfr0) (fun b' hb'=>setRow_other w b b' _ hb') rfl (by rw[r2,hs2];exact e5)
  (by rw[r2,List.toList_toArray,q8k _ _ (by rw[hlen];exact g2) (by simpa using e5)];exact r1) r2 r3 (V.q5h q x _ (c0.v8 h1 hobj) (V.q7Z _ _ _ _ hok)) (fun arr T fr h=>by rw[e4]at h;cases h;exact hs2)
 refine w4.skip (w':=w.setRow b (w7 cells.toList off (a.eval y).cells.toList).toArray) ?_ ⟨_,g0,p0,c',by simp[q9]⟩
 unfold execOp
 simp[ho,Instr.storeAt,hpv,Instr.sureAddr,hrun]
def V.q6o:V→Bool
 | .ts _ _ _=>false
 |_=>true
mutual
theorem q8.q66 {Γ Γ':G} (hp:s8 Γ Γ') {k:Key} {q:List Nat} (hk:∀b p sz,Γ.κ b=some (.home k p,sz)→p≠q→Γ'.κ b=Γ.κ b∧Γ'.H b=Γ.H b):
  ∀(x:V) {p:List Nat} {vs:List Value},(∀r,p++r=q→(x.at r).q6o=true)→q8 Γ (some k) p x vs→q8 Γ' (some k) p x vs
 | .ts eb e cs,p,_,hn,h=>by
  simp only[q8]at h ⊢
  obtain⟨a,n,cap,k',h0,h1,h2,h3⟩:=h
  cases h0
  refine⟨a,n,cap,k,rfl,h1,h2.mono hp.H,?_⟩
  have hpq:p≠q:=by
   intro e
   have:=hn [] (by simpa using e)
   simp[V.at,V.q6o]at this
  rcases h3 with h3|⟨b,l,sz,a1,a2,a3,a4,a5⟩
  ·exact .inl h3
  ·obtain⟨e1,e2⟩:=hk b p sz a4 (fun e=>hpq (by injection e))
   exact .inr ⟨b,l,sz,a1,by rw[e2,a2],a3,by rw[e1,a4],a5⟩
 | .agg τ xs,p,vs,hn,h=>by
  simp only[q8]at h ⊢
  refine⟨h.1,h.2.1,h.2.2.1,h.2.2.2.1,y4.q66 hp hk xs (fun i r hr=>?_) h.2.2.2.2⟩
  have:=hn (i::r) (by simpa using hr)
  simp only[V.at,V.get]at this
  simpa using this
 | .d _ _,_,_,_,h=>by simp only[q8]at h ⊢;exact h.mono hp.H
 | .sl eb e cs t,_,_,_,h=>by
  simp only[q8]at h ⊢
  obtain⟨a,n,cap,h1,h2,h3⟩:=h
  exact⟨a,n,cap,h1,h2.mono hp.H,h3.o6 hp⟩
 | .emp _ _,_,_,_,h=>by simpa only[q8]using h
 | .nilc,_,_,_,h=>by simpa only[q8]using h
 | .ptr k q τ,_,_,_,h=>by
  simp only[q8]at h ⊢
  obtain⟨b,τ0,o,h1,h2⟩:=h
  exact⟨b,τ0,o,hp.ι _ _ h1,h2⟩
 | .cptr τ c,_,_,_,h=>by
  simp only[q8]at h ⊢
  obtain⟨b,off,l,h1,h2,h3,h4⟩:=h
  obtain⟨l',a1,a2,a3⟩:=q9E hp.H h2 h3 h4
  exact⟨b,off,l',h1,a1,a2,a3⟩
 | .sr _ _ _ _ _ _ _,_,_,_,h=>by
  simp only[q8]at h ⊢
  rcases h with h|⟨b,τ0,o,m,cap,h1,h2,h3,h4,h5,h6,h7,h8,h9⟩
  ·exact .inl h
  exact .inr ⟨b,τ0,o,m,cap,hp.ι _ _ h1,h2,h3,h4,h5,h6,h7,h8,fun e=>(h9 e).imp id fun⟨sz,a1,a2⟩=>⟨sz,hp.σ _ _ a1,a2⟩⟩
 | .mp _,_,_,_,h=>by
  simp only[q8]at h ⊢
  obtain⟨b,h1,h2⟩:=h
  exact⟨b,hp.ι _ _ h1,h2⟩
 | .fn f caps,_,_,_,h=>by
  simp only[q8]at h ⊢
  obtain⟨cv,h1,h2⟩:=h
  exact⟨cv,h1,y9.o6 hp caps h2⟩
 | .tup _,_,_,_,h=>by simp only[q8]at h
 | .top _,_,_,_,h=>by simpa only[q8]using h
 | .any,_,_,_,_=>by simp only[q8]
theorem y4.q66 {Γ Γ':G} (hp:s8 Γ Γ') {k:Key} {q:List Nat} (hk:∀b p sz,Γ.κ b=some (.home k p,sz)→p≠q→Γ'.κ b=Γ.κ b∧Γ'.H b=Γ.H b):
  ∀(xs:List V) {p:List Nat} {i:Nat} {τ:Ty} {vs:List Value},(∀j r,p++[i+j]++r=q→((xs.getD j .any).at r).q6o=true)→y4 Γ (some k) p i τ xs vs→y4 Γ' (some k) p i τ xs vs
 | [],_,_,_,_,_,_=>by simp only[y4]
 |x::xs,p,i,τ,vs,hn,h=>by
  simp only[y4]at h ⊢
  obtain⟨⟨o,f,h1,h2,h3,h4⟩,h5⟩:=h
  refine⟨⟨o,f,h1,h2,h3,q8.q66 hp hk x (fun r hr=>?_) h4⟩,y4.q66 hp hk xs (fun j r hr=>?_) h5⟩
  ·have:=hn 0 r (by simpa using hr)
   simpa using this
  ·have:=hn (j+1) r (by rw[show i+(j+1)=i+1+j by omega];exact hr)
   simpa using this
end
theorem V.z2R:∀(q:List Nat) (x:V) {τ:Ty} {c:C},(∃eb e cs,x.at q= .ts eb e cs)→(x.setAt q (.d τ c)).at q= .d τ c
 | [],_,_,_,_=>rfl
 |i::q,x,τ,c,hx=>by
  obtain⟨eb,e,cs,hx⟩:=hx
  simp only[V.at]at hx
  have ih:=V.z2R q (x.get i) (τ:=τ) (c:=c) ⟨eb,e,cs,hx⟩
  cases x <;> (try (simp only[V.get,V.q9G]at hx;cases hx;done))
  case d τ' c'=>
   exfalso
   have:∀(q:List Nat) (τ:Ty) (c:C),∃τ' c',(V.d τ c).at q= .d τ' c':=by
    intro q
    induction q with
    |nil=>intro τ c;exact⟨τ,c,rfl⟩
    |cons j q ih=>intro τ c;simp only[V.at,V.get];exact ih _ _
   obtain⟨_,_,h⟩:=this q (τ'.get i) (c'.get i)
   simp only[V.get]at hx
   rw[h]at hx;cases hx
  case agg τ' vs=>
   have hlt:i<vs.length:=by
    rcases Nat.lt_or_ge i vs.length with h|h
    ·exact h
    ·simp[V.get,List.getD,List.getElem?_eq_none h,V.q9G]at hx
   simp only[V.setAt,V.set,V.at]
   have:(V.agg τ' (vs.set i ((V.agg τ' vs).get i |>.setAt q (.d τ c)))).get i=((V.agg τ' vs).get i).setAt q (.d τ c):=by
    simp[V.get,List.getD,hlt]
   rw[this];exact ih
theorem z8.take (c:z8 Γ w s) {k:Key} {q:List Nat} {x:V} {eb:Nat} {e:Ty} {cs:List C} {t b:Nat} {τ0:Ty} {o0:Nat} (ho:s.obj k=some (.box x)) (hx:x.at q= .ts eb e cs) (hd:x.ty.W6=true) (ht:s.known t=false)
  (hι:Γ.ι k=some (b,τ0)) (hw:τ0.walk q=some (o0,.slice eb e)) {a:Option Addr} {n cap:Nat} (hcell:w.cell? ⟨b,o0,none⟩=some (.slice a n cap)):
  ∃Γ',GLe Γ Γ'∧s8 Γ Γ'∧z8 Γ' w {s with loc:=(k,.box (x.setAt q (.d (.slice eb e) (.slice cs))))::s.loc,tk:=(t,some cs.length)::s.tk}∧q9 Γ' (.sl eb e cs t) (.slice a n cap):=by
 obtain⟨b2,cells,E,e1,e2,e3,e4,e5,e6,e7,e8⟩:=c.own hι ho
 obtain⟨fr0,e4,hfr0⟩:=e4
 rw[hι]at e1
 cases e1
 obtain⟨g1,g2,g3⟩:=e6.at_ hw (by rw[hx];simp) e7
 have hcl:(chunk cells.toList 0 x.ty.size).length=x.ty.size:=u9 _ _ _ (by simpa using e5)
 rw[hcl]at g2
 simp only[Ty.size]at g2 g3
 have hch:chunk (chunk cells.toList 0 x.ty.size) o0 1=chunk cells.toList o0 1:=by rw[o5 _ _ _ _ _ (by omega),Nat.zero_add]
 have hce:chunk cells.toList o0 1=[.slice a n cap]:=by
  apply List.ext_getElem?
  intro j
  rw[w5]
  by_cases hj:j<1
  ·have:j=0:=by omega
   subst this
   simp[World.cell?,e4]at hcell
   simpa using hcell
  ·simp[hj]
 rw[hch,hce,hx]at g3
 simp only[q8]at g3
 obtain⟨a',n',cap',k',hk',hv,hrc,htip⟩:=g3
 simp at hk' hv
 subst hk'
 obtain⟨rfl,rfl,rfl⟩:=hv
 have hself:w7 (chunk cells.toList 0 x.ty.size) o0 [.slice a n cap]=chunk cells.toList 0 x.ty.size:=by
  apply List.ext_getElem?
  intro j
  rw[Z3 (by simp;omega)]
  split
  ·rename_i hj
   simp at hj
   have:j=o0:=by omega
   subst this
   have h0:(chunk (chunk cells.toList 0 x.ty.size) j 1)[0]? =some (.slice a n cap):=by rw[hch,hce];rfl
   rw[w5]at h0
   simp at h0 ⊢
   exact h0.symm
  ·rfl
 have hw':x.ty.walk q=some (o0,(V.d (.slice eb e) (.slice cs)).ty):=hw
 obtain⟨r1,r2,r3⟩:=q8.setAt (p:=[]) (ws:=[.slice a n cap]) (y:=.d (.slice eb e) (.slice cs)) e6 e7 hd hw' (by rw[hx];simp) (by simpa only[q8]using hrc) rfl
 rw[hself]at r1
 have hns:(x.setAt q (.d (.slice eb e) (.slice cs))).v8=true:=V.q5h q x _ e8 rfl
 -- the object as it is then, first under the old ghost
 have c1:z8 Γ w {s with loc:=(k,.box (x.setAt q (.d (.slice eb e) (.slice cs))))::s.loc}:=
  c.write ho hι e4 hfr0 (fun _ _=>rfl) rfl (by rw[r2];exact e5) (by rw[r2];exact r1) r2 r3 hns (fun arr T fr h=>by rw[e4]at h;cases h;rfl)
 obtain⟨_,n1,cap1,f1,_,f2,f3,f4,f5,f6⟩:=W3 hrc
 simp at f1
 obtain⟨rfl,rfl,rfl⟩:=f1
 simp only[C.elems]at f2
 rcases htip with htip|⟨b1,l,sz,rfl,h1,h2,h3,h4⟩
 ·obtain⟨c2,p2,g2'⟩:=c1.Z9 (t:=t) (x:=none) (L:=cs.length) ht (fun _ _ _ h=>by cases h)
  refine⟨_,g2',p2,c2,(x9 rfl rfl).2 ⟨?_,rfl⟩⟩
  simp only[q8]
  exact⟨a,n,cap,rfl,hrc,none,cs.length,w8 _ _ _,Nat.le_refl _,fun _=>htip⟩
 ·have hτ:Γ.τ t=none:=c.y0f ht
  obtain⟨z1,z2,arr,T,z3,z4,_⟩:=c.hκ b1 _ _ h3
  have hp:s8 Γ {Γ with τ:=r9 Γ.τ t (some (b1,l.length,sz),cs.length),κ:=r9 Γ.κ b1 (.tok t,sz)}:=
   ⟨Hp.le_refl _,fun _ _ h=>h,fun u y M h=>by
    have:u≠t:=by intro e;subst e;rw[hτ]at h;cases h
    exact⟨y,M,(c4 _ _ this).trans h,Nat.le_refl _,fun _=>rfl⟩,fun _ _ h=>h⟩
  have hne:∀b' o',Γ.κ b'=some o'→b'≠b1→r9 Γ.κ b1 (.tok t,sz) b'=some o':=fun b' o' h hb=>(c4 _ _ hb).trans h
  refine⟨{Γ with τ:=r9 Γ.τ t (some (b1,l.length,sz),cs.length),κ:=r9 Γ.κ b1 (.tok t,sz)},⟨Hp.le_refl _,rfl,fun _ _=>rfl,fun _ _ h=>h,rfl,rfl,fun _ _ h=>h,fun _ h=>h⟩,hp,?_,(x9 rfl rfl).2 ⟨?_,rfl⟩⟩
  ·refine c1.change hp rfl rfl rfl rfl c.hH (fun _ _=>rfl) (fun b' o' sz' h=>?_) (fun j o' h=>?_) (fun _ h _=>h) c1.dom c.hσ c1.inj (fun u M h=>?_) (fun u h=>?_) (Nat.le_refl _)
   ·by_cases e:b'=b1
    ·subst e
     have h':sz=sz':=by have:=h;simp[r9]at this;exact this.2
     subst h'
     exact⟨z1,z2,arr,T,z3,z4,by have:=h;simp[r9]at this;rw[←this];trivial⟩
    ·exact c.hκ b' o' sz' ((c4 _ _ e).symm.trans h)
   ·have h':S.obj {s with loc:=(k,.box (x.setAt q (.d (.slice eb e) (.slice cs))))::s.loc} j=some o':=h
    by_cases hj:k=j
    ·subst hj
     rw[u3,if_pos rfl]at h'
     cases h'
     refine .inr ⟨b,cells,E,by rw[r2];exact hι,e2,e3,⟨fr0,e4,hfr0⟩,by rw[r2];exact e5,?_,r3,hns⟩
     rw[r2]
     refine q8.q66 (q:=q) hp (fun b' p sz' hb hpq=>?_) _ (fun r hr=>?_) r1
     ·have:b'≠b1:=by
       intro e;subst e;rw[h3]at hb;simp at hb;exact hpq hb.1.symm
      exact⟨(hne b' _ hb this).trans hb.symm,rfl⟩
     ·rw[List.nil_append]at hr
      subst hr
      have:(x.setAt r (.d (.slice eb e) (.slice cs))).at r= .d (.slice eb e) (.slice cs):=V.z2R r x ⟨_,_,_,hx⟩
      rw[this];rfl
    ·refine .inl ⟨h',fun hd=>⟨fun b' p sz' hb=>?_,fun b' τ hb=>?_⟩⟩
     ·have:b'≠b1:=by
       intro e;subst e;rw[h3]at hb;simp at hb;exact hj hb.1.1
      exact⟨(hne b' _ hb this).trans hb.symm,rfl⟩
     ·obtain⟨a1,_⟩:=c1.W2 hb h' hd
      exact⟨rfl,a1⟩
   ·have h9:(if t=u then some cs.length else s.live u)=some M:=(q17 {s with loc:=(k,.box (x.setAt q (.d (.slice eb e) (.slice cs))))::s.loc} t u (some cs.length)).symm.trans h
    clear h
    split at h9
    ·rename_i e
     subst e;cases h9
     refine⟨_,w8 _ _ _,fun b' pos sz' e=>?_⟩
     cases e
     exact⟨⟨l,h1,rfl⟩,w8 _ _ _⟩
    ·rename_i e
     have e':u≠t:=fun h'=>e h'.symm
     obtain⟨y,a1,a2⟩:=c.tok u M h9
     refine⟨y,(c4 _ _ e').trans a1,fun b' pos sz' hy=>?_⟩
     obtain⟨a3,a4⟩:=a2 b' pos sz' hy
     exact⟨a3,hne b' _ a4 (fun e=>by subst e;rw[h3]at a4;cases a4)⟩
   ·refine(q1n {s with loc:=(k,.box (x.setAt q (.d (.slice eb e) (.slice cs))))::s.loc} t u (some cs.length)).trans ?_
    by_cases e:t=u
    ·simp[e]
    ·have e':u≠t:=fun h'=>e h'.symm
     simp only[e,decide_false,Bool.false_or]
     refine c.tdom u ?_
     simpa[r9,e']using h
  ·simp only[q8]
   exact⟨_,n,cap,rfl,hrc,_,_,w8 _ _ _,Nat.le_refl _,fun _=>⟨rfl,h2,h4⟩⟩
end
end Go.E
namespace Go.E
open Go
mutual
def V.ren (ρ:Key→Key) (θ:Nat→Nat):V→V
 | .sl eb e cs t=>.sl eb e cs (θ t)
 | .ptr k q τ=>.ptr (ρ k) q τ
 | .sr k q lo n cp eb e=>.sr (ρ k) q lo n cp eb e
 | .mp k=>.mp (ρ k)
 | .agg τ vs=>.agg τ (V.q0y ρ θ vs)
 | .fn f vs=>.fn f (V.q0y ρ θ vs)
 | .tup vs=>.tup (V.q0y ρ θ vs)
 | .d τ c=>.d τ c
 | .ts eb e cs=>.ts eb e cs
 | .emp eb e=>.emp eb e
 | .nilc=>.nilc
 | .cptr τ c=>.cptr τ c
 | .top τ=>.top τ
 | .any=>.any
def V.q0y (ρ:Key→Key) (θ:Nat→Nat):List V→List V
 | []=>[]
 |x::xs=>V.ren ρ θ x::V.q0y ρ θ xs
end
def O.ren (ρ:Key→Key):O→O
 | .box x=>.box (x.ren ρ id)
 | .map kτ vτ es=>.map kτ vτ (es.map fun c=>(c.1,c.2.ren ρ id))
 | .it l pos=>.it l pos
 | .dead τ=>.dead τ
theorem O.q5g (ρ:Key→Key) (o:O):(o.ren ρ).X3=o.X3:=by cases o <;> rfl
theorem V.q1Y (ρ:Key→Key) (θ:Nat→Nat) (x:V):(x.ren ρ θ).ty=x.ty:=by cases x <;> simp[V.ren,V.ty]
theorem V.q8Z (ρ:Key→Key) (θ:Nat→Nat) (x:V):(x.ren ρ θ).plain=x.plain:=by cases x <;> simp[V.ren,V.plain]
theorem V.z0w (ρ:Key→Key) (θ:Nat→Nat):∀xs:List V,(V.q0y ρ θ xs).length=xs.length
 | []=>rfl
 |x::xs=>by simp[V.q0y,V.z0w ρ θ xs]
mutual
theorem V.q7H (ρ:Key→Key) (θ:Nat→Nat):∀x:V,(x.ren ρ θ).v8=x.v8
 | .agg τ vs=>by simp only[V.ren,V.v8];exact V.q6l ρ θ vs
 | .fn f vs=>by simp only[V.ren,V.v8];exact V.q6l ρ θ vs
 | .tup vs=>by simp only[V.ren,V.v8];exact V.q6l ρ θ vs
 | .sl _ _ _ _| .ptr _ _ _| .sr _ _ _ _ _ _ _| .mp _| .d _ _| .ts _ _ _| .emp _ _| .nilc| .cptr _ _| .top _| .any=>by simp[V.ren,V.v8]
theorem V.q6l (ρ:Key→Key) (θ:Nat→Nat):∀xs:List V,V.Q0 (V.q0y ρ θ xs)=V.Q0 xs
 | []=>rfl
 |x::xs=>by simp only[V.q0y,V.Q0,V.q7H ρ θ x,V.q6l ρ θ xs]
end
mutual
theorem V.q61 (ρ ρ':Key→Key) (h:∀k,ρ' (ρ k)=k):∀x:V,(x.ren ρ id).ren ρ' id=x
 | .agg τ vs=>by simp only[V.ren,V.q6k ρ ρ' h vs]
 | .fn f vs=>by simp only[V.ren,V.q6k ρ ρ' h vs]
 | .tup vs=>by simp only[V.ren,V.q6k ρ ρ' h vs]
 | .ptr _ _ _| .sr _ _ _ _ _ _ _| .mp _=>by simp[V.ren,h]
 | .sl _ _ _ _| .d _ _| .ts _ _ _| .emp _ _| .nilc| .cptr _ _| .top _| .any=>by simp[V.ren]
theorem V.q6k (ρ ρ':Key→Key) (h:∀k,ρ' (ρ k)=k):∀xs:List V,V.q0y ρ' id (V.q0y ρ id xs)=xs
 | []=>rfl
 |x::xs=>by simp only[V.q0y,V.q61 ρ ρ' h x,V.q6k ρ ρ' h xs]
end
theorem O.q61 (ρ ρ':Key→Key) (h:∀k,ρ' (ρ k)=k) (o:O):(o.ren ρ).ren ρ'=o:=by
 cases o with
 |box x=>simp[O.ren,V.q61 ρ ρ' h]
 |map kτ vτ es=>
  simp only[O.ren,List.map_map]
  congr 1
  refine(List.map_congr_left (g:=id) fun c _=>?_).trans (List.map_id _)
  simp[V.q61 ρ ρ' h]
 |it=>rfl
 |dead=>rfl
structure q3L (Γ Γ':G) (ρ:Key→Key) (hm:Option Key):Prop where
 H:Γ.H.le Γ'.H
 ι:∀k x,Γ.ι k=some x→Γ'.ι (ρ k)=some x
 σ:∀b sz,Γ.σ b=some sz→Γ'.σ b=some sz
 κ:∀k b p sz,hm=some k→Γ.κ b=some (.home k p,sz)→Γ'.κ b=some (.home (ρ k) p,sz)∧Γ'.H b=Γ.H b
section
variable {Γ Γ':G} {ρ:Key→Key} {θ:Nat→Nat}
mutual
theorem q8.ren {hm:Option Key} (hp:q3L Γ Γ' ρ hm) (hτ:∀t x,Γ.τ t=some x→Γ'.τ (θ t)=some x):∀(x:V) {p:List Nat} {vs:List Value},q8 Γ hm p x vs→q8 Γ' (hm.map ρ) p (x.ren ρ θ) vs
 | .d τ c,_,_,h=>by simp only[q8,V.ren]at h ⊢;exact h.mono hp.H
 | .sl eb e cs t,_,_,h=>by
  simp only[q8,V.ren]at h ⊢
  obtain⟨a,n,cap,h1,h2,x,L,h3,h4⟩:=h
  exact⟨a,n,cap,h1,h2.mono hp.H,x,L,hτ t _ h3,h4⟩
 | .ts eb e cs,_,_,h=>by
  simp only[q8,V.ren]at h ⊢
  obtain⟨a,n,cap,k,h0,h1,h2,h3⟩:=h
  refine⟨a,n,cap,ρ k,by rw[h0];rfl,h1,h2.mono hp.H,?_⟩
  rcases h3 with h3|⟨b,l,sz,a1,a2,a3,a4,a5⟩
  ·exact .inl h3
  ·obtain⟨e1,e2⟩:=hp.κ k b _ sz h0 a4
   exact .inr ⟨b,l,sz,a1,by rw[e2,a2],a3,e1,a5⟩
 | .emp _ _,_,_,h=>by simpa only[q8,V.ren]using h
 | .nilc,_,_,h=>by simpa only[q8,V.ren]using h
 | .ptr k q τ,_,_,h=>by
  simp only[q8,V.ren]at h ⊢
  obtain⟨b,τ0,o,h1,h2⟩:=h
  exact⟨b,τ0,o,hp.ι _ _ h1,h2⟩
 | .cptr τ c,_,_,h=>by
  simp only[q8,V.ren]at h ⊢
  obtain⟨b,off,l,h1,h2,h3,h4⟩:=h
  obtain⟨l',a1,a2,a3⟩:=q9E hp.H h2 h3 h4
  exact⟨b,off,l',h1,a1,a2,a3⟩
 | .sr k q lo n cp eb e,_,_,h=>by
  simp only[q8,V.ren]at h ⊢
  rcases h with h|⟨b,τ0,o,m,cap,h1,h2,h3,h4,h5,h6,h7,h8,h9⟩
  ·exact .inl h
  exact .inr ⟨b,τ0,o,m,cap,hp.ι _ _ h1,h2,h3,h4,h5,h6,h7,h8,fun e=>(h9 e).imp id fun⟨sz,a1,a2⟩=>⟨sz,hp.σ _ _ a1,a2⟩⟩
 | .mp k,_,_,h=>by
  simp only[q8,V.ren]at h ⊢
  obtain⟨b,h1,h2⟩:=h
  exact⟨b,hp.ι _ _ h1,h2⟩
 | .agg τ xs,_,_,h=>by
  simp only[q8,V.ren]at h ⊢
  exact⟨h.1,h.2.1,by rw[V.z0w];exact h.2.2.1,h.2.2.2.1,y4.ren hp hτ xs h.2.2.2.2⟩
 | .fn f caps,_,_,h=>by
  simp only[q8,V.ren]at h ⊢
  obtain⟨cv,h1,h2⟩:=h
  exact⟨cv,h1,y9.ren ⟨hp.H,hp.ι,hp.σ,fun _ _ _ _ h=>by cases h⟩ hτ caps h2⟩
 | .tup _,_,_,h=>by simp only[q8]at h
 | .top _,_,_,h=>by simpa only[q8,V.ren]using h
 | .any,_,_,_=>by simp only[q8,V.ren]
theorem y4.ren {hm:Option Key} (hp:q3L Γ Γ' ρ hm) (hτ:∀t x,Γ.τ t=some x→Γ'.τ (θ t)=some x):∀(xs:List V) {p:List Nat} {i:Nat} {τ:Ty} {vs:List Value},y4 Γ hm p i τ xs vs→y4 Γ' (hm.map ρ) p i τ (V.q0y ρ θ xs) vs
 | [],_,_,_,_,_=>by simp only[V.q0y,y4]
 |x::xs,_,_,_,_,h=>by
  simp only[y4,V.q0y,V.q1Y]at h ⊢
  obtain⟨⟨o,f,h1,h2,h3,h4⟩,h5⟩:=h
  exact⟨⟨o,f,h1,h2,h3,q8.ren hp hτ x h4⟩,y4.ren hp hτ xs h5⟩
theorem y9.ren (hp:q3L Γ Γ' ρ none) (hτ:∀t x,Γ.τ t=some x→Γ'.τ (θ t)=some x):∀(xs:List V) {vs:List Value},y9 Γ xs vs→y9 Γ' (V.q0y ρ θ xs) vs
 | [],_,h=>by simpa only[y9,V.q0y]using h
 |x::xs,_,h=>by
  simp only[y9,V.q0y,V.q1Y]at h ⊢
  obtain⟨v,vs',h1,h2,h3,h4⟩:=h
  exact⟨v,vs',h1,by simpa using q8.ren hp hτ x h2,h3,y9.ren hp hτ xs h4⟩
end
mutual
theorem q8.q4p {hm:Option Key}:∀(x:V) {p:List Nat} {vs:List Value},x.v8=true→q8 Γ hm p x vs→q8 {Γ with τ:=fun _=>none} hm p x vs
 | .sl _ _ _ _,_,_,h,_=>by simp[V.v8]at h
 | .agg τ xs,_,_,hn,h=>by
  simp only[q8]at h ⊢
  exact⟨h.1,h.2.1,h.2.2.1,h.2.2.2.1,y4.q4p xs (by simpa[V.v8]using hn) h.2.2.2.2⟩
 | .fn f caps,_,_,hn,h=>by
  simp only[q8]at h ⊢
  obtain⟨cv,h1,h2⟩:=h
  exact⟨cv,h1,y9.q4p caps (by simpa[V.v8]using hn) h2⟩
 | .tup _,_,_,_,h=>by simp only[q8]at h
 | .ts _ _ _,_,_,_,h=>by simp only[q8]at h ⊢;exact h
 | .d _ _,_,_,_,h| .emp _ _,_,_,_,h| .nilc,_,_,_,h| .ptr _ _ _,_,_,_,h| .cptr _ _,_,_,_,h| .sr _ _ _ _ _ _ _,_,_,_,h| .mp _,_,_,_,h| .top _,_,_,_,h=>by simpa only[q8]using h
 | .any,_,_,_,_=>by simp only[q8]
theorem y4.q4p {hm:Option Key}:∀(xs:List V) {p:List Nat} {i:Nat} {τ:Ty} {vs:List Value},V.Q0 xs=true→y4 Γ hm p i τ xs vs→y4 {Γ with τ:=fun _=>none} hm p i τ xs vs
 | [],_,_,_,_,_,_=>by simp only[y4]
 |x::xs,_,_,_,_,hn,h=>by
  simp only[y4]at h ⊢
  simp only[V.Q0,Bool.and_eq_true]at hn
  obtain⟨⟨o,f,h1,h2,h3,h4⟩,h5⟩:=h
  exact⟨⟨o,f,h1,h2,h3,q8.q4p x hn.1 h4⟩,y4.q4p xs hn.2 h5⟩
theorem y9.q4p:∀(xs:List V) {vs:List Value},V.Q0 xs=true→y9 Γ xs vs→y9 {Γ with τ:=fun _=>none} xs vs
 | [],_,_,h=>by simpa only[y9]using h
 |x::xs,_,hn,h=>by
  simp only[y9]at h ⊢
  simp only[V.Q0,Bool.and_eq_true]at hn
  obtain⟨v,vs',h1,h2,h3,h4⟩:=h
  exact⟨v,vs',h1,q8.q4p x hn.1 h2,h3,y9.q4p xs hn.2 h4⟩
end
theorem q8.c8 {hm:Option Key} (hp:q3L Γ Γ' ρ hm) {x:V} (hn:x.v8=true) {p:List Nat} {vs:List Value} (h:q8 Γ hm p x vs):q8 Γ' (hm.map ρ) p (x.ren ρ θ) vs:=by
 have h1:=q8.q4p x hn h
 refine q8.ren (Γ:={Γ with τ:=fun _=>none}) (θ:=θ) ⟨hp.H,hp.ι,hp.σ,hp.κ⟩ (fun t x h=>by cases h) x h1
theorem O.z0W {ρ:Key→Key} {o:O} (h:o.q6B):(o.ren ρ).q6B:=by
 cases o <;> simp only[O.q6B,O.ren]at h ⊢
 obtain⟨e,rfl⟩:=h
 exact⟨e,rfl⟩
theorem Own.ren {w w':World} {k:Key} {o:O} (hp:q3L Γ Γ' ρ (some k)) (hb:o.X3=false→∀b τ,Γ.ι k=some (b,τ)→w'.heap[b]? =w.heap[b]?∧Γ'.H b=none∧Γ'.Z b=none) (hsz:w.heap.size≤w'.heap.size)
  (h:Own Γ w k o):Own Γ' w' (ρ k) (o.ren ρ):=by
 cases o with
 |box x=>
  obtain⟨b,cells,T,h1,h2,h3,h4,h5,h6,h7,h8⟩:=h
  obtain⟨e1,e2,e3⟩:=hb rfl _ _ h1
  exact⟨b,cells,T,by rw[V.q1Y];exact hp.ι _ _ h1,e2,e3,by obtain⟨fr,h4,hf⟩:=h4;exact⟨fr,by rw[e1,h4],hf⟩,by rw[V.q1Y];exact h5,by rw[V.q1Y];exact h6.c8 hp h8,by rw[V.q8Z];exact h7,by rw[V.q7H];exact h8⟩
 |map kτ vτ es=>
  obtain⟨b,ms,clock,h1,h2,h3,h4,h5,h6,h7⟩:=h
  obtain⟨e1,e2,e3⟩:=hb rfl _ _ h1
  refine⟨b,ms,clock,hp.ι _ _ h1,e2,e3,by rw[e1,h4],by simpa using h5,fun i m c hm hc=>?_,h7⟩
  simp only[List.getElem?_map]at hc
  cases hi:es[i]? with
  |none=>simp[hi]at hc
  |some c0=>
   simp[hi]at hc
   subst hc
   obtain⟨a1,a2,a3,a4,a5,a6,a7⟩:=h6 i m c0 hm hi
   exact⟨a1.mono hp.H,a2,by simpa using q8.c8 (hm:=none) ⟨hp.H,hp.ι,hp.σ,fun _ _ _ _ h=>by cases h⟩ a7 a3,a4,by simp only[V.q1Y];exact a5,by simp only[V.q8Z];exact a6,by simp only[V.q7H];exact a7⟩
 |it l pos=>
  obtain⟨b,adr,v,h1,h2,h3,h4,h5,h6,h7⟩:=h
  obtain⟨e1,e2,e3⟩:=hb rfl _ _ h1
  refine⟨b,adr,v,hp.ι _ _ h1,e2,e3,by rw[e1,h4],h5,h6,?_⟩
  rcases h7 with h7|⟨g,cap,g1,g2,g3,g4⟩
  ·exact .inl h7
  ·obtain⟨q1,q2⟩:=hp.κ _ g _ _ rfl g3
   exact .inr ⟨g,cap,g1,by rw[q2];exact g2,q1,g4⟩
 |dead τ=>
  obtain⟨b,h1,h4⟩:=h
  exact⟨b,hp.ι _ _ h1,by omega⟩
mutual
def V.k9:V→V
 | .sl eb e cs _=>.d (.slice eb e) (.slice cs)
 | .agg τ vs=>.agg τ (V.q0c vs)
 | .fn f vs=>.fn f (V.q0c vs)
 | .tup vs=>.tup (V.q0c vs)
 |x=>x
def V.q0c:List V→List V
 | []=>[]
 |x::xs=>V.k9 x::V.q0c xs
end
theorem V.z69 (x:V):x.k9.ty=x.ty:=by cases x <;> simp[V.k9,V.ty]
theorem V.q8B:∀xs:List V,(V.q0c xs).length=xs.length
 | []=>rfl
 |x::xs=>by simp[V.q0c,V.q8B xs]
mutual
theorem V.z2J:∀x:V,x.k9.v8=true
 | .agg τ vs=>by simp only[V.k9,V.v8];exact V.q4z vs
 | .fn f vs=>by simp only[V.k9,V.v8];exact V.q4z vs
 | .tup vs=>by simp only[V.k9,V.v8];exact V.q4z vs
 | .sl _ _ _ _| .ptr _ _ _| .sr _ _ _ _ _ _ _| .mp _| .d _ _| .ts _ _ _| .emp _ _| .nilc| .cptr _ _| .top _| .any=>by simp[V.k9,V.v8]
theorem V.q4z:∀xs:List V,V.Q0 (V.q0c xs)=true
 | []=>rfl
 |x::xs=>by simp only[V.q0c,V.Q0,V.z2J x,V.q4z xs,Bool.and_self]
end
mutual
theorem q8.k9 {hm:Option Key}:∀(x:V) {p:List Nat} {vs:List Value},q8 Γ hm p x vs→q8 Γ hm p x.k9 vs
 | .sl _ _ _ _,_,_,h=>by
  simp only[q8,V.k9]at h ⊢
  obtain⟨a,n,cap,rfl,h2,_⟩:=h
  exact h2
 | .agg τ xs,_,_,h=>by
  simp only[q8,V.k9]at h ⊢
  exact⟨h.1,h.2.1,by rw[V.q8B];exact h.2.2.1,h.2.2.2.1,y4.k9 xs h.2.2.2.2⟩
 | .fn f caps,_,_,h=>by
  simp only[q8,V.k9]at h ⊢
  obtain⟨cv,h1,h2⟩:=h
  exact⟨cv,h1,y9.k9 caps h2⟩
 | .tup _,_,_,h=>by simp only[q8]at h
 | .d _ _,_,_,h| .ts _ _ _,_,_,h| .emp _ _,_,_,h| .nilc,_,_,h| .ptr _ _ _,_,_,h| .cptr _ _,_,_,h| .sr _ _ _ _ _ _ _,_,_,h| .mp _,_,_,h| .top _,_,_,h=>by simpa only[q8,V.k9]using h
 | .any,_,_,_=>by simp only[q8,V.k9]
theorem y4.k9 {hm:Option Key}:∀(xs:List V) {p:List Nat} {i:Nat} {τ:Ty} {vs:List Value},y4 Γ hm p i τ xs vs→y4 Γ hm p i τ (V.q0c xs) vs
 | [],_,_,_,_,_=>by simp only[V.q0c,y4]
 |x::xs,_,_,_,_,h=>by
  simp only[y4,V.q0c,V.z69]at h ⊢
  obtain⟨⟨o,f,h1,h2,h3,h4⟩,h5⟩:=h
  exact⟨⟨o,f,h1,h2,h3,q8.k9 x h4⟩,y4.k9 xs h5⟩
theorem y9.k9:∀(xs:List V) {vs:List Value},y9 Γ xs vs→y9 Γ (V.q0c xs) vs
 | [],_,h=>by simpa only[y9,V.q0c]using h
 |x::xs,_,h=>by
  simp only[y9,V.q0c,V.z69]at h ⊢
  obtain⟨v,vs',h1,h2,h3,h4⟩:=h
  exact⟨v,vs',h1,q8.k9 x h2,h3,y9.k9 xs h4⟩
end
theorem q9.k9 {x:V} {v:Value} (h:q9 Γ x v):q9 Γ x.k9 v:=by
 cases x <;> (try exact h)
 case sl=>obtain⟨h1,h2⟩:=h;exact⟨q8.k9 _ h1,h2⟩
 case agg=>obtain⟨h1,h2⟩:=h;exact⟨q8.k9 _ h1,h2⟩
 case fn=>obtain⟨h1,h2⟩:=h;exact⟨q8.k9 _ h1,h2⟩
 case tup=>obtain⟨vs,h1,h2⟩:=h;exact⟨vs,h1,y9.k9 _ h2⟩
theorem q9.ren {x:V} {v:Value} (hp:q3L Γ Γ' ρ none) (hτ:∀t x,Γ.τ t=some x→Γ'.τ (θ t)=some x) (h:q9 Γ x v):q9 Γ' (x.ren ρ θ) v:=by
 cases x
 case any=>trivial
 case tup vs=>obtain⟨us,h1,h2⟩:=h;exact⟨us,h1,y9.ren hp hτ _ h2⟩
 all_goals
  obtain⟨h1,h2⟩:=h
  have:=q8.ren hp hτ _ h1
  exact(y8 (by simp[V.ren,V.plain])).2 ⟨this,by simpa[V.q1Y]using h2⟩
theorem q9.c8 {x:V} {v:Value} (hp:q3L Γ Γ' ρ none) (hn:x.v8=true) (h:q9 Γ x v):q9 Γ' (x.ren ρ θ) v:=by
 cases x
 case any=>trivial
 case tup vs=>
  obtain⟨us,h1,h2⟩:=h
  refine⟨us,h1,?_⟩
  exact y9.ren (Γ:={Γ with τ:=fun _=>none}) (θ:=θ) ⟨hp.H,hp.ι,hp.σ,hp.κ⟩ (fun t x h=>by cases h) _ (y9.q4p _ (by simpa[V.v8]using hn) h2)
 all_goals
  obtain⟨h1,h2⟩:=h
  have:=q8.c8 (θ:=θ) hp hn h1
  exact(y8 (by simp[V.ren,V.plain])).2 ⟨this,by simpa[V.q1Y]using h2⟩
end
end Go.E
namespace Go.E
open Go
structure Cx where
 P:Program
 gl:Nat→Option (Ty × C)
def V.slot (n:Nat):V→V
 | .ts eb e cs=>.sl eb e cs n
 |x=>x
def X6:Nat→List V→List V
 |_,[]=>[]
 |n,x::xs=>x.slot n::X6 (n+1) xs
def V.q0N (n:Nat):V→List (Nat × Option Nat)
 | .ts _ _ cs=>[(n,some cs.length)]
 |_=>[]
def q2i:Nat→List V→List (Nat × Option Nat)
 |_,[]=>[]
 |n,x::xs=>x.q0N n++q2i (n+1) xs
def V.X7 (n:Nat):V→V
 | .tup vs=>.tup (X6 n vs)
 |x=>x.slot n
def V.tkR (n:Nat):V→List (Nat × Option Nat)
 | .tup vs=>q2i n vs
 |x=>x.q0N n
def q3U:Nat→List V→List (Nat × V)
 |_,[]=>[]
 |i,x::xs=>(i,x)::q3U (i+1) xs
def S.start (xs:List V) (A:Key→Option O):S:=⟨q3U 0 (X6 1000 xs),[],A,q2i 1000 xs⟩
def S.fin (v:V) (L:List (Key × O)) (A:Key→Option O):S:=⟨[],L,A,v.tkR 2000⟩
mutual
def V.ok (f g:Nat→Bool):V→Bool
 | .ptr (.l k) _ _| .mp (.l k)| .sr (.l k) _ _ _ _ _ _=>f k
 | .sl _ _ _ t=>g t
 | .agg _ vs| .fn _ vs| .tup vs=>V.oks f g vs
 |_=>true
def V.oks (f g:Nat→Bool):List V→Bool
 | []=>true
 |x::xs=>x.ok f g&&V.oks f g xs
end
def V.q0m (f g:Nat→Bool):List (C × V)→Bool
 | []=>true
 |x::xs=>x.2.ok f g&&V.q0m f g xs
mutual
def Ty.X2:Ty→Bool
 | .int _| .bool| .str=>true
 | .arr _ e=>e.X2
 | .struct _ _ fs=>Ty.q67 fs
 |_=>false
def Ty.q67:List Ty→Bool
 | []=>true
 |t::l=>t.X2&&Ty.q67 l
end
def O.ok (f g:Nat→Bool):O→Bool
 | .box x=>x.ok f g
 | .map _ _ es=>V.q0m f g es
 | .it _ _| .dead _=>true
def Q4:Nat→Bool:=fun _=>false
def AOk (A:Key→Option O):Prop:=∀k o,A k=some o→o.ok Q4 Q4=true
def Q3 (X:Cx) (f:FuncId) (xs:List V) (A:Key→Option O) (v:V) (L:List (Key × O)):Prop:=
 ∀(A':Key→Option O) (Γ:G) (w:World) (args:Array Value),(∀k o,A k=some o→A' k=some o)→Γ.gl=X.gl→z8 Γ w (S.start xs A')∧AOk A'→xs.length=args.size→(∀(i:Nat) x u,(X6 1000 xs)[i]? =some x→args[i]? =some u→q9 Γ x u)→
  Calls X.P f args w fun e w'=>∃u Γ',e= .returned u∧GLe Γ Γ'∧z8 Γ' w' (S.fin v L A')∧q9 Γ' (v.X7 2000) u
theorem q5C:∀(n:Nat) (xs:List V),(X6 n xs).length=xs.length
 |_,[]=>rfl
 |n,x::xs=>by simp[X6,q5C (n+1) xs]
theorem q4F:∀(n:Nat) (xs:List V) (i:Nat),(X6 n xs)[i]? =(xs[i]?).map (V.slot (n+i))
 |_,[],i=>by simp[X6]
 |n,x::xs,0=>by simp[X6]
 |n,x::xs,i+1=>by simp only[X6,List.getElem?_cons_succ,q4F (n+1) xs i];rw[show n+1+i=n+(i+1) by omega]
theorem q0P {α:Type}:∀(l m:List (Nat × α)) (n:Nat),look (l++m) n=match look l n with|some x=>some x|none=>look m n
 | [],_,_=>rfl
 |(j,x)::l,m,n=>by
  simp only[List.cons_append,look]
  split
  ·rfl
  ·exact q0P l m n
theorem z3T (n:Nat) (x:V) (t:Nat):look (x.q0N n) t=if n=t then(match x with| .ts _ _ cs=>some (some cs.length)|_=>none)else none:=by
 cases x <;> simp[V.q0N,look]
theorem q3b:∀(n:Nat) (xs:List V) (t:Nat),look (q2i n xs) t=if n≤t then(match xs[t-n]? with|some (.ts _ _ cs)=>some (some cs.length)|_=>none)else none
 |n,[],t=>by simp[q2i,look]
 |n,x::xs,t=>by
  simp only[q2i,q0P,z3T,q3b (n+1) xs t]
  by_cases h1:n=t
  ·subst h1
   simp only[if_true,Nat.le_refl,Nat.sub_self,List.getElem?_cons_zero]
   cases x <;> simp
   all_goals (intro h;omega)
  ·rw[if_neg h1]
   by_cases h2:n≤t
   ·rw[if_pos h2,if_pos (by omega),show t-n=(t-(n+1))+1 by omega,List.getElem?_cons_succ]
   ·rw[if_neg h2,if_neg (by omega)]
def V.z3i:V→Bool
 | .ts _ _ _=>false
 |_=>true
def W8 (P:Program) (tip:Bool) (s:S) (T:TypeId) (x:V):V:=
 match x with
 | .sl eb e cs t=>if tip=true∧s.live t=some cs.length then .ts eb e cs else .d (.slice eb e) (.slice cs)
 | .emp eb e=>if tip=true then .ts eb e []else .d (.slice eb e) (.slice [])
 | .nilc=>match ty P T with
  | .slice eb e=>if tip=true then .ts eb e []else .d (.slice eb e) (.slice [])
  |_=>if tip=true then .ts 0 (.opq 0) []else .nilc
 | .agg τ vs=>match s9 (.agg τ vs)with
  |some c=>.d τ c
  |none=>(V.agg τ vs).k9.ren .g id
 |x=>x.k9.ren .g id
def b8 (P:Program) (tip:Bool) (s:S):List TypeId→List V→List V
 |T::Ts,x::xs=>W8 P tip s T x::b8 P tip s Ts xs
 |_,_=>[]
def Q5 (tip:Bool) (s:S) (x:V):Option (Option Nat):=
 match x with
 | .sl _ _ cs t=>if tip=true∧s.live t=some cs.length then some (some t)else none
 | .emp _ _| .nilc=>if tip=true then some none else none
 |_=>none
def c7 (tip:Bool) (s:S):List V→List Nat
 | []=>[]
 |x::xs=>(match Q5 tip s x with|some (some t)=>[t] |_=>[])++c7 tip s xs
def q0o:List Nat→Bool
 | []=>true
 |x::xs=> !(xs.contains x)&&q0o xs
theorem y2R {P:Program} {tip:Bool} {s:S} {T:TypeId} {x:V} {eb:Nat} {e:Ty} {cs:List C} (h:W8 P tip s T x= .ts eb e cs) (hx:x.z3i=true):
  (∃t,x= .sl eb e cs t∧Q5 tip s x=some (some t)∧s.live t=some cs.length)∨(cs=[]∧Q5 tip s x=some none):=by
 cases x <;> simp only[W8]at h
 case sl eb' e' cs' t=>
  split at h
  ·rename_i hc;cases h;exact .inl ⟨t,rfl,by simp[Q5,hc],hc.2⟩
  ·cases h
 case emp eb' e'=>
  split at h
  ·rename_i hc;cases h;exact .inr ⟨rfl,by simp[Q5,hc]⟩
  ·cases h
 case nilc=>
  split at h
  ·split at h
   ·rename_i hc;cases h;exact .inr ⟨rfl,by simp[Q5,hc]⟩
   ·cases h
  ·split at h
   ·rename_i hc;cases h;exact .inr ⟨rfl,by simp[Q5,hc]⟩
   ·cases h
 case agg=>split at h <;> simp[V.k9,V.ren]at h
 case ts=>simp[V.z3i]at hx
 all_goals (simp[V.k9,V.ren]at h)
theorem q3r {tip:Bool} {s:S}:∀{xs:List V} {i:Nat} {x:V} {t:Nat},xs[i]? =some x→Q5 tip s x=some (some t)→t∈c7 tip s xs
 | [],_,_,_,h,_=>by simp at h
 |y::ys,0,x,t,h,hx=>by simp at h;subst h;simp[c7,hx]
 |y::ys,i+1,x,t,h,hx=>by simp only[c7,List.mem_append];exact .inr (q3r (by simpa using h) hx)
theorem z10 {tip:Bool} {s:S}:∀{xs:List V} {i j:Nat} {x y:V} {t:Nat},q0o (c7 tip s xs)=true→xs[i]? =some x→xs[j]? =some y→Q5 tip s x=some (some t)→Q5 tip s y=some (some t)→i=j
 | [],_,_,_,_,_,_,h,_,_,_=>by simp at h
 |z::zs,i,j,x,y,t,hn,hi,hj,hx,hy=>by
  have key:∀{k:Nat} {u:V},zs[k]? =some u→Q5 tip s u=some (some t)→Q5 tip s z=some (some t)→False:=by
   intro k u hk hu hz
   have:=q3r hk hu
   simp[c7,hz,q0o]at hn
   exact hn.1 this
  cases i with
  |zero=>
   simp at hi;subst hi
   cases j with
   |zero=>rfl
   |succ j=>exact(key (by simpa using hj) hy hx).elim
  |succ i=>
   cases j with
   |zero=>simp at hj;subst hj;exact(key (by simpa using hi) hx hy).elim
   |succ j=>
    have hn':q0o (c7 tip s zs)=true:=by
     simp only[c7]at hn
     split at hn
     ·simp[q0o]at hn;exact hn.2
     ·simpa using hn
    have:=z10 (i:=i) (j:=j) hn' (by simpa using hi) (by simpa using hj) hx hy
    omega
theorem q5m {P:Program} {tip:Bool} {s:S}:∀{Ts:List TypeId} {xs:List V} {i:Nat} {z:V},(b8 P tip s Ts xs)[i]? =some z→∃(T:TypeId) (x:V),Ts[i]? =some T∧xs[i]? =some x∧z=W8 P tip s T x
 | [],_,_,_,h=>by simp[b8]at h
 |_::_,[],_,_,h=>by simp[b8]at h
 |T::Ts,x::xs,0,z,h=>by simp[b8]at h;exact⟨T,x,rfl,rfl,h.symm⟩
 |T::Ts,x::xs,i+1,z,h=>by
  simp only[b8,List.getElem?_cons_succ]at h
  obtain⟨T',x',h1,h2,h3⟩:=q5m h
  exact⟨T',x',by simpa using h1,by simpa using h2,h3⟩
theorem q5a {P:Program} {tip:Bool} {s:S}:∀{Ts:List TypeId} {xs:List V},Ts.length=xs.length→(b8 P tip s Ts xs).length=xs.length
 | [],[],_=>rfl
 |T::Ts,x::xs,h=>by simp[b8,q5a (Ts:=Ts) (xs:=xs) (by simpa using h)]
 | [],_::_,h=>by simp at h
 |_::_,[],h=>by simp at h
def U7 (tip:Bool) (s:S) (t:Nat):Nat→List V→Option Nat
 |_,[]=>none
 |i,x::xs=>if Q5 tip s x=some (some t)then some i else U7 tip s t (i+1) xs
theorem q5n {tip:Bool} {s:S} {t:Nat}:∀{xs:List V} {i j:Nat},U7 tip s t i xs=some j→∃(k:Nat) (x:V),j=i+k∧xs[k]? =some x∧Q5 tip s x=some (some t)
 | [],_,_,h=>by simp[U7]at h
 |x::xs,i,j,h=>by
  simp only[U7]at h
  split at h
  ·rename_i hx;cases h;exact⟨0,x,rfl,rfl,hx⟩
  ·obtain⟨k,y,h1,h2,h3⟩:=q5n h
   exact⟨k+1,y,by omega,by simpa using h2,h3⟩
theorem z2S {tip:Bool} {s:S} {t:Nat}:∀{xs:List V} {i:Nat},U7 tip s t i xs=none→t∉c7 tip s xs
 | [],_,_=>by simp[c7]
 |x::xs,i,h=>by
  simp only[U7]at h
  split at h
  ·cases h
  ·rename_i hx
   have:=z2S h
   simp only[c7,List.mem_append,not_or]
   refine⟨?_,this⟩
   cases ha:Q5 tip s x with
   |none=>simp
   |some o=>cases o with
    |none=>simp
    |some u=>simp;intro e;subst e;exact hx ha
end Go.E
namespace Go.E
open Go
def G.call (Γ:G) (w:World) (tip:Bool) (s:S) (ys:List V):G:=
 {H:=Γ.H
  Z:=fun b=>match Γ.Z b with
   |some o=>some o
   |none=>match Γ.κ b with
    |some (.tok t,_)=>match U7 tip s t 0 ys with
     |some _=>none
     |none=>w.heap[b]?
    |_=>none
  ι:=fun k=>match k with
   | .l _=>none
   | .g k=>Γ.ι k
  τ:=fun m=>if 1000≤m then(match ys[m-1000]? with
   |some y=>(match Q5 tip s y with
    |some (some t)=>Γ.τ t
    |some none=>some (none,0)
    |none=>none)
   |none=>none)else none
  κ:=fun b=>match Γ.κ b with
   |some (.home k p,sz)=>some (.home (.g k) p,sz)
   |some (.tok t,sz)=>match U7 tip s t 0 ys with
    |some i=>some (.tok (1000+i),sz)
    |none=>none
   |none=>none
  gl:=Γ.gl
  oo:=Γ.oo
  σ:=Γ.σ}
def S.up (s:S):Key→Option O:=fun k=>(s.obj k).map (O.ren .g)
section
variable {P:Program} {Γ:G} {w:World} {s:S} {tip:Bool} {ys:List V} {Ts:List TypeId}
theorem y1p (Γ:G) (w:World) (tip:Bool) (s:S) (ys:List V) {b:Nat} (hz:Γ.Z b=none) (h:∀t sz,Γ.κ b=some (.tok t,sz)→U7 tip s t 0 ys≠none):(Γ.call w tip s ys).Z b=none:=by
 simp only[G.call,hz]
 cases hk:Γ.κ b with
 |none=>rfl
 |some x=>
  obtain⟨o,sz⟩:=x
  cases o with
  |home=>rfl
  |tok t=>
   simp only
   cases ha:U7 tip s t 0 ys with
   |some _=>rfl
   |none=>exact absurd ha (h t sz hk)
theorem z2O (Γ:G) (w:World) (tip:Bool) (s:S) (ys:List V) (hm:Option Key):q3L Γ (Γ.call w tip s ys) .g hm:=
 ⟨Hp.le_refl _,fun k x h=>h,fun _ _ h=>h,fun k b p sz _ h=>⟨by simp[G.call,h],rfl⟩⟩
theorem z94 {y:V} {u:Value} (c:z8 Γ w s) (hr:q9 Γ y u) {m:Option Nat} (h:Q5 tip s y=some m):
  ∀T,∃eb e cs,W8 P tip s T y= .ts eb e cs:=by
 intro T
 cases y <;> simp only[Q5,reduceCtorEq]at h
 case sl eb e cs t=>
  split at h
  ·rename_i hc;exact⟨eb,e,cs,by simp[W8,hc]⟩
  ·cases h
 case emp eb e=>
  split at h
  ·rename_i hc;exact⟨eb,e,[],by simp[W8,hc]⟩
  ·cases h
 case nilc=>
  split at h
  ·rename_i hc
   simp only[W8,hc,if_true]
   split
   ·exact⟨_,_,_,rfl⟩
   ·exact⟨_,_,_,rfl⟩
  ·cases h
structure z3P (P:Program) (Γ:G) (tip:Bool) (s:S) (Ts:List TypeId) (ys:List V) (us:List Value):Prop where
 len:Ts.length=ys.length
 len2:ys.length=us.length
 rep:∀(i:Nat) (y:V) (u:Value),ys[i]? =some y→us[i]? =some u→q9 Γ y u
 nd:q0o (c7 tip s ys)=true
theorem z3P.ix {us:List Value} (a:z3P P Γ tip s Ts ys us) {t i:Nat} {y:V} (hy:ys[i]? =some y) (ht:Q5 tip s y=some (some t)):U7 tip s t 0 ys=some i:=by
 cases h:U7 tip s t 0 ys with
 |none=>exact absurd (q3r hy ht) (z2S h)
 |some j=>
  obtain⟨k,x,h1,h2,h3⟩:=q5n h
  have:=z10 a.nd hy h2 ht h3
  rw[h1,this];simp
theorem z8.call (c:z8 Γ w s) {us:List Value} (a:z3P P Γ tip s Ts ys us):z8 (Γ.call w tip s ys) w (S.start (b8 P tip s Ts ys) s.up):=by
 have hobj:∀k o,(S.start (b8 P tip s Ts ys) s.up).obj k=some o→∃k' o',k= .g k'∧s.obj k'=some o'∧o=o'.ren .g:=by
  intro k o h
  cases k with
  |l n=>simp[S.start,S.obj,b6,z6]at h
  |g k=>
   have h:s.up k=some o:=by simpa[S.start,S.obj,b6,z6]using h
   simp only[S.up]at h
   cases ho:s.obj k with
   |none=>simp[ho]at h
   |some o'=>simp[ho]at h;exact⟨k,o',rfl,ho,h.symm⟩
 have hdead:∀k,s.p9 k=true→(S.start (b8 P tip s Ts ys) s.up).p9 (.g k)=true:=by
  intro k h
  cases ho:s.obj k with
  |none=>simp[S.p9,z2L,ho]at h
  |some o=>
   have e:(S.start (b8 P tip s Ts ys) s.up).obj (.g k)=some (o.ren .g):=by simp[S.start,S.obj,b6,z6,S.up]at ho ⊢;exact⟨o,ho,rfl⟩
   rw[c6 e,O.q5g];rw[c6 ho]at h;exact h
 refine⟨c.hH,fun b o h=>?_,fun b o sz h=>?_,fun k o h=>?_,fun k h=>?_,fun k k' b τ τ' h1 h2=>?_,fun m L h=>?_,fun m h=>?_,c.hgl,c.hoo,c.hσ⟩
 ·simp only[G.call]at h
  cases hz:Γ.Z b with
  |some o'=>simp[hz]at h;subst h;exact c.hZ b _ hz
  |none=>
   simp only[hz]at h
   cases hk:Γ.κ b with
   |none=>simp[hk]at h
   |some x=>
    obtain⟨t,sz⟩:=x
    cases t with
    |home=>simp[hk]at h
    |tok t=>
     simp only[hk]at h
     split at h
     ·cases h
     ·exact h
 ·cases hk:Γ.κ b with
  |none=>simp[G.call,hk]at h
  |some x=>
   obtain⟨o',sz'⟩:=x
   obtain⟨a1,a2,arr,T,a3,a4,a5⟩:=c.hκ b o' sz' hk
   have hT:z1t o T:=by
    cases o' with
    |home _ p=>simp[G.call,hk]at h;rw[←h.1];cases p <;> exact a5
    |tok t=>
     simp only[G.call,hk]at h
     cases hi:U7 tip s t 0 ys with
     |none=>simp[hi]at h
     |some i=>simp[hi]at h;rw[←h.1];trivial
   have hsz:sz'=sz∧∀t,o'= .tok t→U7 tip s t 0 ys≠none:=by
    cases o' with
    |home=>simp[G.call,hk]at h;exact⟨h.2,fun t e=>by cases e⟩
    |tok t=>
     simp only[G.call,hk]at h
     cases hi:U7 tip s t 0 ys with
     |none=>simp[hi]at h
     |some i=>simp[hi]at h;exact⟨h.2,fun t' e=>by cases e;rw[hi];simp⟩
   obtain⟨rfl,hix⟩:=hsz
   exact⟨y1p Γ w tip s ys a1 (fun t sz h=>by rw[hk]at h;cases h;exact hix t rfl),a2,arr,T,a3,a4,hT⟩
 ·obtain⟨k',o',rfl,ho,rfl⟩:=hobj k o h
  refine(c.obj k' o' ho).imp (fun h=>⟨h.1,O.z0W h.2⟩) fun hown=>hown.ren (z2O Γ w tip s ys _) (fun hd b τ hb=>?_) (Nat.le_refl _)
  obtain⟨a1,a2,_⟩:=c.W2 hb ho hd
  refine⟨rfl,a1,y1p Γ w tip s ys a2 fun t sz hk=>?_⟩
  exact absurd a1 (c.hκ b _ _ hk).2.1
 ·cases k with
  |l n=>simp[G.call]at h
  |g k=>
   have h':Γ.ι k≠none:=h
   have:=c.dom k h'
   cases ho:s.obj k with
   |none=>exact absurd ho this
   |some o=>
    have:(S.start (b8 P tip s Ts ys) s.up).obj (.g k)=s.up k:=by simp[S.start,S.obj,b6,z6]
    rw[this,S.up,ho];simp
 ·cases k with
  |l n=>simp[G.call]at h1
  |g k=>cases k' with
   |l n=>simp[G.call]at h2
   |g k'=>exact(c.inj k k' b τ τ' h1 h2).imp (congrArg Key.g) (And.imp (Or.imp (hdead k) (hdead k')) id)
 · -- live tokens are those of arguments
  simp only[S.start,S.live,F1,q3b]at h
  by_cases hm:1000≤m
  ·rw[if_pos hm]at h
   cases hx:(b8 P tip s Ts ys)[m-1000]? with
   |none=>simp[hx]at h
   |some z=>
    obtain⟨T,y,_,hy,hz⟩:=q5m hx
    have hlt:m-1000<us.length:=by rw[←a.len2];exact(List.getElem?_eq_some_iff.1 hy).1
    have hr:=a.rep _ y _ hy (List.getElem?_eq_getElem hlt)
    have hnt:y.z3i=true:=by
     cases y <;> (try rfl)
     obtain⟨h1,_⟩:=hr
     simp only[q8]at h1
     obtain⟨_,_,_,_,h0,_⟩:=h1
     cases h0
    cases z <;> simp[hx]at h
    rename_i eb e cs
    subst h
    rcases y2R hz.symm hnt with⟨t,rfl,h2,h3⟩|⟨rfl,h2⟩
    ·obtain⟨x,h4,h5⟩:=c.tok t _ h3
     refine⟨x,by simp[G.call,hm,hy,h2,h4],fun b pos sz hxx=>?_⟩
     obtain⟨a1,a2⟩:=h5 b pos sz hxx
     refine⟨a1,?_⟩
     simp only[G.call,a2,a.ix hy h2]
     rw[show 1000+(m-1000)=m by omega]
    ·exact⟨none,by simp[G.call,hm,hy,h2],fun b pos sz h=>by cases h⟩
  ·rw[if_neg hm]at h;cases h
 ·simp only[G.call]at h
  by_cases hm:1000≤m
  ·rw[if_pos hm]at h
   cases hy:ys[m-1000]? with
   |none=>simp[hy]at h
   |some y=>
    simp only[hy]at h
    cases ht:Q5 tip s y with
    |none=>simp[ht]at h
    |some o=>
     have hlt:m-1000<us.length:=by rw[←a.len2];exact(List.getElem?_eq_some_iff.1 hy).1
     have hr:=a.rep _ y _ hy (List.getElem?_eq_getElem hlt)
     have hlT:m-1000<Ts.length:=by rw[a.len];exact(List.getElem?_eq_some_iff.1 hy).1
     obtain⟨eb,e,cs,hget⟩:∃eb e cs,(b8 P tip s Ts ys)[m-1000]? =some (.ts eb e cs):=by
      have hl:m-1000<(b8 P tip s Ts ys).length:=by rw[q5a a.len];exact(List.getElem?_eq_some_iff.1 hy).1
      cases hz:(b8 P tip s Ts ys)[m-1000]? with
      |none=>rw[List.getElem?_eq_none_iff]at hz;omega
      |some z=>
       obtain⟨T,y',_,hy',hz'⟩:=q5m hz
       rw[hy]at hy';cases hy'
       obtain⟨eb,e,cs,h2⟩:=z94 (P:=P) c hr ht T
       exact⟨eb,e,cs,by rw[hz',h2]⟩
     simp[S.start,S.known,q3b,hm,hget]
  ·rw[if_neg hm]at h;exact absurd rfl h
theorem y1t (c:z8 Γ w s) {us:List Value} (a:z3P P Γ tip s Ts ys us) {i:Nat} {T:TypeId} {y:V} {u:Value} (hy:ys[i]? =some y) (hr:q9 Γ y u):
  q9 (Γ.call w tip s ys) ((W8 P tip s T y).slot (1000+i)) u:=by
 have pr:=z2O Γ w tip s ys none
 have hd:∀{eb:Nat} {e:Ty} {cs:List C} {vs:List Value},z7 Γ.H (.slice eb e) vs (.slice cs)→z7 (Γ.call w tip s ys).H (.slice eb e) vs (.slice cs):=fun h=>h
 have gen:q9 (Γ.call w tip s ys) (y.k9.ren .g id) u:=q9.c8 pr (V.z2J y) hr.k9
 cases y
 case sl eb e cs t=>
  obtain⟨h1,h2⟩:=(x9 rfl rfl).1 hr
  simp only[q8]at h1
  obtain⟨aa,n,cap,hv,hrc,htk⟩:=h1
  simp at hv;subst hv
  by_cases hc:tip=true∧s.live t=some cs.length
  ·have ha:Q5 tip s (.sl eb e cs t)=some (some t):=by simp[Q5,hc]
   simp only[W8,if_pos hc,V.slot]
   refine(x9 rfl rfl).2 ⟨?_,rfl⟩
   simp only[q8]
   obtain⟨x,L,q1,q2,q3⟩:=htk
   exact⟨aa,n,cap,rfl,hrc,x,L,by simp[G.call,hy,ha,q1],q2,q3⟩
  ·simp only[W8,if_neg hc,V.slot]
   exact q0B hrc
 case emp eb e=>
  obtain⟨h1,h2⟩:=(x9 rfl rfl).1 hr
  simp only[q8]at h1
  obtain⟨aa,hv⟩:=h1
  simp at hv;subst hv
  have hrc:z7 (Γ.call w tip s ys).H (.slice eb e) [.slice aa 0 0] (.slice []):=v7 rfl (Nat.le_refl _) (Nat.zero_le _) (by rw[Nat.zero_mul];exact Nat.zero_le _) (.inl rfl)
  by_cases hc:tip=true
  ·have ha:Q5 tip s (.emp eb e)=some none:=by simp[Q5,hc]
   simp only[W8,if_pos hc,V.slot]
   refine(x9 rfl rfl).2 ⟨?_,rfl⟩
   simp only[q8]
   exact⟨aa,0,0,rfl,hrc,none,0,by simp[G.call,hy,ha],Nat.le_refl _,fun _=>rfl⟩
  ·simp only[W8,if_neg hc,V.slot]
   exact q0B hrc
 case nilc=>
  have hts:∀(eb:Nat) (e:Ty),tip=true→q9 (Γ.call w tip s ys) (V.slot (1000+i) (.ts eb e [])) (.slice none 0 0):=by
   intro eb e hc
   have ha:Q5 tip s .nilc=some none:=by simp[Q5,hc]
   simp only[V.slot]
   refine(x9 rfl rfl).2 ⟨?_,rfl⟩
   simp only[q8]
   exact⟨none,0,0,rfl,v7 rfl (Nat.le_refl _) (Nat.zero_le _) (by rw[Nat.zero_mul];exact Nat.zero_le _) (.inl rfl),none,0,by simp[G.call,hy,ha],Nat.le_refl _,fun _=>rfl⟩
  rw[Z5 hr]
  simp only[W8]
  split
  ·split
   ·rename_i hc;exact hts _ _ hc
   ·simp only[V.slot]
    exact q0B (v7 rfl (Nat.le_refl _) (Nat.zero_le _) (by rw[Nat.zero_mul];exact Nat.zero_le _) (.inl rfl))
  ·split
   ·rename_i hc;exact hts _ _ hc
   ·rw[←Z5 hr];exact gen
 case agg τ vs=>
  simp only[W8]
  split
  ·rename_i cc hcc
   obtain⟨h1,h2⟩:=hr
   simp only[V.slot]
   exact Q2.2 ⟨q0M _ h1 hcc,h2⟩
  ·exact gen
 case ts=>
  obtain⟨h1,_⟩:=hr
  simp only[q8]at h1
  obtain⟨_,_,_,_,h0,_⟩:=h1
  cases h0
 all_goals exact gen
end
end Go.E
namespace Go.E
open Go
def rk (d:Nat) (j:Nat):Nat:=1000*(d+1)+j
def q2k (d:Nat) (n:Nat):Option Nat:=if 1000*(d+1)≤n then some (n-1000*(d+1))else none
theorem q3S (d j:Nat):q2k d (rk d j)=some j:=by simp[q2k,rk]
theorem q1X {d n j:Nat} (h:q2k d n=some j):rk d j=n:=by
 unfold q2k at h
 split at h
 ·have:=Option.some.inj h;unfold rk;omega
 ·cases h
def dn (d:Nat):Key→Key
 | .g k=>k
 | .l j=>.l (rk d j)
def dnL (d:Nat):List (Key × O)→List (Key × O)
 | []=>[]
 |(k,o)::l=>(dn d k,o.ren (dn d))::dnL d l
def dnT (d:Nat):List (Nat × Option Nat)→List (Nat × Option Nat)
 | []=>[]
 |(m,x)::l=>(rk d m,x)::dnT d l
def q2y:List Nat→List (Nat × Option Nat)
 | []=>[]
 |t::l=>(t,none)::q2y l
theorem q7O:∀(l:List Nat) (t:Nat),look (q2y l) t=if t∈l then some none else none
 | [],t=>by simp[q2y,look]
 |u::l,t=>by
  simp only[q2y,look,q7O l t,List.mem_cons]
  by_cases h:u=t
  ·subst h;simp
  ·have h':t≠u:=fun e=>h e.symm
   simp[h,h']
theorem q7N (d:Nat):∀(l:List (Nat × Option Nat)) (t:Nat),look (dnT d l) t=match q2k d t with|some m=>look l m|none=>none
 | [],t=>by simp only[dnT,look];split <;> rfl
 |(m,x)::l,t=>by
  simp only[dnT,look,q7N d l t]
  cases h:q2k d t with
  |none=>
   have:rk d m≠t:=by intro e;subst e;rw[q3S]at h;cases h
   simp[this]
  |some j=>
   have ht:=q1X h
   by_cases hm:m=j
   ·subst hm;simp[ht]
   ·have:rk d m≠t:=by intro e;apply hm;have:q2k d (rk d m)=some j:=by rw[e];exact h
                      rw[q3S]at this;exact Option.some.inj this
    simp[this,hm]
def upL (d:Nat) (L:List (Key × O)) (k:Key):Option O:=
 match z6 L (.g k)with
 |some o=>some o
 |none=>match k with
  | .l n=>match q2k d n with
   |some j=>z6 L (.l j)
   |none=>none
  | .g _=>none
def bk (d:Nat):Option (Tip × Nat)→Option (Tip × Nat)
 |some (.home k p,sz)=>some (.home (dn d k) p,sz)
 |some (.tok m,sz)=>some (.tok (rk d m),sz)
 |none=>none
def G.back (Γ Γ':G) (tip:Bool) (s:S) (ys:List V) (d:Nat) (v:V) (L:List (Key × O)):G:=
 {H:=Γ'.H
  Z:=Γ.Z
  ι:=fun k=>match k with
   | .l n=>match q2k d n with
    |some j=>match z6 L (.l j)with
     |some _=>Γ'.ι (.l j)
     |none=>Γ.ι (.l n)
    |none=>Γ.ι (.l n)
   | .g k=>Γ.ι (.g k)
  τ:=fun t=>match q2k d t with
   |some m=>match look (v.tkR 2000) m with
    |some _=>Γ'.τ m
    |none=>Γ.τ t
   |none=>Γ.τ t
  κ:=fun b=>match Γ.κ b with
   |some (.tok u,sz)=>match U7 tip s u 0 ys with
    |some _=>bk d (Γ'.κ b)
    |none=>some (.tok u,sz)
   |_=>bk d (Γ'.κ b)
  gl:=Γ.gl
  oo:=Γ.oo
  σ:=Γ'.σ}
def S.back (s:S) (tip:Bool) (ys:List V) (d:Nat) (v:V) (L:List (Key × O)):S:=
 {s with loc:=dnL d L++s.loc,tk:=dnT d (v.tkR 2000)++(q2y (c7 tip s ys)++s.tk)}
theorem H2 {α:Type}:∀(l m:List (Key × α)) (n:Key),z6 (l++m) n=match z6 l n with|some x=>some x|none=>z6 m n
 | [],_,_=>rfl
 |(j,x)::l,m,n=>by
  simp only[List.cons_append,z6]
  split
  ·rfl
  ·exact H2 l m n
theorem q41 (d:Nat):∀{L:List (Key × O)} {k:Key} {o:O},z6 (dnL d L) k=some o→(∃j o',dn d j=k∧z6 L j≠none∧o=O.ren (dn d) o')
 | [],_,_,h=>by simp[dnL,z6]at h
 |(j,o')::L,k,o,h=>by
  simp only[dnL,z6]at h
  split at h
  ·rename_i e;cases h;exact⟨j,o',e,by simp[z6],rfl⟩
  ·obtain⟨j2,o2,a1,a2,a3⟩:=q41 d h
   refine⟨j2,o2,a1,?_,a3⟩
   simp only[z6];split <;> simp[a2]
theorem q5Q (d:Nat) {s:S}:∀{L:List (Key × O)} {k:Key},(∀k o,z6 L (.g k)=some o→s.obj k≠none)→(∀j o,z6 L (.l j)=some o→s.obj (.l (rk d j))=none)→
  (∀j o,z6 L j=some o→dn d j=k→z6 (dnL d L) k=some (o.ren (dn d)))
 | [],k,_,_,j,o,h,_=>by simp[z6]at h
 |(i,oi)::L,k,hg,hl,j,o,h,hj=>by
  simp only[z6]at h
  simp only[dnL,z6]
  by_cases hij:i=j
  ·subst hij;simp at h;subst h;simp[hj]
  ·rw[if_neg hij]at h
   have hne:dn d i≠k:=by
    intro e
    have hi0:∃oi',z6 ((i,oi)::L) i=some oi':=⟨oi,by simp[z6]⟩
    obtain⟨oi',hi1⟩:=hi0
    have hj1:z6 ((i,oi)::L) j=some o:=by simp only[z6];rw[if_neg hij];exact h
    cases i with
    |g ki=>
     cases j with
     |g kj=>simp only[dn]at e hj;subst e;subst hj;exact hij rfl
     |l nj=>
      simp only[dn]at e hj
      have h1:=hg ki _ hi1
      have h2:=hl nj _ hj1
      rw[←e]at hj;rw[hj]at h2;exact h1 h2
    |l ni=>
     cases j with
     |g kj=>
      simp only[dn]at e hj
      have h1:=hg kj _ hj1
      have h2:=hl ni _ hi1
      rw[←hj]at e;rw[e]at h2;exact h1 h2
     |l nj=>
      simp only[dn]at e hj
      rw[←hj]at e
      simp[rk]at e
      exact hij (by rw[e])
   rw[if_neg hne]
   exact q5Q d (L:=L) (fun k0 o0 h0=>by
    by_cases e:i= .g k0
    ·subst e;exact hg k0 oi (by simp[z6])
    ·exact hg k0 o0 (by simp[z6,e,h0])) (fun j0 o0 h0=>by
    by_cases e:i= .l j0
    ·subst e;exact hl j0 oi (by simp[z6])
    ·exact hl j0 o0 (by simp[z6,e,h0])) j o h hj
section
variable {P:Program} {Γ Γ':G} {w w':World} {s:S} {tip:Bool} {ys:List V} {Ts:List TypeId} {v:V} {L:List (Key × O)} {d:Nat}
theorem z8.back (c:z8 Γ w s) {us:List Value} (a:z3P P Γ tip s Ts ys us) (gle:GLe (Γ.call w tip s ys) Γ') (c':z8 Γ' w' (S.fin v L s.up))
  (hg:∀k o,z6 L (.g k)=some o→s.obj k≠none) (hl:∀j o,z6 L (.l j)=some o→s.obj (.l (rk d j))=none) (ht:∀m x,look (v.tkR 2000) m=some x→s.known (rk d m)=false)
  {u:Value} (hv:q9 Γ' (v.X7 2000) u):u2 Γ w (s.back tip ys d v L) ((v.X7 2000).ren (dn d) (rk d)) u w':=by
 -- facts on the ghosts
 have hZu:∀b t sz,Γ.κ b=some (.tok t,sz)→U7 tip s t 0 ys=none→(Γ.call w tip s ys).Z b≠none:=by
  intro b t sz hk hi
  obtain⟨a1,_,arr,T,a3,_⟩:=c.hκ b _ _ hk
  simp only[G.call,a1,hk,hi,a3];simp
 have hZ0:∀b,Γ.Z b≠none→(Γ.call w tip s ys).Z b≠none:=by
  intro b h
  cases hz:Γ.Z b with
  |none=>exact absurd hz h
  |some o=>simp[G.call,hz]
 have hιg:∀k x,Γ.ι k=some x→Γ'.ι (.g k)=some x:=fun k x h=>gle.g k x h
 have hιnew:∀j,z6 L (.l j)≠none→Γ.ι (.l (rk d j))=none:=by
  intro j h
  cases ho:z6 L (.l j)with
  |none=>exact absurd ho h
  |some o=>exact c.q6R (hl j o ho)
 have hfin:∀k,(S.fin v L s.up).obj k=match z6 L k with|some o=>some o|none=>match k with| .g k=>s.up k| .l _=>none:=fun k=>rfl
 have hκn:∀b x,Γ'.κ b=some x→(Γ.back Γ' tip s ys d v L).κ b=bk d (some x):=by
  intro b x h
  have hz:=(c'.hκ b x.1 x.2 (by rw[h])).1
  rw[gle.Z]at hz
  simp only[G.back]
  cases hk:Γ.κ b with
  |none=>simp[h]
  |some y=>
   obtain⟨o,sz⟩:=y
   cases o with
   |home=>simp[h]
   |tok t=>
    simp only
    cases hi:U7 tip s t 0 ys with
    |some i=>simp[h]
    |none=>exact absurd hz (hZu b t sz hk hi)
 have hτn:∀m x,Γ'.τ m=some x→(Γ.back Γ' tip s ys d v L).τ (rk d m)=some x:=by
  intro m x h
  have hk:=c'.tdom m (by rw[h];simp)
  have hk':(look (v.tkR 2000) m).isSome=true:=hk
  obtain⟨y,hy⟩:=Option.isSome_iff_exists.1 hk'
  simp[G.back,q3S,hy,h]
 have hιn:∀k x,Γ'.ι k=some x→(Γ.back Γ' tip s ys d v L).ι (dn d k)=some x:=by
  intro k x h
  cases k with
  |l j=>
   have hd:=c'.dom (.l j) (by rw[h];simp)
   rw[hfin]at hd
   cases ho:z6 L (.l j)with
   |none=>simp[ho]at hd
   |some o=>simp[G.back,dn,q3S,ho,h]
  |g k=>
   have hd:=c'.dom (.g k) (by rw[h];simp)
   rw[hfin]at hd
   have hsk:s.obj k≠none:=by
    cases ho:z6 L (.g k)with
    |none=>
     simp only[ho,S.up]at hd
     intro e;rw[e]at hd;simp at hd
    |some o=>exact hg k o ho
   cases hso:s.obj k with
   |none=>exact absurd hso hsk
   |some o=>
    rcases c.obj k o hso with hn|hown
    ·rw[gle.gn k hn.1]at h;cases h
    obtain⟨b,τ,e1,_⟩:=hown.block
    have e2:=hιg k _ e1
    rw[h]at e2;cases e2
    simp only[dn]
    cases k with
    |g k=>exact e1
    |l n=>
     simp only[G.back]
     split
     ·rename_i j hj
      split
      ·rename_i o' ho'
       have:=hl j o' ho'
       rw[q1X hj]at this
       exact absurd this hsk
      ·exact e1
     ·exact e1
 have pr:∀hm,q3L Γ' (Γ.back Γ' tip s ys d v L) (dn d) hm:=fun hm=>
  ⟨Hp.le_refl _,hιn,fun _ _ h=>h,fun k b p sz _ h=>⟨by rw[hκn b _ h];rfl,rfl⟩⟩
 have hp:s8 Γ (Γ.back Γ' tip s ys d v L):=by
  refine⟨gle.H,fun k x h=>?_,fun t x M h=>⟨x,M,?_,Nat.le_refl _,fun _=>rfl⟩,fun b sz h=>gle.σ b sz h⟩
  ·cases k with
   |g k=>exact h
   |l n=>
    simp only[G.back]
    split
    ·rename_i j hj
     split
     ·rename_i o ho
      have:=hιnew j (by rw[ho];simp)
      rw[q1X hj,h]at this;cases this
     ·exact h
    ·exact h
  ·simp only[G.back]
   split
   ·rename_i m hm
    split
    ·rename_i y hy
     have:=ht m y hy
     rw[q1X hm]at this
     have hk:=c.tdom t (by rw[h];simp)
     rw[this]at hk;cases hk
    ·exact h
   ·exact h
 have hobj':∀k,(s.back tip ys d v L).obj k=match z6 (dnL d L) k with|some o=>some o|none=>s.obj k:=by
  intro k
  unfold S.obj b6 S.back
  simp only[H2]
  cases z6 (dnL d L) k <;> rfl
 have hZn:∀b,Γ'.Z b=none→Γ.Z b=none:=by
  intro b h
  rw[gle.Z]at h
  cases hz:Γ.Z b with
  |none=>rfl
  |some o=>have:=hZ0 b (by rw[hz];simp);rw[h]at this;exact absurd rfl this
 have hιback:∀k,(S.fin v L s.up).obj k≠none→Γ'.ι k=none→(Γ.back Γ' tip s ys d v L).ι (dn d k)=none:=by
  intro k h hn
  have hι0:∀k',k= .g k'→Γ.ι k'=none:=by
   intro k' e
   subst e
   cases hx:Γ.ι k' with
   |none=>rfl
   |some x=>rw[hιg k' x hx]at hn;cases hn
  rw[hfin]at h
  cases k with
  |l j=>
   cases ho:z6 L (.l j)with
   |none=>simp[ho]at h
   |some o=>simp[G.back,dn,q3S,ho,hn]
  |g k=>
   have hsk:s.obj k≠none:=by
    cases ho:z6 L (.g k)with
    |none=>
     simp only[ho,S.up]at h
     intro e;rw[e]at h;simp at h
    |some o=>exact hg k o ho
   have h0:=hι0 k rfl
   cases k with
   |g k=>exact h0
   |l n=>
    show(match q2k d n with
     |some j=>match z6 L (.l j)with
      |some _=>Γ'.ι (.l j)
      |none=>Γ.ι (.l n)
     |none=>Γ.ι (.l n))=none
    split
    ·rename_i j hj
     split
     ·rename_i o' ho'
      exact absurd (q1X hj ▸ hl j o' ho') hsk
     ·exact h0
    ·exact h0
 have down:∀k o,(S.fin v L s.up).obj k=some o→((Γ.back Γ' tip s ys d v L).ι (dn d k)=none∧(o.ren (dn d)).q6B)∨Own (Γ.back Γ' tip s ys d v L) w' (dn d k) (o.ren (dn d)):=by
  intro k o h
  refine(c'.obj k o h).imp (fun h1=>⟨hιback k (by rw[h];simp) h1.1,O.z0W h1.2⟩) fun hown=>hown.ren (pr _) (fun hd b τ hb=>?_) (Nat.le_refl _)
  obtain⟨a1,a2,_⟩:=c'.W2 hb h hd
  exact⟨rfl,a1,hZn b a2⟩
 have hdead:∀k,(S.fin v L s.up).p9 k=true→(s.back tip ys d v L).p9 (dn d k)=true:=by
  intro k h
  unfold S.p9 at h ⊢
  rw[hfin]at h
  rw[hobj']
  cases ho:z6 L k with
  |some o=>
   rw[ho]at h
   rw[q5Q d hg hl k o ho rfl]
   show(o.ren _).X3=true
   rw[O.q5g];exact h
  |none=>
   rw[ho]at h
   cases k with
   |l n=>cases h
   |g k=>
    simp only[dn]
    cases hs:s.obj k with
    |none=>simp[S.up,hs,z2L]at h
    |some o=>
     have:z6 (dnL d L) k=none:=by
      cases hk:z6 (dnL d L) k with
      |none=>rfl
      |some o1=>
       obtain⟨j,_,e1,e2,_⟩:=q41 d hk
       cases j with
       |g j=>simp only[dn]at e1;subst e1;exact absurd ho e2
       |l j=>
        cases hj:z6 L (.l j)with
        |none=>exact absurd hj e2
        |some oj=>
         have:=hl j oj hj
         simp only[dn]at e1
         rw[e1,hs]at this;cases this
     rw[this]
     simp only[S.up,hs,Option.map_some,z2L]at h ⊢
     rw[O.q5g]at h;exact h
 refine⟨Γ.back Γ' tip s ys d v L,⟨gle.H,rfl,fun b h=>gle.ZH b (hZ0 b h),fun _ _ h=>h,rfl,rfl,fun b sz h=>gle.σ b sz h,fun _ h=>h⟩,hp,?_,hv.ren (pr none) hτn⟩
 refine⟨c'.hH,fun b o h=>?_,fun b o sz h=>?_,fun k o h=>?_,fun k h=>?_,fun k k' b τ τ' h1 h2=>?_,fun t M h=>?_,fun t h=>?_,fun g τ cc h=>?_,by rw[c'.hoo,gle.oo];rfl,c'.hσ⟩
 ·exact c'.hZ b o (by rw[gle.Z];simp[G.call,show Γ.Z b=some o from h])
 · -- rooms
  have other:∀x,Γ'.κ b=some x→x.2=sz→Γ.Z b=none∧Γ'.H b≠none∧∃arr T,w'.heap[b]? =some (.cells arr T (0,0))∧arr.size=sz∧z1t x.1 T:=by
   intro x hx e
   obtain⟨a1,a2,a3⟩:=c'.hκ b x.1 x.2 hx
   rw[e]at a3
   exact⟨hZn b a1,a2,a3⟩
  have bkc:∀{x},bk d (Γ'.κ b)=some x→x.2=sz→Γ.Z b=none∧Γ'.H b≠none∧∃arr T,w'.heap[b]? =some (.cells arr T (0,0))∧arr.size=sz∧z1t x.1 T:=by
   intro x hx e
   cases hk':Γ'.κ b with
   |none=>rw[hk']at hx;simp[bk]at hx
   |some y=>
    have hz:y.2=sz:=by
     obtain⟨o',sz'⟩:=y
     rw[hk']at hx
     cases o' <;> simp[bk]at hx <;> subst hx <;> exact e
    obtain⟨q1,q2,arr,T,q3,q4,q5⟩:=other y hk' hz
    refine⟨q1,q2,arr,T,q3,q4,?_⟩
    obtain⟨o',sz'⟩:=y
    rw[hk']at hx
    cases o' with
    |home _ p=>simp[bk]at hx;subst hx;cases p <;> exact q5
    |tok=>simp[bk]at hx;subst hx;trivial
  simp only[G.back]at h
  cases hk:Γ.κ b with
  |none=>simp only[hk]at h;exact bkc h rfl
  |some y=>
   obtain⟨o0,sz0⟩:=y
   cases o0 with
   |home=>simp only[hk]at h;exact bkc h rfl
   |tok t=>
    simp only[hk]at h
    cases hi:U7 tip s t 0 ys with
    |some i=>simp only[hi]at h;exact bkc h rfl
    |none=>
     simp[hi]at h
     obtain⟨rfl,rfl⟩:=h
     obtain⟨a1,a2,arr,T,a3,a4⟩:=c.hκ b _ _ hk
     have hz:=hZu b t sz0 hk hi
     have hH:Γ'.H b=Γ.H b:=gle.ZH b hz
     have hw:w'.heap[b]? =w.heap[b]?:=by
      have:Γ'.Z b=w.heap[b]?:=by rw[gle.Z];simp[G.call,a1,hk,hi]
      rw[a3]at this ⊢
      exact c'.hZ b _ this
     exact⟨a1,by show Γ'.H b≠none;rw[hH];exact a2,arr,T,by rw[hw];exact a3,a4⟩
 · -- objects
  rw[hobj']at h
  cases hk:z6 (dnL d L) k with
  |some o1=>
   rw[hk]at h;cases h
   obtain⟨j,_,e1,e2,_⟩:=q41 d hk
   cases hj:z6 L j with
   |none=>exact absurd hj e2
   |some oj=>
    have:=q5Q d hg hl j oj hj e1
    rw[hk]at this;cases this
    rw[←e1]
    exact down j oj (by rw[hfin,hj])
  |none=>
   rw[hk]at h
   have hLg:z6 L (.g k)=none:=by
    cases ho:z6 L (.g k)with
    |none=>rfl
    |some o0=>
     have this:z6 (dnL d L) k=_:=q5Q d hg hl (.g k) o0 ho rfl
     rw[hk]at this;cases this
   have:=down (.g k) (o.ren .g) (by rw[hfin,hLg];simp only[S.up,h];rfl)
   rwa [O.q61 .g (dn d) (fun _=>rfl)]at this
 · -- every handle's object is there
  rw[hobj']
  cases hk:z6 (dnL d L) k with
  |some o=>simp
  |none=>
   simp only
   cases k with
   |g k=>exact c.dom _ h
   |l n=>
    simp only[G.back]at h
    split at h
    ·rename_i j hj
     split at h
     ·rename_i o ho
      have:=q5Q d hg hl (.l j) o ho (by simp only[dn];rw[q1X hj])
      rw[hk]at this;cases this
     ·exact c.dom _ h
    ·exact c.dom _ h
 · -- blocks stay apart
  have key:∀k b τ,(Γ.back Γ' tip s ys d v L).ι k=some (b,τ)→(Γ.ι k=some (b,τ)∧Γ'.ι (.g k)=some (b,τ))∨∃j,k= .l (rk d j)∧Γ'.ι (.l j)=some (b,τ):=by
   intro k b τ h
   cases k with
   |g k=>exact .inl ⟨h,hιg _ _ h⟩
   |l n=>
    simp only[G.back]at h
    split at h
    ·rename_i j hj
     split at h
     ·exact .inr ⟨j,by rw[q1X hj],h⟩
     ·exact .inl ⟨h,hιg _ _ h⟩
    ·exact .inl ⟨h,hιg _ _ h⟩
  rcases key k b τ h1 with⟨e1,e2⟩|⟨j,e1,e2⟩ <;> rcases key k' b τ' h2 with⟨f1,f2⟩|⟨j',f1,f2⟩
  ·exact(c'.inj _ _ _ _ _ e2 f2).imp (fun e=>by cases e;rfl) (And.imp (Or.imp (hdead _) (hdead _)) id)
  ·subst f1;exact(c'.inj _ _ _ _ _ e2 f2).imp (fun e=>by cases e) (And.imp (Or.imp (hdead _) (hdead _)) id)
  ·subst e1;exact(c'.inj _ _ _ _ _ e2 f2).imp (fun e=>by cases e) (And.imp (Or.imp (hdead _) (hdead _)) id)
  ·subst e1;subst f1;exact(c'.inj _ _ _ _ _ e2 f2).imp (fun e=>by cases e;rfl) (And.imp (Or.imp (hdead _) (hdead _)) id)
 · -- live tokens
  simp only[S.back,S.live,F1,q0P,q7N]at h
  cases hr:q2k d t with
  |some m=>
   simp only[hr]at h
   cases hm:look (v.tkR 2000) m with
   |some y=>
    simp only[hm]at h
    cases y with
    |none=>simp at h
    |some M'=>
     simp at h;subst h
     obtain⟨x,a1,a2⟩:=c'.tok m M' (by unfold S.live F1;rw[show(S.fin v L s.up).tk=v.tkR 2000 from rfl,hm])
     refine⟨x,by simp[G.back,hr,hm,a1],fun b pos sz hx=>?_⟩
     obtain⟨a3,a4⟩:=a2 b pos sz hx
     refine⟨a3,?_⟩
     rw[hκn b _ a4]
     simp only[bk,q1X hr]
   |none=>
    simp only[hm]at h
    rw[q7O]at h
    by_cases hp':t∈c7 tip s ys
    ·simp[hp']at h
    ·simp only[hp',if_false]at h
     obtain⟨x,a1,a2⟩:=c.tok t M h
     refine⟨x,by simp[G.back,hr,hm,a1],fun b pos sz hx=>?_⟩
     obtain⟨⟨l,a3,a5⟩,a4⟩:=a2 b pos sz hx
     have hi:U7 tip s t 0 ys=none:=by
      cases hi:U7 tip s t 0 ys with
      |none=>rfl
      |some i=>obtain⟨k,y,_,h2,h3⟩:=q5n hi;exact absurd (q3r h2 h3) hp'
     have hH:Γ'.H b=Γ.H b:=gle.ZH b (hZu b t sz a4 hi)
     exact⟨⟨l,by show Γ'.H b=some l;rw[hH];exact a3,a5⟩,by simp[G.back,a4,hi]⟩
  |none=>
   simp only[hr]at h
   rw[q7O]at h
   by_cases hp':t∈c7 tip s ys
   ·simp[hp']at h
   ·simp only[hp',if_false]at h
    obtain⟨x,a1,a2⟩:=c.tok t M h
    refine⟨x,by simp[G.back,hr,a1],fun b pos sz hx=>?_⟩
    obtain⟨⟨l,a3,a5⟩,a4⟩:=a2 b pos sz hx
    have hi:U7 tip s t 0 ys=none:=by
     cases hi:U7 tip s t 0 ys with
     |none=>rfl
     |some i=>obtain⟨k,y,_,h2,h3⟩:=q5n hi;exact absurd (q3r h2 h3) hp'
    have hH:Γ'.H b=Γ.H b:=gle.ZH b (hZu b t sz a4 hi)
    exact⟨⟨l,by show Γ'.H b=some l;rw[hH];exact a3,a5⟩,by simp[G.back,a4,hi]⟩
 · -- known tokens
  simp only[S.back,S.known,q0P,q7N]
  have old:Γ.τ t≠none→(look s.tk t).isSome=true:=fun h=>c.tdom t h
  have oldk:Γ.τ t≠none→(match look (q2y (c7 tip s ys)) t with|some x=>some x|none=>look s.tk t).isSome=true:=by
   intro h
   cases hd:look (q2y (c7 tip s ys)) t with
   |some y=>rfl
   |none=>exact old h
  simp only[G.back]at h
  cases hr:q2k d t with
  |some m=>
   simp only[hr]at h
   simp only
   cases hm:look (v.tkR 2000) m with
   |some y=>rfl
   |none=>simp only[hm]at h;have:=oldk h;revert this;cases look (q2y (c7 tip s ys)) t <;> simp
  |none=>simp only[hr]at h;have:=oldk h;revert this;cases look (q2y (c7 tip s ys)) t <;> simp
 ·have h':(Γ.call w tip s ys).gl g=some (τ,cc):=h
  rw[←gle.gl]at h'
  exact c'.hgl g τ cc h'
end
end Go.E
namespace Go.E
open Go
def q0R (P:Program) (f:FuncId):Bool:=
 match P.funcs[f]? with
 |some fn=>fn.name != "runtime.NumGoroutine" &&fn.body.isSome
 |none=>false
section
variable {P:Program} {Γ:G} {w:World} {s:S}
theorem q8X {f:FuncId} (h:q0R P f=true) (args:Array Value) (w:World):(callFunc f args).run P w= .ok (.enter f args) w:=by
 unfold q0R at h
 cases hf:P.funcs[f]? with
 |none=>simp[hf]at h
 |some fn=>
  simp[hf]at h
  obtain⟨h1,h2⟩:=h
  cases hb:fn.body with
  |none=>simp[hb]at h2
  |some b=>simp[callFunc,hf,h1,hb]
theorem z5K {x:V} {v:Value} (h1:q8 Γ none [] x v.cells.toList) (h2:x8 v=x.ty.isAgg):q9 Γ x v:=by
 cases x <;> first|exact⟨h1,h2⟩|trivial|(simp only[q8]at h1)
theorem z7l:∀{xs:List V} {vs:List Value},y9 Γ xs vs→xs.length=vs.length∧∀(i:Nat) x v,xs[i]? =some x→vs[i]? =some v→q9 Γ x v
 | [],vs,h=>by simp only[y9]at h;subst h;simp
 |x::xs,vs,h=>by
  simp only[y9]at h
  obtain⟨v,vs',rfl,h2,h3,h4⟩:=h
  obtain⟨e1,e2⟩:=z7l h4
  refine⟨by simp[e1],fun i y u hy hu=>?_⟩
  cases i with
  |zero=>simp at hy hu;subst hy;subst hu;exact z5K h2 h3
  |succ i=>exact e2 i y u (by simpa using hy) (by simpa using hu)
theorem q9Q {f:FuncId} {caps:List V} {v:Value} (h:q9 Γ (.fn f caps) v):∃cv:Array Value,v= .func (.func f) #[] cv∧caps.length=cv.toList.length∧∀(i:Nat) x u,caps[i]? =some x→cv.toList[i]? =some u→q9 Γ x u:=by
 obtain⟨h1,_⟩:=(x9 rfl rfl).1 h
 simp only[q8]at h1
 obtain⟨cv,hv,hc⟩:=h1
 simp at hv
 obtain⟨e1,e2⟩:=z7l hc
 exact⟨cv,hv,e1,e2⟩
def Z1 (as:List V) (caps:List V):List V:=as++caps
def q3D (ts:List TypeId) (caps:List V):List TypeId:=ts++List.replicate caps.length 0
mutual
theorem V.z9g:∀(x:V),x.v8=true→(x.ren .g id).ok Q4 Q4=true
 | .sl _ _ _ _,h=>by simp[V.v8]at h
 | .agg _ vs,h| .fn _ vs,h| .tup vs,h=>by simp only[V.ren,V.ok];exact V.y0A vs (by simpa[V.v8]using h)
 | .ptr _ _ _,_| .mp _,_| .sr _ _ _ _ _ _ _,_| .d _ _,_| .ts _ _ _,_| .emp _ _,_| .nilc,_| .cptr _ _,_| .top _,_| .any,_=>by simp[V.ren,V.ok]
theorem V.y0A:∀(xs:List V),V.Q0 xs=true→V.oks Q4 Q4 (V.q0y .g id xs)=true
 | [],_=>rfl
 |x::xs,h=>by
  simp only[V.Q0,Bool.and_eq_true]at h
  simp only[V.q0y,V.oks,Bool.and_eq_true]
  exact⟨V.z9g x h.1,V.y0A xs h.2⟩
end
theorem z8m:∀(es:List (C × V)),(∀(i:Nat) (c:C × V),es[i]? =some c→c.2.v8=true)→V.q0m Q4 Q4 (es.map fun c=>(c.1,c.2.ren .g id))=true
 | [],_=>rfl
 |x::xs,h=>by
  simp only[List.map_cons,V.q0m,Bool.and_eq_true]
  exact⟨V.z9g _ (h 0 x rfl),z8m xs fun i c hc=>h (i+1) c (by simpa using hc)⟩
theorem z8.y4Z (c:z8 Γ w s):AOk s.up:=by
 intro k o h
 unfold S.up at h
 cases ho:s.obj k with
 |none=>simp[ho]at h
 |some o0=>
  simp only[ho,Option.map_some,Option.some.injEq]at h
  subst h
  rcases c.obj k o0 ho with⟨_,hv⟩|hown
  ·cases o0 with
   |box x=>obtain⟨e,rfl⟩:=hv;rfl
   |dead=>rfl
   |_=>exact hv.elim
  ·cases o0 with
   |box x=>
    obtain⟨b,cells,T,_,_,_,_,_,_,_,h8⟩:=hown
    exact V.z9g x h8
   |map kτ vτ es=>
    obtain⟨b,ms,clock,_,_,_,_,h5,h6,_⟩:=hown
    refine z8m es fun i cc hcc=>?_
    have hlt:i<ms.size:=by rw[h5];exact(List.getElem?_eq_some_iff.1 hcc).1
    exact(h6 i ms[i] cc (Array.getElem?_eq_getElem hlt) hcc).2.2.2.2.2.2
   |it=>rfl
   |dead=>rfl
theorem z8D {X:Cx} (hX:X.P=P) (hgl:Γ.gl=X.gl) (c:z8 Γ w s) {o:Oper} {a:Act} {fo:Operand} {f:FuncId} {caps:List V} {as:Array Operand} {ts:Array TypeId} {ρa:Operand→V} {tip:Bool} {A:Key→Option O} {v:V} {L:List (Key × O)} {d:Nat}
  (ho:o.op= .call {callee:=.value fo,args:=as,argTypes:=ts}) (hcal:q0R P f=true) (hts:ts.toList.length=as.toList.length)
  (hf:q9 Γ (.fn f caps) (a.eval fo)) (hr:∀y∈as.toList,q9 Γ (ρa y) (a.eval y)) (hnd:q0o (c7 tip s (Z1 (as.toList.map ρa) caps))=true)
  (D:Q3 X f (b8 P tip s (q3D ts.toList caps) (Z1 (as.toList.map ρa) caps)) A v L) (hA:∀k o,A k=some o→s.up k=some o)
  (hg:∀k o,z6 L (.g k)=some o→s.obj k≠none) (hl:∀j o,z6 L (.l j)=some o→s.obj (.l (rk d j))=none) (ht:∀m x,look (v.tkR 2000) m=some x→s.known (rk d m)=false):
  w4 P o a w (u2 Γ w (s.back tip (Z1 (as.toList.map ρa) caps) d v L) ((v.X7 2000).ren (dn d) (rk d))):=by
 subst hX
 obtain⟨cv,hfv,hcl,hcr⟩:=q9Q hf
 have run:(execOp a.eval o).run X.P w= .ok (.enter f (as.map a.eval++cv)) w:=by
  unfold execOp
  simp[ho,resolve,hfv,Deferred.ofValue,invoke,q8X hcal]
 have ha:z3P X.P Γ tip s (q3D ts.toList caps) (Z1 (as.toList.map ρa) caps) (as.map a.eval++cv).toList:=by
  refine⟨by simp[q3D,Z1]at hts ⊢;omega,by simp[Z1]at hcl ⊢;omega,fun i y u hy hu=>?_,hnd⟩
  simp only[Z1]at hy
  simp only[Array.toList_append,Array.toList_map]at hu
  by_cases hi:i<as.toList.length
  ·rw[List.getElem?_append_left (by simpa using hi)]at hy
   rw[List.getElem?_append_left (by simpa using hi)]at hu
   simp only[List.getElem?_map]at hy hu
   cases he:as.toList[i]? with
   |none=>simp[he]at hy
   |some z=>
    simp[he]at hy hu
    subst hy;subst hu
    exact hr z (List.mem_of_getElem? he)
  ·rw[List.getElem?_append_right (by simpa using hi)]at hy
   rw[List.getElem?_append_right (by simpa using hi)]at hu
   simp only[List.length_map]at hy hu
   exact hcr _ y u hy hu
 refine w4.enter run ?_
 have cc:=c.call ha
 refine(D s.up (Γ.call w tip s _) w (as.map a.eval++cv) hA hgl ⟨cc,c.y4Z⟩ ?_ fun i x u hx hu=>?_).mono ?_
 ·rw[q5a ha.len,ha.len2];simp
 ·rw[q4F]at hx
  cases hz:(b8 X.P tip s (q3D ts.toList caps) (Z1 (as.toList.map ρa) caps))[i]? with
  |none=>simp[hz]at hx
  |some z=>
   simp[hz]at hx
   subst hx
   obtain⟨T,y,_,hy,rfl⟩:=q5m hz
   have hu':(as.map a.eval++cv).toList[i]? =some u:=by rw[Array.getElem?_toList];exact hu
   exact y1t c ha hy (ha.rep i y u hy hu')
 ·rintro e w' ⟨u,Γ',rfl,gle,c',hv⟩
  exact⟨u,rfl,c.back ha gle c' hg hl ht hv⟩
end
end Go.E
namespace Go.E
open Go
noncomputable def q0t {α:Type}:List (C × α)→C→Option α
 | [],_=>none
 |(k,v)::es,c=>if C.eqb c k=true then some v else q0t es c
noncomputable def q0O {α:Type}:List (C × α)→C→α→List (C × α)
 | [],c,v=>[(c,v)]
 |(k,u)::es,c,v=>if C.eqb c k=true then(k,v)::es else(k,u)::q0O es c v
noncomputable def X4 {α:Type}:List (C × α)→C→Nat→Option Nat
 | [],_,_=>none
 |(k,_)::es,c,i=>if C.eqb c k=true then some i else X4 es c (i+1)
def q3X (P:Program) (T:TypeId):Option (TypeId × TypeId):=match P.underlying T with
 |some (.map k e)=>some (k,e)
 |_=>none
section
variable {P:Program}
theorem q2W (hP:x4 P=true) (em:Bool):∀(f d:Nat) (T:TypeId),q0X P f T=true→f≤d→∀(H:Hp) (a:Value) (c:C) (w:World),z7 H (tyF P f T) a.cells.toList c→x8 a=(tyF P f T).isAgg→(Instr.checkKey em d T a).run P w= .ok () w
 |0,_,_,h,_=>by simp[q0X]at h
 |f+1,0,_,_,hd=>by omega
 |f+1,d+1,T,h,hd=>by
  intro H a c w ra ha
  simp only[q0X,Bool.and_eq_true,decide_eq_true_eq]at h
  obtain⟨hT,h⟩:=h
  have ho:=q15 hP hT
  unfold okT at ho
  unfold tyF at ra ha
  rw[if_pos hT]at ra ha
  cases hu:P.underlying T with
  |none=>simp[hu]at h
  |some kd=>
   cases kd <;> simp only[hu,Bool.false_eq_true]at h ra ha ho
   case bool=>simp[Instr.checkKey,run_underlying hu]
   case int k=>simp[Instr.checkKey,run_underlying hu]
   case string=>simp[Instr.checkKey,run_underlying hu]
   case array n E=>
    simp[Ty.isAgg]at ha
    cases a <;> simp[x8]at ha
    rename_i xs
    simp only[Value.cells]at ra
    simp at ho
    obtain⟨i,hi⟩:∃i,P.info? E=some i:=by
     cases hi:P.info? E with
     |none=>simp[Tables.info?,ho.2]at hi
     |some i=>exact⟨i,rfl⟩
    rw[Instr.checkKey]
    simp only[Sem.run_bind,run_underlying hu,Result.andThen_ok]
    simp only[Std.Legacy.Range.forIn_eq_forIn_range',Std.Legacy.Range.size,Nat.sub_zero,Nat.add_one_sub_one,Nat.div_one]
    have each:∀j∈List.range' 0 n,j<n:=fun j hj=>by simp[List.mem_range']at hj;omega
    generalize List.range' 0 n=is at each
    induction is with
    |nil=>simp
    |cons j is ih=>
     obtain⟨g,rfl,hE,hk⟩:=q4x h
     have hin:=each j (by simp)
     have hch:(Ty.arr n (tyF P (g+1) E)).child j=some (j*(tyF P (g+1) E).size,tyF P (g+1) E):=by simp only[Ty.child];rw[if_pos hin]
     obtain⟨_,b1,r1⟩:=ra.get hch
     obtain⟨u,p1,p2,p3⟩:=q1W (f:=g) hP hE rfl hk (by simpa using b1) ra.one w
     have q:=q2W hP em (g+1) d E h (by omega) H u _ w (p2 ▸ r1) p3
     rw[j3 hP]at p1
     have hsz:(sizeOf E).run P w= .ok (P.cellsOf E) w:=by
      have:=J9 (f:=g+1) hP (w:=w) hE
      rwa [j3 hP]at this
     simp only[List.forIn_cons,Sem.run_bind,hsz,Result.andThen_ok,p1,q,Sem.run_pure]
     exact ih (fun y hy=>each y (by simp[hy]))
   case struct fs=>
    simp[Ty.isAgg]at ha
    cases a <;> simp[x8]at ha
    rename_i xs
    simp only[Value.cells]at ra
    simp only[z7]at ra
    obtain⟨cs,rfl,_,o1,f1⟩:=ra
    simp only[Bool.and_eq_true,Bool.not_eq_true',List.all_eq_true,bne_iff_ne,ne_eq]at h
    rw[Instr.checkKey]
    simp only[Sem.run_bind,run_underlying hu,Result.andThen_ok]
    rw[←Array.forIn_toList]
    have hall:=h.2
    generalize fs.toList=L at f1 hall
    induction L generalizing cs with
    |nil=>simp
    |cons g L ih=>
     simp only[List.map_cons,s7]at f1
     obtain⟨c,cs,rfl,b1,r1,f1⟩:=f1
     obtain⟨hn,hok⟩:=hall g (by simp)
     obtain⟨f',rfl,hE,hk⟩:=q4x hok
     obtain⟨u,p1,p2,p3⟩:=q1W (f:=f') hP hE rfl hk (by simpa using b1) o1 w
     have q:=q2W hP em (f'+1) d g.type hok (by omega) H u _ w (p2 ▸ r1) p3
     simp only[List.forIn_cons,Sem.run_bind,hn,ne_eq,not_false_eq_true,if_true,Result.andThen_ok,p1,q,Sem.run_pure]
     exact ih cs f1 (fun y hy=>hall y (by simp[hy]))
def q3K (H:Hp) (kτ:Ty) {α:Type}:List MapEntry→List (C × α)→Prop
 | [],[]=>True
 |m::ms,c::cs=>z7 H kτ m.key.cells.toList c.1∧x8 m.key=kτ.isAgg∧q3K H kτ ms cs
 |_,_=>False
theorem q4G (hP:x4 P=true) {kt:TypeId} (hok:q0a P kt=true) {H:Hp} {k:Value} {c:C} (rk:z7 H (ty P kt) k.cells.toList c) (hk:x8 k=(ty P kt).isAgg) (w:World) {α:Type}:
  ∀(ms:List MapEntry) (cs:List (C × α)) (i:Nat),q3K H (ty P kt) ms cs→(Instr.findAsking kt k ms i).run P w= .ok ((X4 cs c i).bind fun j=>(ms[j-i]?).map fun m=>(j,m.val)) w
 | [],[],i,_=>by simp[Instr.findAsking,X4]
 |m::ms,(c1,v1)::cs,i,h=>by
  simp only[q3K]at h
  have he:=q8m hP hok w rk hk h.1 h.2.1
  have ih:=q4G hP hok rk hk w ms cs (i+1) h.2.2
  simp only[Instr.findAsking,Sem.run_bind,he,Result.andThen_ok,X4]
  cases hc:C.eqb c c1 with
  |true=>simp
  |false=>
   simp only[Bool.false_eq_true,if_false,ih]
   cases hf:X4 cs c (i+1)with
   |none=>rfl
   |some j=>
    have hj:i+1≤j:=by
     have:∀(cs:List (C × α)) (i j:Nat),X4 cs c i=some j→i≤j:=by
      intro cs
      induction cs with
      |nil=>intro i j h;simp[X4]at h
      |cons x cs ih=>
       intro i j h
       obtain⟨a,b⟩:=x
       simp only[X4]at h
       split at h
       ·cases h;exact Nat.le_refl _
       ·have:=ih _ _ h;omega
     exact this cs _ _ hf
    simp only[Option.bind_some]
    rw[show j-i=(j-(i+1))+1 by omega,List.getElem?_cons_succ]
 | [],_::_,_,h=>by simp[q3K]at h
 |_::_,[],_,h=>by simp[q3K]at h
theorem z7B (hP:x4 P=true) {kt:TypeId} (hok:q0a P kt=true) {H:Hp} {d:TypeDesc} (hd:P.underlying kt=some d) {k k':Value} {c c':C} (rk:z7 H (ty P kt) k.cells.toList c) (hk:x8 k=(ty P kt).isAgg)
  (rk':z7 H (ty P kt) k'.cells.toList c') (hk':x8 k'=(ty P kt).isAgg):Instr.sameNow d k k'=none∨Instr.sameNow d k k'=some (C.eqb c c'):=by
 unfold q0a at hok
 simp only[Bool.and_eq_true]at hok
 have h:=hok.1
 simp only[q0X,Bool.and_eq_true,decide_eq_true_eq]at h
 obtain⟨hT,h⟩:=h
 unfold ty tyF at rk hk rk' hk'
 rw[if_pos hT]at rk hk rk' hk'
 cases d <;> simp only[hd,Bool.false_eq_true]at h rk hk rk' hk'
 case bool=>
  rw[x5 (by simpa[Ty.isAgg]using hk)]at rk
  rw[x5 (by simpa[Ty.isAgg]using hk')]at rk'
  simp only[z7]at rk rk'
  obtain⟨x,rfl,e1⟩:=rk
  obtain⟨y,rfl,e2⟩:=rk'
  simp at e1 e2;subst e1;subst e2
  right;simp[Instr.sameNow,C.z6U]
 case int kk=>
  rw[x5 (by simpa[Ty.isAgg]using hk)]at rk
  rw[x5 (by simpa[Ty.isAgg]using hk')]at rk'
  simp only[z7]at rk rk'
  obtain⟨x,rfl,e1,_⟩:=rk
  obtain⟨y,rfl,e2,_⟩:=rk'
  simp at e1 e2;subst e1;subst e2
  right;simp[Instr.sameNow,C.z8y]
 case string=>
  rw[x5 (by simpa[Ty.isAgg]using hk)]at rk
  rw[x5 (by simpa[Ty.isAgg]using hk')]at rk'
  simp only[z7]at rk rk'
  obtain⟨x,rfl,e1,_⟩:=rk
  obtain⟨y,rfl,e2,_⟩:=rk'
  simp at e1 e2;subst e1;subst e2
  right;simp[Instr.sameNow,C.z8x,beq_toListBytes,ByteArray.toList_eq]
 all_goals (left;rfl)
theorem z0R (hP:x4 P=true) {kt:TypeId} (hok:q0a P kt=true) {H:Hp} {d:TypeDesc} (hd:P.underlying kt=some d) {k:Value} {c:C} (rk:z7 H (ty P kt) k.cells.toList c) (hk:x8 k=(ty P kt).isAgg) {α:Type}:
  ∀(ms:List MapEntry) (cs:List (C × α)) (i:Nat),q3K H (ty P kt) ms cs→Instr.findNow d k ms i=none∨Instr.findNow d k ms i=some ((X4 cs c i).bind fun j=>(ms[j-i]?).map fun m=>(j,m.val))
 | [],[],i,_=>by right;simp[Instr.findNow,X4]
 |m::ms,(c1,v1)::cs,i,h=>by
  simp only[q3K]at h
  simp only[Instr.findNow]
  rcases z7B hP hok hd rk hk h.1 h.2.1 with he|he
  ·rw[he];exact .inl rfl
  ·rw[he]
   simp only[X4]
   cases hc:C.eqb c c1 with
   |true=>right;simp
   |false=>
    simp only[Bool.false_eq_true,if_false]
    rcases z0R hP hok hd rk hk ms cs (i+1) h.2.2 with ih|ih
    ·exact .inl ih
    ·right
     rw[ih]
     cases hf:X4 cs c (i+1)with
     |none=>rfl
     |some j=>
      have hj:i+1≤j:=by
       have:∀(cs:List (C × α)) (i j:Nat),X4 cs c i=some j→i≤j:=by
        intro cs
        induction cs with
        |nil=>intro i j h;simp[X4]at h
        |cons x cs ih=>
         intro i j h
         obtain⟨a,b⟩:=x
         simp only[X4]at h
         split at h
         ·cases h;exact Nat.le_refl _
         ·have:=ih _ _ h;omega
       exact this cs _ _ hf
      simp only[Option.bind_some]
      rw[show j-i=(j-(i+1))+1 by omega,List.getElem?_cons_succ]
 | [],_::_,_,h=>by simp[q3K]at h
 |_::_,[],_,h=>by simp[q3K]at h
theorem z1J (hP:x4 P=true) {kt:TypeId} (hok:q0a P kt=true) {H:Hp} {k:Value} {c:C} (rk:z7 H (ty P kt) k.cells.toList c) (hk:x8 k=(ty P kt).isAgg) (w:World) {α:Type} {ms:List MapEntry} {cs:List (C × α)} (h:q3K H (ty P kt) ms cs):
  (Instr.findKey kt k ms).run P w= .ok ((X4 cs c 0).bind fun j=>(ms[j]?).map fun m=>(j,m.val)) w:=by
 obtain⟨d,hd⟩:∃d,P.underlying kt=some d:=by
  cases hu:P.underlying kt with
  |some d=>exact⟨d,rfl⟩
  |none=>unfold q0a at hok;simp[q0X,hu]at hok
 simp only[Instr.findKey,Sem.run_bind,run_underlying hd,Result.andThen_ok]
 rcases z0R hP hok hd rk hk ms cs 0 h with e|e
 ·rw[e]
  simp only
  exact q4G hP hok rk hk w ms cs 0 h
 ·rw[e]
  simp only[Sem.run_pure,Nat.sub_zero]
end
end Go.E
namespace Go.E
open Go
def Ty.flat:Ty→Bool
 | .int _| .bool| .str=>true
 | .arr _ e=>e.flat
 |_=>false
def q6X:Value→Bool
 | .int _ _| .bool _| .string _=>true
 |_=>false
theorem z5L {H H':Hp}:∀{τ:Ty} {vs vs':List Value} {c:C},τ.flat=true→z7 H τ vs c→z7 H' τ vs' c→vs=vs'
 | .int k,vs,vs',c,_,h,h'=>by
  simp only[z7]at h h'
  obtain⟨n,rfl,rfl,_⟩:=h
  obtain⟨m,e,rfl,_⟩:=h'
  cases e;rfl
 | .bool,vs,vs',c,_,h,h'=>by
  simp only[z7]at h h'
  obtain⟨n,rfl,rfl⟩:=h
  obtain⟨m,e,rfl⟩:=h'
  cases e;rfl
 | .str,vs,vs',c,_,h,h'=>by
  simp only[z7]at h h'
  obtain⟨n,rfl,rfl,_⟩:=h
  obtain⟨m,e,rfl,_⟩:=h'
  cases e;rfl
 | .arr n e,vs,vs',c,hf,h,h'=>by
  simp only[z7]at h h'
  obtain⟨cs,rfl,h1,h2,_,h3⟩:=h
  obtain⟨cs',e',h1',h2',_,h3'⟩:=h'
  cases e'
  refine List.ext_getElem? fun j=>?_
  by_cases hj:j<n*e.size
  ·have hs:0<e.size:=by
    rcases Nat.eq_zero_or_pos e.size with h|h
    ·rw[h,Nat.mul_zero]at hj;omega
    ·exact h
   have hi:j / e.size<cs.length:=by rw[h1];exact(Nat.div_lt_iff_lt_mul hs).2 hj
   have hdm:=Nat.div_add_mod j e.size
   have hmod:=Nat.mod_lt j hs
   have heq:=z5L (τ:=e) hf (h3 _ _ (List.getElem?_eq_getElem hi)) (h3' _ _ (List.getElem?_eq_getElem hi))
   have:=congrArg (fun l:List Value=>l[j%e.size]?) heq
   simp only[w5,if_pos hmod]at this
   rw[Nat.mul_comm,hdm]at this
   exact this
  ·rw[List.getElem?_eq_none (by omega),List.getElem?_eq_none (by omega)]
 | .slice _ _,_,_,_,hf,_,_| .struct _ _ _,_,_,_,hf,_,_| .ptr,_,_,_,hf,_,_| .map,_,_,_,hf,_,_| .func,_,_,_,hf,_,_| .iface,_,_,_,hf,_,_| .opq _,_,_,_,hf,_,_=>by simp[Ty.flat]at hf
theorem q6E {H:Hp}:∀{τ:Ty} {vs:List Value} {c:C},τ.flat=true→z7 H τ vs c→∀v∈vs,q6X v=true
 | .int k,vs,c,_,h=>by
  simp only[z7]at h
  obtain⟨n,rfl,rfl,_⟩:=h
  intro v hv;simp at hv;subst hv;rfl
 | .bool,vs,c,_,h=>by
  simp only[z7]at h
  obtain⟨n,rfl,rfl⟩:=h
  intro v hv;simp at hv;subst hv;rfl
 | .str,vs,c,_,h=>by
  simp only[z7]at h
  obtain⟨n,rfl,rfl,_⟩:=h
  intro v hv;simp at hv;subst hv;rfl
 | .arr n e,vs,c,hf,h=>by
  simp only[z7]at h
  obtain⟨cs,rfl,h1,h2,_,h3⟩:=h
  intro v hv
  obtain⟨j,hj⟩:=List.getElem?_of_mem hv
  have hjl:j<n*e.size:=by rw[←h2];exact(List.getElem?_eq_some_iff.1 hj).1
  have hs:0<e.size:=by
   rcases Nat.eq_zero_or_pos e.size with h|h
   ·rw[h,Nat.mul_zero]at hjl;omega
   ·exact h
  have hi:j / e.size<cs.length:=by rw[h1];exact(Nat.div_lt_iff_lt_mul hs).2 hjl
  have hdm:=Nat.div_add_mod j e.size
  have hmod:=Nat.mod_lt j hs
  refine q6E (τ:=e) hf (h3 _ _ (List.getElem?_eq_getElem hi)) v (List.mem_of_getElem? (i:=j%e.size) ?_)
  rw[w5,if_pos hmod,Nat.mul_comm,hdm];exact hj
 | .slice _ _,_,_,hf,_| .struct _ _ _,_,_,hf,_| .ptr,_,_,hf,_| .map,_,_,hf,_| .func,_,_,hf,_| .iface,_,_,hf,_| .opq _,_,_,hf,_=>by simp[Ty.flat]at hf
theorem q6d {n:Nat} {v:Value} (h:q6X v=true):Instr.sameBits n v v=true:=by
 cases v <;> simp[q6X]at h <;> cases n <;> simp[Instr.sameBits,beq_toListBytes]
theorem y1z (l:List Value):l.zip l=l.map fun x=>(x,x):=by
 induction l with
 |nil=>rfl
 |cons x l ih=>simp[ih]
theorem sameBits_self {n:Nat} {v:Value} (h:∀u∈v.cells.toList,q6X u=true) (hv:x8 v=false→q6X v=true):Instr.sameBits (n+1) v v=true:=by
 cases v
 case agg a=>
  simp only[Value.cells]at h
  simp only[Instr.sameBits,beq_self_eq_true,Bool.true_and,y1z,List.all_map,List.all_eq_true,Function.comp]
  exact fun u hu=>q6d (h u hu)
 all_goals exact q6d (hv rfl)
theorem z5v {u v:Value} (h:u.cells.toList=v.cells.toList) (h':x8 u=x8 v):u=v:=by
 cases hu:x8 u with
 |false=>
  rw[x5 hu,x5 (h' ▸ hu)]at h
  simpa using h
 |true=>
  rw[hu]at h'
  cases u <;> simp[x8]at hu
  cases v <;> simp[x8]at h'
  simp only[Value.cells]at h
  rw[Array.toList_inj.1 h]
section
variable {P:Program} {Γ:G} {w:World} {s:S}
theorem q3K.of {H:Hp} {kτ:Ty} {α:Type}:∀{ms:List MapEntry} {cs:List (C × α)},ms.length=cs.length→(∀(i:Nat) (m:MapEntry) (c:C × α),ms[i]? =some m→cs[i]? =some c→z7 H kτ m.key.cells.toList c.1∧x8 m.key=kτ.isAgg)→q3K H kτ ms cs
 | [],[],_,_=>trivial
 |m::ms,c::cs,hl,h=>by
  obtain⟨h1,h2⟩:=h 0 m c rfl rfl
  exact⟨h1,h2,q3K.of (by simpa using hl) fun i m c hm hc=>h (i+1) m c (by simpa using hm) (by simpa using hc)⟩
 | [],_::_,hl,_=>by simp at hl
 |_::_,[],hl,_=>by simp at hl
theorem q6K {α:Type}:∀(cs:List (C × α)) (c:C) (i:Nat),match X4 cs c i with
  |some j=>i≤j∧∃v,cs[j-i]? =some (c,v)∧q0t cs c=some v∧∀v',q0O cs c v'=cs.set (j-i) (c,v')
  |none=>q0t cs c=none∧∀v',q0O cs c v'=cs++[(c,v')]
 | [],_,_=>by simp[X4,q0t,q0O]
 |(k,v)::cs,c,i=>by
  simp only[X4,q0t,q0O]
  by_cases h:C.eqb c k=true
  ·rw[if_pos h]
   have:=C.J6.1 h
   subst this
   simp[h]
  ·rw[if_neg h]
   have ih:=q6K cs c (i+1)
   split at ih
   ·rename_i j hj
    obtain⟨h1,v',h2,h3,h4⟩:=ih
    rw[if_neg h]
    refine⟨by omega,v',?_,h3,fun u=>?_⟩
    ·rw[show j-i=(j-(i+1))+1 by omega,List.getElem?_cons_succ];exact h2
    ·rw[if_neg h,h4 u,show j-i=(j-(i+1))+1 by omega,List.set_cons_succ]
   ·rename_i hj
    rw[if_neg h]
    exact⟨ih.1,fun u=>by rw[if_neg h,ih.2 u];rfl⟩
theorem q4N {T kt et:TypeId} (h:q3X P T=some (kt,et)):P.underlying T=some (.map kt et):=by
 unfold q3X at h
 split at h
 ·rename_i hu;cases h;exact hu
 ·cases h
theorem q60 {k:Key} {v:Value} (h:q9 Γ (.mp k) v):∃b,Γ.ι k=some (b,.map)∧v= .map (some b):=by
 obtain⟨h1,h2⟩:=(y8 rfl).1 h
 rw[x5 (by simpa[V.ty,Ty.isAgg]using h2)]at h1
 simp only[q8]at h1
 obtain⟨b,h1,h3⟩:=h1
 exact⟨b,h1,by simpa using h3⟩
theorem z5G (hP:x4 P=true) (c:z8 Γ w s) {k:Key} {kt:TypeId} {vτ:Ty} {es:List (C × V)} {key:Value} {cc:C} (hobj:s.obj k=some (.map (ty P kt) vτ es)) (hok:q0a P kt=true)
  (hk:q9 Γ (.d (ty P kt) cc) key) {b:Nat} (hι:Γ.ι k=some (b,.map)):∃ms clock,w.heap[b]? =some (.map ms clock)∧(∀em,(Instr.checkKey em 10000 kt key).run P w= .ok () w)∧
   (Instr.findKey kt key ms.toList).run P w= .ok ((X4 es cc 0).bind fun j=>(ms.toList[j]?).map fun m=>(j,m.val)) w:=by
 obtain⟨b',ms,clock,e1,_,_,e4,e5,e6,_⟩:=c.own (by assumption) hobj
 rw[hι]at e1;cases e1
 obtain⟨r1,r2⟩:=Q2.1 hk
 have hok':=hok
 unfold q0a at hok'
 simp only[Bool.and_eq_true]at hok'
 refine⟨ms,clock,e4,fun em=>q2W hP em 12 10000 kt hok'.1 (by decide) Γ.H key cc w r1 r2,?_⟩
 exact z1J hP hok r1 r2 w (q3K.of (by simpa using e5) fun i m c hm hc=>⟨(e6 i m c (by simpa using hm) hc).1,(e6 i m c (by simpa using hm) hc).2.1⟩)
theorem z9R (c:z8 Γ w s) {o:Oper} {a:Act} {T:TypeId} {n:Nat} {kτ vτ:Ty} (ho:o.op= .makeMap T none) (hn:s.obj (.l n)=none):
  w4 P o a w (u2 Γ w {s with loc:=(.l n,.map kτ vτ [])::s.loc} (.mp (.l n))):=by
 obtain⟨h1,h2,h3⟩:=c.addKey hn (Ext.alloc w (.map #[] 0)) (τ:=.map) (o:=.map kτ vτ []) fun Γ' hpr _ hι hH hZ=>⟨w.heap.size,#[],0,hι,hH,hZ,heap_alloc_new w _,rfl,fun i m c hm=>by simp at hm,fun i m hm=>by simp at hm,fun i j m m' hm=>by simp at hm⟩
 refine w4.val (v:=.map (some w.heap.size)) (w':=w.alloc (.map #[] 0)) ?_ ⟨_,h3,h2,h1,?_⟩
 ·unfold execOp
  have hr:(Instr.makeMap T none).run P w= .ok (.map (some w.heap.size)) (w.alloc (.map #[] 0)):=rfl
  simp[ho,hr]
 ·refine(y8 rfl).2 ⟨?_,by simp[V.ty,Ty.isAgg,x8]⟩
  simp only[q8]
  exact⟨w.heap.size,by simp[G.addKey,q0d],by simp[Value.cells]⟩
noncomputable def q2q (P:Program) (et:TypeId) (es:List (C × V)) (c:C):V:=(q0t es c).getD (o9 (ty P et))
theorem y1e (hP:x4 P=true) (c:z8 Γ w s) {o:Oper} {a:Act} {T kt et:TypeId} {x i:Operand} {commaOk:Bool} {k:Key} {vτ:Ty} {es:List (C × V)} {cc:C}
  (ho:o.op= .lookup T x i commaOk) (hT:q3X P T=some (kt,et)) (hx:q9 Γ (.mp k) (a.eval x)) (hi:q9 Γ (.d (ty P kt) cc) (a.eval i)) (hobj:s.obj k=some (.map (ty P kt) vτ es)) (hok:q0a P kt=true) (hz:Q9 P et=true):
  w4 P o a w (u2 Γ w s (if commaOk then .tup [q2q P et es cc,.d .bool (.bool (q0t es cc).isSome)]else q2q P et es cc)):=by
 obtain⟨b,hι,hxv⟩:=q60 hx
 obtain⟨ms,clock,hb,hck,hfk⟩:=z5G hP c hobj hok hi hι
 obtain⟨z,hzr,hzo,hza⟩:=z5E hz
 have hfl:=q6K es cc 0
 obtain⟨b',ms',clock',e1,_,_,e4,e5,e6,_⟩:=c.own (by assumption) hobj
 rw[hι]at e1;cases e1
 rw[hb]at e4;cases e4
 obtain⟨v,ok,hrv,hok2,hrun⟩:∃v ok,(q9 Γ (q2q P et es cc) v∧(q2q P et es cc).plain=true)∧ok=(q0t es cc).isSome∧(Instr.lookup T (a.eval x) (a.eval i) commaOk).run P w= .ok (if commaOk then .tuple #[v,.bool ok]else v) w:=by
  cases hf:X4 es cc 0 with
  |none=>
   rw[hf]at hfl hfk
   simp only at hfl
   refine⟨z,false,⟨?_,?_⟩,by rw[hfl.1];rfl,?_⟩
   ·simp only[q2q,hfl.1,Option.getD_none]
    exact(y8 (q4f _)).2 ⟨q6a (ty P et) hzo,by rw[q2S];exact hza⟩
   ·simp only[q2q,hfl.1,Option.getD_none];exact q4f _
   ·simp[Instr.lookup,hxv,run_underlying (q4N hT),MapKept.run_getObj_map hb,hck,hfk,hzr]
  |some j=>
   rw[hf]at hfl hfk
   simp only[Nat.sub_zero]at hfl
   obtain⟨_,v0,h2,h3,_⟩:=hfl
   obtain⟨m,hm⟩:∃m,ms[j]? =some m:=by
    have:j<ms.size:=by rw[e5];exact(List.getElem?_eq_some_iff.1 h2).1
    exact⟨_,Array.getElem?_eq_getElem this⟩
   obtain⟨_,_,q3,q4,q5,q6,q7⟩:=e6 j m _ hm h2
   simp only at q3 q4 q5 q6
   refine⟨m.val,true,⟨?_,?_⟩,by rw[h3];rfl,?_⟩
   ·simp only[q2q,h3,Option.getD_some]
    exact(y8 q6).2 ⟨q3,by rw[q4,q5]⟩
   ·simp only[q2q,h3,Option.getD_some];exact q6
   ·have hm':ms.toList[j]? =some m:=by simpa using hm
    rw[Option.bind_some,hm']at hfk
    simp[Instr.lookup,hxv,run_underlying (q4N hT),MapKept.run_getObj_map hb,hck,hfk]
 refine w4.val (v:=if commaOk then .tuple #[v,.bool ok]else v) (w':=w) (by unfold execOp;simp[ho,hrun]) (u2.same c ?_)
 cases commaOk with
 |false=>exact hrv.1
 |true=>
  refine⟨#[v,.bool ok],rfl,?_⟩
  refine q5f (by simp) fun i x u hx hu=>?_
  match i with
  |0=>simp at hx hu;subst hx;subst hu;exact⟨hrv.2,hrv.1⟩
  |1=>simp at hx hu;subst hx;subst hu;subst hok2;exact⟨rfl,w6⟩
  |i+2=>simp at hx
theorem y3x {w w':World} {b:Nat} (hlt:b<w'.heap.size) (oth:∀b',b'≠b→w'.heap[b']? =w.heap[b']?):w.heap.size≤w'.heap.size:=
 q8T (o:=w'.heap[b]) (by simp[hlt]) oth
theorem z8.y0h (c:z8 Γ w s) {w':World} {k:Key} {o0 o1:O} {b:Nat} {τk:Ty}
  (ho:s.obj k=some o0) (hd0:o0.X3=false) (hι:Γ.ι k=some (b,τk)) (hnc:∀arr T fr,w.heap[b]?≠some (.cells arr T fr)) (hlt':b<w'.heap.size) (hsame:∀b',b'≠b→w'.heap[b']? =w.heap[b']?) (hoo:oof w'=oof w) (hown:Γ.H b=none→Γ.Z b=none→Own Γ w' k o1):
  z8 Γ w' {s with loc:=(k,o1)::s.loc}:=by
 obtain⟨hH,hZ,hlt,e2⟩:=c.W2 hι ho hd0
 refine c.change (.refl Γ) rfl rfl rfl hoo (fun b' l h=>?_) (fun b' h=>hsame b' (fun e=>by subst e;exact h hZ)) (fun b' o sz h=>?_) (fun j o h=>?_) (fun _ h _=>h) (fun j h=>?_) (fun b' sz h=>?_) (c.q45 (q2z fun h=>by rw[c6 ho,hd0]at h;cases h)) c.tok c.tdom (y3x hlt' hsame)
 ·rw[hsame b' (fun e=>by subst e;rw[hH]at h;cases h)];exact c.hH b' l h
 ·obtain⟨a1,a2,a3⟩:=c.hκ b' o sz h
  rw[hsame b' (fun e=>by subst e;exact a2 hH)];exact⟨a1,a2,a3⟩
 ·rw[u3]at h
  split at h
  ·rename_i e
   subst e;cases h
   exact .inr (hown hH hZ)
  ·rename_i e
   refine .inl ⟨h,fun hd=>⟨fun _ _ _ _=>⟨rfl,rfl⟩,fun b' τ' hb=>?_⟩⟩
   obtain⟨a1,a2,a3,_⟩:=c.W2 hb h hd
   refine⟨hsame b' (fun e'=>?_),a1⟩
   subst e'
   exact e (c.z9w hι hb (by rw[c6 ho];exact hd0) (by rw[c6 h];exact hd))
 ·rw[u3]
  split
  ·simp
  ·exact c.dom j h
 ·obtain⟨arr,T1,fr,a1,a2⟩:=c.hσ b' sz h
  by_cases e:b'=b
  ·subst e;exact absurd a1 (hnc _ _ _)
  ·exact⟨arr,T1,fr,by rw[hsame b' e];exact a1,a2⟩
theorem q7j (w:World) (b b':Nat) (o:Obj) (h:b'≠b):({w with heap:=w.heap.setIfInBounds b o}:World).heap[b']? =w.heap[b']?:=by
 simp only[Array.getElem?_setIfInBounds_ne (fun e=>h e.symm)]
theorem q2R (w:World) {b:Nat} {o o':Obj} (h:w.heap[b]? =some o'):({w with heap:=w.heap.setIfInBounds b o}:World).heap[b]? =some o:=by
 have:=(Array.getElem?_eq_some_iff.1 h).1
 simp[this]
theorem z67 (hP:x4 P=true) (c:z8 Γ w s) {o:Oper} {a:Act} {T kt et:TypeId} {x i y:Operand} {k:Key} {es:List (C × V)} {cc:C} {Y:V}
  (ho:o.op= .mapUpdate T x i y) (hT:q3X P T=some (kt,et)) (hx:q9 Γ (.mp k) (a.eval x)) (hi:q9 Γ (.d (ty P kt) cc) (a.eval i)) (hy:q9 Γ Y (a.eval y)) (hobj:s.obj k=some (.map (ty P kt) (ty P et) es)) (hok:q0a P kt=true) (hfl:(ty P kt).flat=true)
  (h1:Y.ty=ty P et) (h2:Y.plain=true) (h3:Y.v8=true):
  w4 P o a w (u2 Γ w {s with loc:=(k,.map (ty P kt) (ty P et) (q0O es cc Y))::s.loc} .any):=by
 obtain⟨b,hι,hxv⟩:=q60 hx
 obtain⟨ms,clock,hb,hck,hfk⟩:=z5G hP c hobj hok hi hι
 have hix:=q6K es cc 0
 obtain⟨b',ms',clock',e1,_,_,e4,e5,e6,e7,e8⟩:=c.own (by assumption) hobj
 rw[hι]at e1;cases e1
 rw[hb]at e4;cases e4
 obtain⟨k1,k2⟩:=Q2.1 hi
 obtain⟨y1,y2⟩:=(y8 h2).1 hy
 cases hf:X4 es cc 0 with
 |none=>
  rw[hf]at hix hfk
  simp only at hix
  have hrun:(Instr.mapUpdate T (a.eval x) (a.eval i) (a.eval y)).run P w= .ok () {w with heap:=w.heap.setIfInBounds b (.map (ms.push {key:=a.eval i,val:=a.eval y,born:=clock}) (clock+1))}:=by
   simp[Instr.mapUpdate,hxv,run_underlying (q4N hT),MapKept.run_getObj_map hb,hck,hfk,MapKept.run_setObj_map _ hb]
  refine w4.skip (w':=_) (by unfold execOp;simp[ho,hrun];rfl) ⟨Γ,.refl Γ,.refl Γ,c.y0h (o1:=.map (ty P kt) (ty P et) (q0O es cc Y)) hobj rfl hι (fun arr T fr h=>by rw[hb]at h;cases h) (c5 (q2R w hb)) (fun b' h=>q7j w b b' _ h) rfl fun hH hZ=>?_,by simp[q9]⟩
  refine⟨b,_,_,hι,hH,hZ,q2R w hb,by rw[hix.2];simp[e5],fun j m c1 hm hc1=>?_,fun j m hm=>?_,fun j j' m m' hm hm' hbb=>?_⟩
  ·rw[hix.2]at hc1
   rw[Array.getElem?_push]at hm
   by_cases hj:j=ms.size
   ·rw[if_pos hj]at hm;cases hm
    rw[List.getElem?_append_right (by omega),hj,e5]at hc1
    simp at hc1;subst hc1
    exact⟨k1,k2,y1,by rw[y2,h1],h1,h2,h3⟩
   ·rw[if_neg hj]at hm
    have hjl:j<ms.size:=(Array.getElem?_eq_some_iff.1 hm).1
    rw[List.getElem?_append_left (by omega)]at hc1
    exact e6 j m c1 hm hc1
  ·rw[Array.getElem?_push]at hm
   by_cases hj:j=ms.size
   ·rw[if_pos hj]at hm;cases hm;simp
   ·rw[if_neg hj]at hm;have:=e7 j m hm;omega
  ·rw[Array.getElem?_push]at hm hm'
   by_cases hj:j=ms.size <;> by_cases hj':j'=ms.size
   ·omega
   ·rw[if_pos hj]at hm;rw[if_neg hj']at hm';cases hm
    have:=e7 j' m' hm';simp at hbb;omega
   ·rw[if_neg hj]at hm;rw[if_pos hj']at hm';cases hm'
    have:=e7 j m hm;simp at hbb;omega
   ·rw[if_neg hj]at hm;rw[if_neg hj']at hm'
    exact e8 j j' m m' hm hm' hbb
 |some j=>
  rw[hf]at hix hfk
  simp only[Nat.sub_zero]at hix
  obtain⟨_,v0,g2,g3,g4⟩:=hix
  obtain⟨m,hm⟩:∃m,ms[j]? =some m:=by
   have:j<ms.size:=by rw[e5];exact(List.getElem?_eq_some_iff.1 g2).1
   exact⟨_,Array.getElem?_eq_getElem this⟩
  obtain⟨q1,q2,_⟩:=e6 j m _ hm g2
  simp only at q1
  have hkey:m.key=a.eval i:=z5v (z5L hfl q1 k1) (by rw[q2,k2])
  have hsb:Instr.sameBits 10000 (((ms[j]?).map (·.key)).getD (a.eval i)) (a.eval i)=true:=by
   rw[hm];simp only[Option.map_some,Option.getD_some,hkey]
   refine sameBits_self (q6E hfl k1) fun hag=>?_
   have:=q6E hfl k1
   rw[x5 hag]at this
   exact this _ (by simp)
  have hm':ms.toList[j]? =some m:=by simpa using hm
  rw[Option.bind_some,hm']at hfk
  have hrun:(Instr.mapUpdate T (a.eval x) (a.eval i) (a.eval y)).run P w= .ok () {w with heap:=w.heap.setIfInBounds b (.map (ms.modify j fun e=>{e with key:=a.eval i,val:=a.eval y}) clock)}:=by
   simp only[Option.map_some]at hfk
   simp[Instr.mapUpdate,hxv,run_underlying (q4N hT),MapKept.run_getObj_map hb,hck,hfk,Instr.keyThatStays,hsb,MapKept.run_setObj_map _ hb]
  refine w4.skip (w':=_) (by unfold execOp;simp[ho,hrun];rfl) ⟨Γ,.refl Γ,.refl Γ,c.y0h (o1:=.map (ty P kt) (ty P et) (q0O es cc Y)) hobj rfl hι (fun arr T fr h=>by rw[hb]at h;cases h) (c5 (q2R w hb)) (fun b' h=>q7j w b b' _ h) rfl fun hH hZ=>?_,by simp[q9]⟩
  have born:∀(j':Nat) (m':MapEntry),(ms.modify j fun e=>{e with key:=a.eval i,val:=a.eval y})[j']? =some m'→∃m0,ms[j']? =some m0∧m'.born=m0.born∧(j'≠j→m'=m0)∧(j'=j→m'={m0 with key:=a.eval i,val:=a.eval y}):=by
   intro j' m' h
   rw[Array.getElem?_modify]at h
   by_cases e:j=j'
   ·subst e
    rw[if_pos rfl,hm]at h
    simp at h;subst h
    exact⟨m,hm,rfl,fun h=>absurd rfl h,fun _=>rfl⟩
   ·rw[if_neg e]at h
    exact⟨m',h,rfl,fun _=>rfl,fun h=>absurd h.symm e⟩
  refine⟨b,_,_,hι,hH,hZ,q2R w hb,by rw[g4];simp[e5],fun j' m' c1 hm1 hc1=>?_,fun j' m' hm1=>?_,fun j1 j2 m1 m2 hm1 hm2 hbb=>?_⟩
  ·obtain⟨m0,z1,_,z3,z4⟩:=born j' m' hm1
   rw[g4]at hc1
   by_cases e:j'=j
   ·rw[z4 e]
    subst e
    have hlt:=(List.getElem?_eq_some_iff.1 g2).1
    simp[hlt]at hc1
    subst hc1
    exact⟨k1,k2,y1,by rw[y2,h1],h1,h2,h3⟩
   ·rw[List.getElem?_set_ne (fun h=>e h.symm)]at hc1
    rw[z3 e]
    exact e6 j' m0 c1 z1 hc1
  ·obtain⟨m0,z1,z2,_⟩:=born j' m' hm1
   rw[z2];exact e7 j' m0 z1
  ·obtain⟨n1,z1,z2,_⟩:=born j1 m1 hm1
   obtain⟨n2,z1',z2',_⟩:=born j2 m2 hm2
   exact e8 j1 j2 n1 n2 z1 z1' (by rw[←z2,←z2',hbb])
end
end Go.E
namespace Go.E
open Go
section
variable {P:Program} {Γ:G} {w:World} {s:S}
theorem q8A (hP:x4 P=true) (c:z8 Γ w s) {o:Oper} {a:Act} {x y:Operand} {t t':TypeId} {n:Nat} {X Y:V} {ys:List C} {eb:Nat} {e:Ty} (ho:q4c o x y t t')
  (ht:ty P t= .slice eb e) (hz:Q9 P (y7 P t)=true) (hn:s.obj (.l n)=none)
  (hx:q9 Γ X (a.eval x)) (hX:X= .nilc∨∃eb' e',X= .emp eb' e') (hy:q9 Γ Y (a.eval y)) (hel:q5d P s t' eb e Y ys) (hne:ys≠[]):
  w4 P o a w (u2 Γ w {s with loc:=(.l n,.box (.d (.arr ys.length e) (.agg ys)))::s.loc} (.sr (.l n) [] 0 ys.length none eb e)):=by
 obtain⟨hu,he,heb,hE⟩:=q1a hP ht
 obtain⟨a0,hx0⟩:∃a0,a.eval x= .slice a0 0 0:=by
  rcases hX with rfl|⟨eb',e',rfl⟩
  ·exact⟨none,Z5 hx⟩
  ·obtain⟨h1,_⟩:=(x9 rfl rfl).1 hx
   simp only[q8]at h1
   obtain⟨a0,h1⟩:=h1
   exact⟨a0,by simpa using h1⟩
 obtain⟨m,news,hs,r1,r2,r3,r4⟩:=q6V c hy hel
 obtain⟨i,z,hi,hzz,hzo,hzo2⟩:=q2Z hz
 have hcz:=F2 hzo
 have hsz:i.size=e.size:=by
  have:=j3 hP 11 (y7 P t)
  rw[he,this];simp[Program.cellsOf,hi]
 have hby:i.bytes=eb:=by rw[heb];simp[Program.bytesOf,hi]
 rw[←hsz]at hs
 have hm:m≠0:=by
  intro h;subst h;exact hne (List.eq_nil_of_length_eq_zero r1)
 have hmx':((0+m:Nat):Int)≤9223372036854775807:=by unfold maxLen at r2;omega
 have hge:=grownCap_ge w (0+m) 0 (y7 P t)
 have hcm:=grownCap_le_maxLen w (0+m) 0 (y7 P t) (by omega)
 have hold:(Builtin.firstCells i.size 0 (.slice a0 0 0)).run P w.drew= .ok ([]:List Value).toArray w.drew:=by
  cases a0 with
  |none=>exact run_firstCells_none w.drew i.size 0 0 0
  |some ad=>exact run_firstCells_some w.drew i.size 0 ad 0 0 [] (by simp) (by simp)
 have run:=run_append_grow_src (P:=P) w t t' o.type _ i z hu hi hzz a0 0 0 [] hold (a.eval y) m news hs (by omega) hmx' (by
  rw[hby];exact growslice_fits (by omega) (by rw[Nat.zero_add];exact r3))
 rw[←hx0]at run
 have hext:Ext w (w.drew.alloc (.cells ((([]:List Value)++news).toArray++Builtin.zeroCells z.cells (grownCap w (0+m) 0 (y7 P t)-(0+m))) (y7 P t))):=(Ext.drew w).trans (Ext.alloc _ _)
 have hnew:=heap_alloc_new w.drew (.cells ((([]:List Value)++news).toArray++Builtin.zeroCells z.cells (grownCap w (0+m) 0 (y7 P t)-(0+m))) (y7 P t))
 have hnl:news.length=m*e.size:=by rw[hs.newsLen,hsz]
 have hone:J0 news:=q03 r1 hnl r4
 have hrep:q8 Γ none [] (.d (.arr ys.length e) (.agg ys)) news:=by
  simp only[q8,z7]
  exact⟨ys,rfl,rfl,by rw[r1];exact hnl,hone,r4⟩
 have hchunk:chunk ((([]:List Value)++news).toArray++Builtin.zeroCells z.cells (grownCap w (0+m) 0 (y7 P t)-(0+m))).toList 0 (ys.length*e.size)=news:=by
  rw[r1,←hnl]
  simp[chunk]
 obtain⟨h1,h2,h3⟩:=c.addKey (k:=.l n) hn hext (τ:=.arr ys.length e) (o:=.box (.d (.arr ys.length e) (.agg ys))) fun Γ' hpr _ hι hH hZ=>
  ⟨_,_,y7 P t,hι,hH,hZ,⟨(0,0),hnew,.inl (Nat.le_refl _)⟩,by simp only[V.ty,Ty.size,r1,←hnl];simp,by
   simp only[V.ty,Ty.size]
   rw[hchunk]
   exact(hrep.o6 hpr (by trivial)).b9,rfl,rfl⟩
 obtain⟨k1,k2,k3⟩:=h1.q3J (show _=_ from hnew)
 refine w4.val (q0e ho run) ⟨_,h3.trans k3,h2.trans k2,k1,(x9 rfl rfl).2 ⟨?_,rfl⟩⟩
 simp only[q8]
 rw[show 0+m=m by omega]at hge hcm ⊢
 refine .inr ⟨w.heap.size,.arr ys.length e,0,ys.length,grownCap w m 0 (y7 P t),by simp[G.q3J,G.addKey,q0d],rfl,by omega,⟨some ⟨w.heap.size,0,none⟩,by rw[r1],.inr (by simp)⟩,by rw[r1];exact hge,hcm,by rw[r1];exact r3,(fun c h=>by cases h),fun _=>.inr ⟨_,w8 _ _ _,?_⟩⟩
 have hzc:z.cells.size=e.size:=by
  have h1:=j3 hP 11 (y7 P t)
  have h2:=q3Q hP (y7 P t)
  rw[he,h1,←h2,←hcz];simp
 simp only[List.nil_append,Array.size_append,List.size_toArray,size_zeroCells,hzc,hnl,←Nat.add_mul]
 rw[Nat.zero_add,Nat.zero_add]
 exact Nat.mul_le_mul_right _ (by omega)
theorem y1f (c:z8 Γ w s) {o:Oper} {a:Act} {x:Operand} {T:TypeId} {k:Key} {kτ vτ:Ty} {es:List (C × V)} (ho:o.op= .call {callee:=.builtin .len,args:=#[x],argTypes:=#[T]})
  {kt et:TypeId} (hT:q3X P T=some (kt,et)) (hx:q9 Γ (.mp k) (a.eval x)) (hobj:s.obj k=some (.map kτ vτ es)) (hl:es.length≤9223372036854775807):w4 P o a w (u2 Γ w s (.d (.int .i64) (.int es.length))):=by
 obtain⟨b,hι,hxv⟩:=q60 hx
 obtain⟨b',ms,clock,e1,_,_,e4,e5,_⟩:=c.own (by assumption) hobj
 rw[hι]at e1;cases e1
 refine w4.val (v:=.int .i64 es.length) (w':=w) ?_ (u2.same c (u6 ?_ ?_))
 ·unfold execOp
  have hw:IntKind.i64.wrap (es.length:Int)=es.length:=IntWalk.i64_in _ (by omega)
  simp[ho,resolve,invoke,builtin,hxv,Builtin.len_,Builtin.lenOf,run_underlying (q4N hT),MapKept.run_getObj_map e4,e5,goInt,hw]
 ·have:IntKind.i64.min= -9223372036854775808:=by decide
  omega
 ·have:IntKind.i64.max=9223372036854775807:=by decide
  omega
end
end Go.E
namespace Go.E
open Go
def q1U (c:C):UInt8:=UInt8.ofNat c.toInt.toNat
def Ty.z6D:Ty→Bool
 | .int .u8=>true
 |_=>false
theorem Ty.q9Z:∀{τ:Ty},τ.z6D=true→τ= .int .u8
 | .int .u8,_=>rfl
def strOf (P:Program) (s:S) (src dst:TypeId) (x:V):Option (List C):=
 match ty P src,ty P dst with
 | .slice eb e,.str=>if e.z6D=true∧eb=1 then(match x with
  | .nilc=>some []
  |_=>(match Y0 s x with
   |some (eb',e',ys)=>if e'.z6D=true∧eb'=1 then some ys else none
   |none=>none))else none
 |_,_=>none
section
variable {P:Program} {Γ:G} {w:World} {s:S}
theorem q8N {f:Nat} {T:TypeId} {k:IntKind} (h:tyF P (f+1) T= .int k):P.underlying T=some (.int k):=by
 unfold tyF at h
 split at h
 ·cases hu:P.underlying T with
  |none=>simp[hu]at h
  |some d=>cases d <;> simp[hu]at h ⊢ <;> exact h
 ·cases h
theorem q6W {Y:V} {v:Value} {r:Nat × Ty × List C} (hr:q9 Γ Y v) (he:Y0 s Y=some r):∃a n cap,v= .slice a n cap:=by
 obtain⟨eb,e,ys⟩:=r
 have frozen:Y.q1O=some (eb,e,ys)→∃a n cap,v= .slice a n cap:=fun h=>by
  obtain⟨a,n,cap,hv,_⟩:=q0J hr h
  exact⟨a,n,cap,hv⟩
 cases Y <;> (try exact frozen he)
 case sr k q lo n cp eb' e'=>
  obtain⟨cap,a,rfl,_⟩:=z0u hr
  exact⟨_,_,_,rfl⟩
theorem z4u {c:C} {H:Hp} {vs:List Value} (h:z7 H (.int .u8) vs c):vs=[.int .u8 ((q1U c).toNat:Int)]:=by
 simp only[z7]at h
 obtain⟨n,rfl,rfl,h1,h2⟩:=h
 have m1:IntKind.u8.min=0:=by decide
 have m2:IntKind.u8.max=255:=by decide
 have:((q1U (.int n)).toNat:Int)=n:=by
  simp only[q1U,C.toInt,UInt8.toNat_ofNat']
  omega
 rw[this]
theorem y2D (hP:x4 P=true) (c:z8 Γ w s) {o:Oper} {a:Act} {src dst:TypeId} {x:Operand} (ho:o.op= .convert src dst x) {Y:V} {ys:List C} (h:strOf P s src dst Y=some ys)
  (hr:q9 Γ Y (a.eval x)):w4 P o a w (u2 Γ w s (.d .str (.str (ys.map q1U)))):=by
 unfold strOf at h
 split at h
 ·rename_i eb e ht hd
  obtain⟨E,hu,hE,_,_⟩:=F3 hP ht
  have hd':=q3a hd
  split at h
  ·rename_i hc0
   obtain⟨h0,rfl⟩:=hc0
   obtain rfl:=Ty.q9Z h0
   have hEu:P.underlying E=some (.int .u8):=q8N hE.symm
   split at h
   ·cases h
    have hv:a.eval x= .slice none 0 0:=Z5 hr
    refine w4.val (v:=.string ⟨#[]⟩) (w':=w) ?_ (u2.same c (W0 (by simp)))
    unfold execOp
    simp only[ho,hv,Sem.run_bind]
    rw[run_convert_bytes_string w src dst E none 0 0 hu hEu hd']
    simp[Conv.bytesToString,Sem.run_pure,Result.andThen]
    rfl
   ·split at h
    ·rename_i eb' e' ys' he
     split at h
     ·rename_i hc
      obtain⟨h0',rfl⟩:=hc
      obtain rfl:=Ty.q9Z h0'
      cases h
      obtain⟨ad,n',cap,hv⟩:=q6W hr he
      obtain⟨n,news,hs,h1,h2,h3,h4⟩:=z1F c hr he hu
      rw[hv]at hs
      have hn:n'=n:=by
       have:=hs.len w
       simp[Builtin.lenOf,Sem.run_pure]at this
       exact this
      subst hn
      have hsz:(Ty.int IntKind.u8).size=1:=rfl
      have hnl:=hs.newsLen
      rw[hsz,Nat.mul_one]at hnl
      have hnews:news=((ys.map q1U).map (fun b=>(b.toNat:Int))).map (Value.int .u8):=by
       apply List.ext_getElem?
       intro i
       by_cases hi:i<ys.length
       ·have hy:=h4 i _ (List.getElem?_eq_getElem hi)
        rw[hsz,Nat.mul_one]at hy
        have hb:=z4u hy
        have hi':i<news.length:=by omega
        have hcell:(chunk news i 1)[0]? =news[i]?:=by rw[w5];simp
        rw[hb]at hcell
        rw[←hcell]
        simp[List.getElem?_eq_getElem hi]
       ·rw[List.getElem?_eq_none (by omega),List.getElem?_eq_none (by simp;omega)]
      refine w4.val (v:=.string ⟨(ys.map q1U).toArray⟩) (w':=w) ?_ (u2.same c (W0 (by simp;omega)))
      unfold execOp
      simp only[ho,hv,Sem.run_bind]
      rw[run_convert_bytes_string w src dst E ad n' cap hu hEu hd']
      cases ad with
      |none=>
       have hc:=hs.cells
       simp[Builtin.firstCells,Sem.run_pure]at hc
       have hn0:ys=[]:=by
        rw[hc]at hnl
        simp at hnl
        exact List.eq_nil_of_length_eq_zero (by omega)
       subst hn0
       simp[Conv.bytesToString,Sem.run_pure,Result.andThen]
       rfl
      |some ad=>
       have hc:=hs.cells
       simp only[Builtin.firstCells,hsz,Nat.mul_one]at hc
       rw[hnews]at hc
       rw[run_bytesToString w ad n' cap _ hc,foldl_push_byteCells]
       simp[Result.andThen,Sem.run_pure]
     ·cases h
    ·cases h
  ·cases h
 ·cases h
end
end Go.E
namespace Go.E
open Go
section
variable {P:Program} {Γ:G} {w w':World} {s:S}
theorem z8.kill (c:z8 Γ w s) {k:Key} {o:O} (ho:s.obj k=some o):z8 Γ w {s with loc:=(k,.dead o.ty)::s.loc}:=by
 refine⟨c.hH,c.hZ,c.hκ,fun j o' h=>?_,fun j h=>?_,c.q45 (q2z fun _=>rfl),c.tok,c.tdom,c.hgl,c.hoo,c.hσ⟩
 ·rw[u3]at h
  split at h
  ·rename_i e
   subst e;cases h
   refine(c.obj _ _ ho).imp (fun h=>⟨h.1,trivial⟩) fun hown=>?_
   obtain⟨b,τ,h1,_,h4,h5⟩:=hown.block
   exact⟨b,by rw[←h5];exact h1,h4⟩
  ·exact c.obj j o' h
 ·rw[u3]
  split
  ·simp
  ·exact c.dom j h
theorem z8.y0w (c:z8 Γ w s) {k j:Key} {x x':V} {b m m':Nat} {e:Ty} {cells':Array Value} {T:TypeId} {fz:Nat × Nat}
  (ho:s.obj k=some (.box x)) (hxt:x.ty= .arr m e) (hι:Γ.ι k=some (b,.arr m e)) (hj:s.obj j=none) (hnew:w'.heap[b]? =some (.cells cells' T fz)) (hfz:fz.2≤fz.1∨cells'.size≤fz.1) (hsame:∀b',b'≠b→w'.heap[b']? =w.heap[b']?) (hoo:oof w'=oof w)
  (ht:x'.ty= .arr m' e) (hsz:x'.ty.size≤cells'.size) (hx:q8 Γ none [] x' (chunk cells'.toList 0 x'.ty.size)) (hp:x'.plain=true) (hns:x'.v8=true)
  (hcs:∀arr T fr,w.heap[b]? =some (.cells arr T fr)→cells'.size=arr.size) (hkl:∀i,j≠.g i:=by intro i h;cases h):
  z8 (Γ.addKey j b (.arr m' e)) w' {s with loc:=(j,.box x')::(k,.dead (.arr m e))::s.loc}∧s8 Γ (Γ.addKey j b (.arr m' e))∧GLe Γ (Γ.addKey j b (.arr m' e)):=by
 obtain⟨hH,hZ,hlt,_⟩:=c.W2 hι ho rfl
 have hkj:k≠j:=fun e=>by subst e;rw[ho]at hj;cases hj
 have hk0:=c.q6R hj
 have hιk:∀i y,Γ.ι i=some y→(Γ.addKey j b (.arr m' e)).ι i=some y:=by
  intro i y hi
  have:i≠j:=by intro e;subst e;rw[hk0]at hi;cases hi
  simp[G.addKey,q0d,this,hi]
 have hpr:s8 Γ (Γ.addKey j b (.arr m' e)):=⟨Hp.le_refl _,hιk,fun t x L h=>⟨x,L,h,Nat.le_refl _,fun _=>rfl⟩,fun _ _ h=>h⟩
 have hmono:w.heap.size≤w'.heap.size:=by
  cases Nat.lt_or_ge w'.heap.size w.heap.size with
  |inr h=>exact h
  |inl hlt2=>
   have h1:=c5 hnew
   have h3:=hsame w'.heap.size (by omega)
   rw[Array.getElem?_eq_none (Nat.le_refl _),Array.getElem?_eq_getElem hlt2]at h3
   cases h3
 have hdk:s.p9 k=false:=by rw[c6 ho];rfl
 have hobj:∀i,S.obj {s with loc:=(j,.box x')::(k,.dead (.arr m e))::s.loc} i=if j=i then some (.box x')else if k=i then some (.dead (.arr m e))else s.obj i:=by
  intro i
  rw[show S.obj {s with loc:=(j,.box x')::(k,.dead (.arr m e))::s.loc} i=S.obj {({s with loc:=(k,.dead (.arr m e))::s.loc}:S)with loc:=(j,.box x')::(k,.dead (.arr m e))::s.loc} i from rfl,u3 ({s with loc:=(k,.dead (.arr m e))::s.loc}:S),u3 s]
 have hdead:∀i,s.p9 i=true→S.p9 {s with loc:=(j,.box x')::(k,.dead (.arr m e))::s.loc} i=true:=by
  intro i hi
  unfold S.p9
  rw[hobj]
  by_cases h1:j=i
  ·subst h1;unfold S.p9 at hi;rw[hj]at hi;cases hi
  ·rw[if_neg h1]
   by_cases h2:k=i
   ·rw[if_pos h2];rfl
   ·rw[if_neg h2];exact hi
 have hdk':S.p9 {s with loc:=(j,.box x')::(k,.dead (.arr m e))::s.loc} k=true:=by
  unfold S.p9;rw[hobj,if_neg (fun h=>hkj h.symm),if_pos rfl];rfl
 refine⟨?_,hpr,⟨Hp.le_refl _,rfl,fun _ _=>rfl,fun i y h=>hιk _ _ h,rfl,rfl,fun _ _ h=>h,fun i h=>by
  have:Key.g i≠j:=fun e=>hkl i e.symm
  simpa[G.addKey,q0d,this]using h⟩⟩
 refine c.change hpr rfl rfl rfl hoo (fun b' l h=>?_) (fun b' h=>hsame b' (fun e=>by subst e;exact h hZ)) (fun b' o sz h=>?_) (fun i o h=>?_) (fun i h h'=>by
  have:i≠j:=fun e=>by subst e;exact h' hj
  simpa[G.addKey,q0d,this]using h) (fun i h=>?_) (fun b' sz h=>?_) (fun i i' b' τ1 τ2 h1 h2=>?_) c.tok c.tdom hmono
 ·have h':Γ.H b'=some l:=h
  rw[hsame b' (fun e=>by subst e;rw[hH]at h';cases h')];exact c.hH b' l h'
 ·obtain⟨a1,a2,a3⟩:=c.hκ b' o sz h
  rw[hsame b' (fun e=>by subst e;exact a2 hH)];exact⟨a1,a2,a3⟩
 ·rw[hobj]at h
  by_cases e1:j=i
  ·rw[if_pos e1]at h;subst e1;cases h
   exact .inr ⟨b,cells',T,by rw[ht];simp[G.addKey,q0d],hH,hZ,⟨fz,hnew,hfz⟩,hsz,(q8.o6 (hm:=none) hpr trivial _ hx).b9,hp,hns⟩
  ·rw[if_neg e1]at h
   by_cases e2:k=i
   ·rw[if_pos e2]at h;subst e2;cases h
    exact .inr ⟨b,hιk _ _ hι,by omega⟩
   ·rw[if_neg e2]at h
    refine .inl ⟨h,fun hd=>⟨fun _ _ _ _=>⟨rfl,rfl⟩,fun b' τ' hb=>?_⟩⟩
    obtain⟨a1,a2,a3,_⟩:=c.W2 hb h hd
    refine⟨hsame b' (fun e'=>?_),a1⟩
    subst e'
    exact e2 (c.z9w hι hb hdk (by rw[c6 h];exact hd))
 ·rw[hobj]
  by_cases e1:j=i
  ·rw[if_pos e1];simp
  ·rw[if_neg e1]
   by_cases e2:k=i
   ·rw[if_pos e2];simp
   ·rw[if_neg e2]
    refine c.dom i ?_
    have:i≠j:=fun h=>e1 h.symm
    simpa[G.addKey,q0d,this]using h
 ·obtain⟨arr,T1,fr,a1,a2⟩:=c.hσ b' sz h
  by_cases e:b'=b
  ·subst e
   exact⟨cells',T,fz,hnew,by rw[hcs _ _ _ a1];exact a2⟩
  ·exact⟨arr,T1,fr,by rw[hsame b' e];exact a1,a2⟩
 ·have key:∀i b' τ',(Γ.addKey j b (.arr m' e)).ι i=some (b',τ')→(i=j∧b'=b∧τ'= .arr m' e)∨(i≠j∧Γ.ι i=some (b',τ')):=by
   intro i b' τ' h
   by_cases hij:i=j
   ·left;simp[G.addKey,q0d,hij]at h;exact⟨hij,h.1.symm,h.2.symm⟩
   ·right;exact⟨hij,by simpa[G.addKey,q0d,hij]using h⟩
  have old:∀i τ',Γ.ι i=some (b,τ')→S.p9 {s with loc:=(j,.box x')::(k,.dead (.arr m e))::s.loc} i=true∧τ'.q7X=true:=by
   intro i τ' h
   rcases c.inj i k b _ _ h hι with rfl|⟨h1|h1,h2,_⟩
   ·rw[hι]at h;cases h;exact⟨hdk',rfl⟩
   ·exact⟨hdead i h1,h2⟩
   ·rw[hdk]at h1;cases h1
  rcases key i b' τ1 h1 with⟨e1,e2,e3⟩|⟨e1,e2⟩ <;> rcases key i' b' τ2 h2 with⟨f1,f2,f3⟩|⟨f1,f2⟩
  ·exact .inl (by rw[e1,f1])
  ·subst e2;obtain⟨g1,g2⟩:=old i' τ2 f2;exact .inr ⟨.inr g1,by rw[e3];rfl,g2⟩
  ·subst f2;obtain⟨g1,g2⟩:=old i τ1 e2;exact .inr ⟨.inl g1,g2,by rw[f3];rfl⟩
  ·exact(c.inj _ _ _ _ _ e2 f2).imp id (And.imp (Or.imp (hdead _) (hdead _)) id)
end
end Go.E
namespace Go.E
open Go
section
variable {P:Program} {Γ:G} {w w':World} {s:S}
theorem z1L (w:World) (t tx ty e:TypeId) (i:TypeInfo) (ht:P.underlying t=some (.slice e)) (hi:P.info? e=some i) (base:Option Addr) (sLen sCap:Nat) (hle:sLen≤sCap) (x:Value) (hs:Src P i.size tx x 0 [] w):
  (Builtin.append_ #[t,tx] ty #[.slice base sLen sCap,x]).run P w= .ok (.slice base sLen sCap) w:=by
 have h0:=hs.cells
 rcases hs.kind with⟨e',hk⟩|hk <;> cases base <;> simp[Builtin.append_,run_underlying ht,run_underlying hk,sizeOf,typeInfo,hi,hs.len,hle,h0,storeCells]
theorem z8.y5l (c:z8 Γ w s) {t:Nat} {e:Ty} (ht:s.obj (.l t)=none):z8 Γ w {s with loc:=(.l t,.box (.d (.arr 0 e) (.agg [])))::s.loc}:=by
 refine⟨c.hH,c.hZ,c.hκ,fun j o hj=>?_,fun j hj=>?_,c.q45 (fun j hj=>?_),c.tok,c.tdom,c.hgl,c.hoo,c.hσ⟩
 ·rw[u3]at hj
  split at hj
  ·rename_i e1;subst e1;cases hj
   exact .inl ⟨c.q6R ht,e,rfl⟩
  ·exact c.obj j o hj
 ·rw[u3]
  split
  ·simp
  ·exact c.dom j hj
 ·unfold S.p9 at hj ⊢
  rw[u3]
  split
  ·rename_i e1;subst e1;rw[ht]at hj;cases hj
  ·exact hj
theorem z4X (hP:x4 P=true) (c:z8 Γ w s) {o:Oper} {a:Act} {x y:Operand} {t t':TypeId} {d:Nat} {k:Key} {n M:Nat} {cc:C} {Y:V} {ys:List C} {eb:Nat} {e:Ty} (ho:q4c o x y t t')
  (ht:ty P t= .slice eb e) (hz:Q9 P (y7 P t)=true) (hd:s.obj (.l d)=none) (hobj:s.obj k=some (.box (.d (.arr M e) cc)))
  (hx:q9 Γ (.sr k [] 0 n none eb e) (a.eval x)) (hy:q9 Γ Y (a.eval y)) (hel:q5d P s t' eb e Y ys) (hlen:(n+ys.length)*eb≤140737488355328) (hlen2:n+ys.length≤maxLen):
  w4 P o a w (u2 Γ w {s with loc:=(.l d,.box (.d (.arr (n+ys.length) e) (.agg (cc.elems.take n++ys))))::(k,.dead (.arr M e))::s.loc} (.sr (.l d) [] 0 (n+ys.length) none eb e)):=by
 obtain⟨hu,he,heb,hE⟩:=q1a hP ht
 obtain⟨m,news,hs,r1,r2,r3,r4⟩:=q6V c hy hel
 have hcs0:Y0 s (.sr k [] 0 n none eb e)=some (eb,e,cc.elems.take n):=by simp[Y0,hobj,V.at]
 obtain⟨n',olds,hso,o1,o2,o3,o4⟩:=z1F (P:=P) (tx:=t) c hx hcs0 hu
 have hlc:(cc.elems.take n).length=n:=by
  rcases q0j hx with⟨_,rfl,_⟩|⟨b,τ0,o0,M',cap,aa,a1,a2,a3,_⟩
  ·simp
  ·obtain⟨b',cells,T,g1,g2,g3,g4,g5,g6,g7,_⟩:=c.own a1 hobj
   obtain⟨fr0,g4,hfr0⟩:=g4
   rw[a1]at g1;cases g1
   simp only[V.ty,Ty.walk,Option.some.injEq,Prod.mk.injEq,Ty.arr.injEq]at a2
   obtain⟨rfl,rfl,_⟩:=a2
   simp only[V.ty,q8,z7]at g6
   obtain⟨cs,rfl,q1,_⟩:=g6
   simp only[C.elems,List.length_take];omega
 have hn:n'=n:=by rw[←o1];exact hlc
 subst hn
 obtain⟨i,z,hi,hzz,hzo,hzo2⟩:=q2Z hz
 have hcz:=F2 hzo
 have hsz:i.size=e.size:=by
  have:=j3 hP 11 (y7 P t)
  rw[he,this];simp[Program.cellsOf,hi]
 have hby:i.bytes=eb:=by rw[heb];simp[Program.bytesOf,hi]
 have hzc:z.cells.size=e.size:=by
  have h1:=j3 hP 11 (y7 P t)
  have h2:=q3Q hP (y7 P t)
  rw[he,h1,←h2,←hcz];simp
 rw[←hsz]at hs hso
 have hnl:news.length=m*e.size:=by rw[hs.newsLen,hsz]
 have hol:olds.length=n'*e.size:=by rw[hso.newsLen,hsz]
 have hmx':((n'+m:Nat):Int)≤9223372036854775807:=by unfold maxLen at hlen2;omega
 have hbb:(n'+m)*eb≤140737488355328:=by rw[←r1];exact hlen
 have hl12:(cc.elems.take n'++ys).length=n'+ys.length:=by simp[o1]
 have hrepOf:∀{Γ':G},s8 Γ Γ'→∀olds:List Value,olds.length=n'*e.size→(∀i c',(cc.elems.take n')[i]? =some c'→z7 Γ.H e (chunk olds (i*e.size) e.size) c')→∀vs:List Value,vs.length=(n'+ys.length)*e.size→vs=olds++news→q8 Γ' none [] (.d (.arr (n'+ys.length) e) (.agg (cc.elems.take n'++ys))) vs:=by
  intro Γ' hp olds hol o4 vs hvl hvs
  subst hvs
  have hall:∀j c',(cc.elems.take n'++ys)[j]? =some c'→z7 Γ'.H e (chunk (olds++news) (j*e.size) e.size) c':=by
   intro j c' hj
   have:=q6I (H:=Γ'.H) (rest:=[]) o1 r1 hol hnl (fun i c' hi=>(o4 i c' hi).mono hp.H) (fun i c' hi=>(r4 i c' hi).mono hp.H) j c' hj
   simpa using this
  simp only[q8,z7]
  exact⟨_,rfl,hl12,hvl,q03 hl12 hvl hall,hall⟩
 have hkd:k≠.l d:=fun h=>by rw[h,hd]at hobj;cases hobj
 have newb:∀(aa:Option Addr) (cap:Nat),a.eval x= .slice aa n' cap→cap≤maxLen→¬n'+m≤cap→w4 P o a w (u2 Γ w {s with loc:=(.l d,.box (.d (.arr (n'+ys.length) e) (.agg (cc.elems.take n'++ys))))::(k,.dead (.arr M e))::s.loc} (.sr (.l d) [] 0 (n'+ys.length) none eb e)):=by
  intro aa cap hv a6 hroom
  have hge:=grownCap_ge w (n'+m) cap (y7 P t)
  have hcm:=grownCap_le_maxLen w (n'+m) cap (y7 P t) (by omega)
  have hold':(Builtin.firstCells i.size n' (.slice aa n' cap)).run P w.drew= .ok olds.toArray w.drew:=by rw[←hv];exact hso.cellsD
  have run:=run_append_grow_src (P:=P) w t t' o.type _ i z hu hi hzz aa n' cap olds hold' (a.eval y) m news hs (by omega) hmx' (by
   rw[hby];exact growslice_fits (by omega) hbb)
  rw[←hv]at run
  have hext:Ext w (w.drew.alloc (.cells ((olds++news).toArray++Builtin.zeroCells z.cells (grownCap w (n'+m) cap (y7 P t)-(n'+m))) (y7 P t))):=(Ext.drew w).trans (Ext.alloc _ _)
  have hnew:=heap_alloc_new w.drew (.cells ((olds++news).toArray++Builtin.zeroCells z.cells (grownCap w (n'+m) cap (y7 P t)-(n'+m))) (y7 P t))
  have hsize:((olds++news).toArray++Builtin.zeroCells z.cells (grownCap w (n'+m) cap (y7 P t)-(n'+m))).size=grownCap w (n'+m) cap (y7 P t)*e.size:=by
   simp only[Array.size_append,List.size_toArray,List.length_append,size_zeroCells,hzc,hnl,hol,←Nat.add_mul]
   congr 1;omega
  have hll:(olds++news).length=(n'+ys.length)*e.size:=by rw[List.length_append,hol,hnl,Nat.add_mul,r1]
  have hchunk:chunk ((olds++news).toArray++Builtin.zeroCells z.cells (grownCap w (n'+m) cap (y7 P t)-(n'+m))).toList 0 ((n'+ys.length)*e.size)=olds++news:=by
   unfold chunk
   rw[List.drop_zero,Array.toList_append,List.toList_toArray]
   exact List.take_left' hll
  have ck:=c.kill hobj
  obtain⟨h1,h2,h3⟩:=ck.addKey (k:=.l d) (by rw[u3,if_neg hkd];exact hd) hext (τ:=.arr (n'+ys.length) e) (o:=.box (.d (.arr (n'+ys.length) e) (.agg (cc.elems.take n'++ys)))) fun Γ' hpr _ hι hH hZ=>
   ⟨_,_,y7 P t,hι,hH,hZ,⟨(0,0),hnew,.inl (Nat.le_refl _)⟩,by simp only[V.ty,Ty.size];rw[hsize,r1];exact Nat.mul_le_mul_right _ hge,by
    simp only[V.ty,Ty.size]
    rw[hchunk]
    exact(hrepOf hpr _ hol o4 _ hll rfl).b9,rfl,rfl⟩
  obtain⟨k1,k2,k3⟩:=h1.q3J (show _=_ from hnew)
  refine w4.val (q0e ho run) ⟨_,h3.trans k3,h2.trans k2,k1,(x9 rfl rfl).2 ⟨?_,rfl⟩⟩
  simp only[q8]
  refine .inr ⟨w.heap.size,.arr (n'+ys.length) e,0,n'+ys.length,grownCap w (n'+m) cap (y7 P t),by simp[G.q3J,G.addKey,q0d],rfl,by omega,⟨some ⟨w.heap.size,0,none⟩,by rw[r1],.inr (by simp)⟩,by rw[r1];exact hge,hcm,hlen,(fun c h=>by cases h),fun _=>.inr ⟨_,w8 _ _ _,?_⟩⟩
  rw[hsize,Nat.zero_add,Nat.zero_add];exact Nat.le_refl _
 have Q4:∀aa:Option Addr,a.eval x= .slice aa 0 0→n'=0→m=0→w4 P o a w (u2 Γ w {s with loc:=(.l d,.box (.d (.arr (n'+ys.length) e) (.agg (cc.elems.take n'++ys))))::(k,.dead (.arr M e))::s.loc} (.sr (.l d) [] 0 (n'+ys.length) none eb e)):=by
  intro aa hv hn0 hm0
  subst hn0;subst hm0
  have hy0:ys=[]:=List.eq_nil_of_length_eq_zero r1
  subst hy0
  have hw0:news=[]:=List.eq_nil_of_length_eq_zero (by rw[hnl,Nat.zero_mul])
  subst hw0
  have run:=z1L (P:=P) w t t' o.type _ i hu hi aa 0 0 (Nat.le_refl _) (a.eval y) hs
  rw[←hv]at run
  have ck:=(c.kill hobj).y5l (t:=d) (e:=e) (by rw[u3,if_neg hkd];exact hd)
  refine w4.val (q0e ho run) ⟨Γ,.refl Γ,.refl Γ,ck,(x9 rfl rfl).2 ⟨?_,by rw[hv];rfl⟩⟩
  simp only[q8]
  exact .inl ⟨trivial,rfl,aa,by rw[hv]⟩
 rcases q0j hx with⟨_,h0,aa,hv⟩|⟨b,τ0,o0,M',cap,aa,a1,a2,a3,hv,a4,a5,a6,a7,_,a9⟩
 ·subst h0
  by_cases hm0:m=0
  ·exact Q4 aa hv rfl hm0
  ·exact newb aa 0 hv (Nat.zero_le _) (by omega)
 obtain⟨b',cells,T,g1,g2,g3,g4,g5,g6,g7,_⟩:=c.own a1 hobj
 obtain⟨fr0,g4,hfr0⟩:=g4
 rw[a1]at g1;cases g1
 simp only[V.ty,Ty.walk,Option.some.injEq,Prod.mk.injEq,Ty.arr.injEq]at a2
 obtain⟨rfl,rfl,_⟩:=a2
 simp only[V.ty,q8,z7]at g6
 obtain⟨cs,rfl,q1,q2,q3,q4⟩:=g6
 simp only[C.elems]at*
 by_cases hroom:n'+m≤cap
 · -- in the room behind
  by_cases hc0:cap=0
  ·subst hc0
   have hn0:n'=0:=by omega
   exact Q4 aa (by rw[hv,hn0]) hn0 (by omega)
  have haa:aa=some ⟨b,0,none⟩:=by
   rcases a4 with a4|a4
   ·exact absurd a4 hc0
   ·rw[a4];simp
  subst haa
  obtain⟨sz,s1,s2⟩:∃sz,Γ.σ b=some sz∧0+(0+cap)*e.size≤sz:=by
   rcases a9 trivial with a9|a9
   ·omega
   ·exact a9
  obtain⟨arr,T',fr,s3,s4⟩:=c.hσ b sz s1
  rw[g4]at s3;cases s3
  have hfit:n'*e.size+m*e.size≤cells.size:=by
   rw[s4,←Nat.add_mul]
   rw[Nat.zero_add,Nat.zero_add]at s2
   exact Nat.le_trans (Nat.mul_le_mul_right _ hroom) s2
  have run:=run_append_room_src (P:=P) w t t' o.type _ i hu hi b 0 n' cap (a.eval y) m news hs hroom
   (fun j hj=>by
    rw[hnl]at hj
    simp[World.cell?,g4]
    rw[hsz];omega)
   (fun j hj=>by
    rw[hnl]at hj
    simp only[World.frozen?,g4,Bool.and_eq_false_iff,decide_eq_false_iff_not]
    rw[hsz]
    omega)
  rw[←hv]at run
  rw[Nat.zero_add,hsz]at run
  obtain⟨arr',hw',harr'⟩:=q2M b news (n'*e.size) w cells T fr0 g4 (by rw[hnl];exact hfit)
  have hsz':arr'.size=cells.size:=by rw[←Array.length_toList,←Array.length_toList,harr',Q7 (by rw[hnl];simpa using hfit)]
  have hMl:n'*e.size≤M*e.size:=Nat.mul_le_mul_right _ (by omega)
  have hMc:M*e.size≤cells.size:=g5
  have hol2:(chunk cells.toList 0 (n'*e.size)).length=n'*e.size:=u9 _ _ _ (by simp;omega)
  have o42:∀i c',(cs.take n')[i]? =some c'→z7 Γ.H e (chunk (chunk cells.toList 0 (n'*e.size)) (i*e.size) e.size) c':=by
   intro i c' hi
   rw[List.getElem?_take]at hi
   split at hi
   ·rename_i hin
    have:=q4 i c' hi
    have hle:(i+1)*e.size≤n'*e.size:=Nat.mul_le_mul_right _ hin
    rw[Nat.add_mul]at hle
    simp only[Ty.size]at this
    rw[o5 _ _ _ _ _ (by omega)]at this
    rw[o5 _ _ _ _ _ (by omega)]
    exact this
   ·cases hi
  have hll:(chunk cells.toList 0 (n'*e.size)++news).length=(n'+ys.length)*e.size:=by rw[List.length_append,hol2,hnl,Nat.add_mul,r1]
  have hchunk:chunk arr'.toList 0 ((n'+ys.length)*e.size)=chunk cells.toList 0 (n'*e.size)++news:=by
   rw[harr']
   unfold chunk w7
   rw[List.drop_zero,List.drop_zero]
   refine List.take_left' ?_
   rw[List.length_append,hnl,List.length_take,Nat.add_mul,r1]
   simp;omega
  obtain⟨h1,h2,h3⟩:=c.y0w (w':=w.setCells b (n'*e.size) news) (j:=.l d) (x':=.d (.arr (n'+ys.length) e) (.agg (cs.take n'++ys))) hobj rfl a1 hd hw' (by rw[hsz'];exact hfr0)
   (fun b' hb'=>q2j b news _ w b' hb') (by unfold oof;rw[World.os_setCells,World.output_setCells]) rfl
   (by simp only[V.ty,Ty.size];rw[hsz',Nat.add_mul,r1];exact hfit) (by
    simp only[V.ty,Ty.size];rw[hchunk];exact hrepOf (s8.refl Γ) _ hol2 o42 _ hll rfl) rfl rfl (fun arr T fr h=>by rw[g4]at h;cases h;exact hsz')
  refine w4.val (q0e ho run) ⟨_,h3,h2,h1,(x9 rfl rfl).2 ⟨?_,rfl⟩⟩
  simp only[q8]
  refine .inr ⟨b,.arr (n'+ys.length) e,0,n'+ys.length,cap,by simp[G.addKey,q0d],rfl,by omega,⟨some ⟨b,0,none⟩,by rw[r1],.inr (by simp)⟩,by rw[r1];exact hroom,a6,hlen,(fun c h=>by cases h),fun _=>.inr ⟨sz,s1,?_⟩⟩
  exact s2
 ·exact newb aa cap hv a6 hroom
end
end Go.E
