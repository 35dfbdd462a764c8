/-
 A framework for runs of Go code over abstract data: what it needs, and that it is sound, part 8.
 Conditions: none.
-/
import Derived.Test.YtoademomlabgnaaDoorEg
import Derived.Lib.UnsafeStr
import Derived.Lib.Builder
import Derived.Lib.AppendStr
import Derived.WalkKit
set_option linter.all false
namespace Go.E
open Go
def q8A (w:World) (v:Value) (l:List UInt8):Prop:=
 (v= .slice none 0 0∧l=[])∨∃g cap arr,v= .slice (some ⟨g,0,none⟩) l.length cap∧w.heap[g]? =some (.cells arr 5 (0,0))∧arr.size=cap∧arr.toList.take l.length=u4 l∧l.length≤cap∧cap≤maxLen∧0<cap
def y0L (w w':World) (v v':Value) (l l':List UInt8):Prop:=
 oof w'=oof w∧w.heap.size≤w'.heap.size∧((v'=v∧l'=l∧∀b,b<w.heap.size→w'.heap[b]? =w.heap[b]?)∨
  ∃g cap arr,v'= .slice (some ⟨g,0,none⟩) l'.length cap∧w'.heap[g]? =some (.cells arr 5 (0,0))∧arr.size=cap∧arr.toList.take l'.length=u4 l'∧l'.length≤cap∧cap≤maxLen∧0<cap∧
   (w.heap.size≤g∨v= .slice (some ⟨g,0,none⟩) l.length cap)∧∀b,b<w.heap.size→b≠g→w'.heap[b]? =w.heap[b]?)
theorem U4 (l:List UInt8):(u4 l).length=l.length:=by simp[u4]
theorem q5f (l m:List UInt8):u4 (l++m)=u4 l++u4 m:=by simp[u4]
section
variable {P:Program} {w:World}
theorem y0F {t tx ty:TypeId} {i:TypeInfo} {z:Value} (ht:P.underlying t=some (.slice 5)) (hi:P.info? 5=some i) (hz:i.zero=some z) (h1:i.size=1) (h2:i.bytes=1) (h3:z.cells.size=1)
  {l m:List UInt8} {v x:Value} (hl:(l++m).length≤140737488355328) (hs:Src P 1 tx x m.length (u4 m) w) (hv:q8A w v l):
  ∃v' w',(Builtin.append_ #[t,tx] ty #[v,x]).run P w= .ok v' w'∧y0L w w' v v' l (l++m):=by
 have hs':Src P i.size tx x m.length (u4 m) w:=by rw[h1];exact hs
 rw[List.length_append]at hl
 have hmx:l.length+m.length≤maxLen:=by unfold maxLen;omega
 have hmx':((l.length+m.length:Nat):Int)≤9223372036854775807:=by omega
 have fresh:∀(olds:List Value) (sc:Nat),olds=u4 l→sc<l.length+m.length→y0L w (w.drew.alloc (.cells ((olds++u4 m).toArray++Builtin.zeroCells z.cells (grownCap w (l.length+m.length) sc 5-(l.length+m.length))) 5)) v
   (.slice (some ⟨w.heap.size,0,none⟩) (l.length+m.length) (grownCap w (l.length+m.length) sc 5)) l (l++m):=by
  intro olds sc ho hsc
  subst ho
  have hge:=grownCap_ge w (l.length+m.length) sc 5
  have hcm:=grownCap_le_maxLen w (l.length+m.length) sc 5 hmx
  refine⟨rfl,by simp,.inr ⟨w.heap.size,_,_,by rw[List.length_append],heap_alloc_new w.drew _,?_,?_,by rw[List.length_append];exact hge,hcm,by omega,.inl (Nat.le_refl _),fun b hb _=>heap_alloc_old w.drew _ hb⟩⟩
  ·simp only[Array.size_append,List.size_toArray,List.length_append,size_zeroCells,h3,U4,Nat.mul_one]
   omega
  ·rw[Array.toList_append,List.toList_toArray,←q5f]
   have:(u4 (l++m)).length=(l++m).length:=U4 _
   rw[←this,List.take_left']
   rfl
 by_cases hm:m=[]
 ·subst hm
  refine⟨v,w,?_,rfl,Nat.le_refl _,.inl ⟨rfl,by simp,fun _ _=>rfl⟩⟩
  rcases hv with⟨rfl,_⟩|⟨g,cap,arr,rfl,_,_,_,hle,_⟩
  ·exact q0x ht hi hs' (Nat.le_refl _)
  ·exact q0x ht hi hs' hle
 ·have hml:0<m.length:=List.length_pos_iff.2 hm
  rcases hv with⟨rfl,rfl⟩|⟨g,cap,arr,rfl,hg,hsz,htk,hle,hcm,hc0⟩
  ·have run:=run_append_grow_src (P:=P) w t tx ty 5 i z ht hi hz none 0 0 [] (by simpa[h1]using run_firstCells_none (P:=P) w.drew i.size 0 0 0) x m.length (u4 m) hs' (by omega) (by simpa using hmx') (by
    rw[h2];exact growslice_fits (by omega) (by simp at hl;omega))
   have f:=fresh [] 0 rfl (by simp;omega)
   simp only[List.length_nil]at f
   exact⟨_,_,run,f⟩
  ·by_cases hroom:l.length+m.length≤cap
   ·have run:=run_append_room_src (P:=P) w t tx ty 5 i ht hi g 0 l.length cap x m.length (u4 m) hs' hroom
     (fun j hj=>by
      rw[U4]at hj
      simp[World.cell?,hg]
      rw[h1];omega)
     (fun j hj=>by simp[World.frozen?,hg])
    rw[Nat.zero_add,h1,Nat.mul_one]at run
    obtain⟨arr',hw',harr'⟩:=q2L g (u4 m) l.length w arr 5 (0,0) hg (by rw[U4];omega)
    refine⟨_,_,run,by unfold oof;rw[World.os_setCells,World.output_setCells],by rw[q8E];exact Nat.le_refl _,.inr ⟨g,cap,arr',by rw[List.length_append],hw',?_,?_,by rw[List.length_append];exact hroom,hcm,hc0,.inr rfl,fun b _ hb=>q2k g (u4 m) _ w b hb⟩⟩
    ·rw[←hsz,←Array.length_toList,←Array.length_toList,harr',b7 (by rw[U4];simp;omega)]
    ·rw[harr',w7,htk,q5f]
     have e:(l++m).length=(u4 l++u4 m).length:=by simp[U4]
     rw[e,List.take_left']
     rfl
   ·have hcell:∀j u,(u4 l)[j]? =some u→w.cell? ((⟨g,0,none⟩:Addr).add j)=some u:=fun j u hu=>by
     rw[←htk,List.getElem?_take]at hu
     split at hu
     ·rw[Array.getElem?_toList]at hu
      simp[World.cell?,Addr.add_lit,hg,hu]
     ·cases hu
    have run:=run_append_grow_src (P:=P) w t tx ty 5 i z ht hi hz (some ⟨g,0,none⟩) l.length cap (u4 l) (by
      have:=run_firstCells_some (P:=P) w.drew i.size l.length ⟨g,0,none⟩ l.length cap (u4 l) (by rw[U4,h1,Nat.mul_one]) (by simpa using hcell)
      exact this) x m.length (u4 m) hs' (by omega) hmx' (by
     rw[h2];exact growslice_fits (by omega) (by omega))
    exact⟨_,_,run,fresh (u4 l) cap rfl (by omega)⟩
open RowKit in
theorem z0B {ops:Array Oper} {rest:List Oper} {o:Oper} {a:Act} {Q:Exit→Act→World→Prop} (hgd:o.guard=none) (sl x:Operand) (t u:TypeId)
  (ho:o.op= .call {callee:=.builtin .append,args:=#[sl,x],argTypes:=#[t,u]}) {i:TypeInfo} {z:Value} (ht:P.underlying t=some (.slice 5)) (hi:P.info? 5=some i) (hz:i.zero=some z) (h1:i.size=1) (h2:i.bytes=1) (h3:z.cells.size=1)
  {l m:List UInt8} {v xv:Value} (hsl:a.eval sl=v) (hx:a.eval x=xv) (hl:(l++m).length≤140737488355328) (hs:Src P 1 u xv m.length (u4 m) w) (hv:q8A w v l)
  (h:∀v' w',y0L w w' v v' l (l++m)→wpList P ops Q rest (a.put o.dst v') w'):wpList P ops Q (o::rest) a w:=by
 refine wpList_plain hgd fun K hK=>?_
 obtain⟨v',w',hr,h4⟩:=y0F (ty:=o.type) ht hi hz h1 h2 h3 hl hs hv
 unfold Oper.wp execOp
 simp only[ho,resolve,invoke,builtin,Sem.run_bind,Sem.run_pure,Result.andThen_ok,List.map_toArray,List.map_cons,List.map_nil,hsl,hx,hr]
 exact hK _ _ (h v' w' h4)
end
section
variable {Γ:G} {w w':World} {s:S}
theorem z8.y5z (c:z8 Γ w s) {k:Key} {l:List UInt8} {v:Value}
  (h:(v= .slice none 0 0∧l=[])∨∃g cap,v= .slice (some ⟨g,0,none⟩) l.length cap∧Γ.H g=some (u4 l)∧Γ.κ g=some (.home k .bld,cap)∧l.length≤cap∧cap≤maxLen∧0<cap):q8A w v l:=by
 rcases h with h|⟨g,cap,h1,h2,h3,h4,h5,h6⟩
 ·exact .inl h
 ·obtain⟨_,_,arr,T,a1,a2,a3⟩:=c.hκ g _ _ h3
  have a3:T=5:=a3
  subst a3
  obtain⟨arr',T',fr,r,b1,b2⟩:=c.hH g _ h2
  rw[a1]at b1;cases b1
  refine .inr ⟨g,cap,arr,h1,a1,a2,?_,h4,h5,h6⟩
  rw[b2,←U4 l,List.take_left']
  rfl
theorem z8.y6s (c:z8 Γ w s) {k:Key} {T:TypeId} {l l':List UInt8} {b:Nat} {adr v adr' v':Value} (ho:s.obj k=some (.it l T)) (hι:Γ.ι k=some (b,F0)) (hw:w.heap[b]? =some (.cells #[adr,v] T (0,0)))
  (hv:(v= .slice none 0 0∧l=[])∨∃g cap,v= .slice (some ⟨g,0,none⟩) l.length cap∧Γ.H g=some (u4 l)∧Γ.κ g=some (.home k .bld,cap)∧l.length≤cap∧cap≤maxLen∧0<cap)
  (hoo:oof w'=oof w) (hsz:w.heap.size≤w'.heap.size) (hb':w'.heap[b]? =some (.cells #[adr',v'] T (0,0))) (hadr:adr'= .pointer none∨adr'= .pointer (some ⟨b,0,none⟩)) (hlen:l'.length≤140737488355328) (hpre:∃m,l'=l++m)
  (hrow:(v'=v∧l'=l∧∀b2,b2<w.heap.size→b2≠b→w'.heap[b2]? =w.heap[b2]?)∨
   ∃g cap arr,v'= .slice (some ⟨g,0,none⟩) l'.length cap∧w'.heap[g]? =some (.cells arr 5 (0,0))∧arr.size=cap∧arr.toList.take l'.length=u4 l'∧l'.length≤cap∧cap≤maxLen∧0<cap∧
    (w.heap.size≤g∨v= .slice (some ⟨g,0,none⟩) l.length cap)∧∀b2,b2<w.heap.size→b2≠g→b2≠b→w'.heap[b2]? =w.heap[b2]?):
  ∃Γ',GLe Γ Γ'∧s6 Γ Γ'∧z8 Γ' w' {s with loc:=(k,.it l' T)::s.loc}:=by
 obtain⟨hH,hZ,hlt,_⟩:=c.X7 hι ho rfl
 have hdk:s.o6 k=false:=by rw[j6 ho];rfl
 have hdom:∀j,Γ.ι j≠none→S.obj {s with loc:=(k,.it l' T)::s.loc} j≠none:=fun j h=>by
  rw[u3]
  split
  ·simp
  ·exact c.dom j h
 have nek:∀j b2 τ o,k≠j→Γ.ι j=some (b2,τ)→s.obj j=some o→o.Y6=false→b2≠b:=fun j b2 τ o hj h1 h2 h3 e=>by
  subst e
  exact hj (c.z98 hι h1 hdk (by rw[j6 h2];exact h3))
 rcases hrow with⟨rfl,rfl,hsame⟩|⟨g,cap,arr,rfl,hg,hasz,htk,hle,hcm,hc0,hgv,hsame⟩
 ·refine⟨Γ,.refl Γ,.refl Γ,?_⟩
  refine c.change (.refl Γ) rfl rfl rfl hoo (fun b2 l0 h=>?_) (fun b2 h=>hsame b2 (c.Zlt h) fun e=>by subst e;exact h hZ) (fun b2 o sz h=>?_) (fun j o h=>?_) (fun _ h _=>h) hdom (fun b2 sz h=>?_) (c.q5a (q2y fun h=>by rw[hdk]at h;cases h)) c.tok c.tdom hsz
  ·rw[hsame b2 (c.Hlt (by rw[h];simp)) (fun e=>by subst e;rw[hH]at h;cases h)];exact c.hH b2 l0 h
  ·obtain⟨a1,a2,a3⟩:=c.hκ b2 o sz h
   rw[hsame b2 (c.Hlt a2) (fun e=>by subst e;exact a2 hH)];exact⟨a1,a2,a3⟩
  ·rw[u3]at h
   split at h
   ·rename_i e
    subst e;cases h
    exact .inr ⟨b,adr',v',hι,hH,hZ,hb',hadr,hlen,hv⟩
   ·rename_i e
    refine .inl ⟨h,fun hd=>⟨fun _ _ _ _=>⟨rfl,rfl⟩,fun b2 τ' hb=>?_⟩⟩
    obtain⟨a1,a2,a3,_⟩:=c.X7 hb h hd
    exact⟨hsame b2 a3 (nek j b2 τ' o e hb h hd),a1⟩
  ·obtain⟨arr,T1,fr,a1,a2⟩:=c.hσ b2 sz h
   by_cases e:b2=b
   ·subst e
    rw[hw]at a1;cases a1
    exact⟨_,_,_,hb',a2⟩
   ·exact⟨arr,T1,fr,by rw[hsame b2 (j5 a1) e];exact a1,a2⟩
 · -- the row's place
  have hgz:Γ.Z g=none:=by
   rcases hgv with h|h
   ·cases hz:Γ.Z g with
    |none=>rfl
    |some x=>exact absurd (c.Zlt (by rw[hz];simp)) (by omega)
   ·rcases hv with⟨h',_⟩|⟨g2,cap2,h',a1,a2,_⟩
    ·rw[h]at h';cases h'
    ·rw[h]at h';cases h'
     exact(c.hκ g _ _ a2).1
  have hgκ:∀o sz,Γ.κ g=some (o,sz)→o= .home k .bld∧sz=cap:=by
   intro o sz hk
   rcases hgv with h|h
   ·exact absurd (c.κlt (by rw[hk];simp)) (by omega)
   ·rcases hv with⟨h',_⟩|⟨g2,cap2,h',a1,a2,_⟩
    ·rw[h]at h';cases h'
    ·rw[h]at h';cases h'
     rw[hk]at a2;cases a2;exact⟨rfl,rfl⟩
  have hgH:∀l0,Γ.H g=some l0→l0=u4 l:=by
   intro l0 hk
   rcases hgv with h|h
   ·exact absurd (c.Hlt (by rw[hk];simp)) (by omega)
   ·rcases hv with⟨h',_⟩|⟨g2,cap2,h',a1,a2,_⟩
    ·rw[h]at h';cases h'
    ·rw[h]at h';cases h'
     rw[hk]at a1;cases a1;rfl
  have hgι:∀j b2 τ o,Γ.ι j=some (b2,τ)→s.obj j=some o→o.Y6=false→b2≠g:=by
   intro j b2 τ o h1 h2 h3 e
   subst e
   obtain⟨a1,a2,a3,_⟩:=c.X7 h1 h2 h3
   rcases hgv with h|h
   ·omega
   ·rcases hv with⟨h',_⟩|⟨g2,cap2,h',q1,q2,_⟩
    ·rw[h]at h';cases h'
    ·rw[h]at h';cases h'
     rw[a1]at q1;cases q1
  have hbg:b≠g:=hgι k b _ _ hι ho rfl
  obtain⟨m,rfl⟩:=hpre
  have hle':Γ.H.le (r8 Γ.H g (u4 (l++m))):=fun b2 l0 h=>by
   by_cases e:b2=g
   ·subst e
    refine⟨u4 m,?_⟩
    rw[w9,hgH l0 h,q5f]
   ·exact⟨[],by rw[j3 _ _ e,h];simp⟩
  refine⟨{Γ with H:=r8 Γ.H g (u4 (l++m)),κ:=r8 Γ.κ g (.home k .bld,cap)},⟨hle',rfl,fun b2 h=>j3 _ _ fun e=>by subst e;exact h hgz,fun _ _ h=>h,rfl,rfl,fun _ _ h=>h,fun _ h=>h⟩,
   ⟨hle',fun _ _ h=>h,fun t x L h=>⟨x,L,h,Nat.le_refl _,fun _=>rfl⟩,fun _ _ h=>h⟩,?_⟩
  refine c.change (Γ':={Γ with H:=r8 Γ.H g (u4 (l++m)),κ:=r8 Γ.κ g (.home k .bld,cap)}) ⟨hle',fun _ _ h=>h,fun t x L h=>⟨x,L,h,Nat.le_refl _,fun _=>rfl⟩,fun _ _ h=>h⟩ rfl rfl rfl hoo (fun b2 l0 h=>?_)
   (fun b2 h=>hsame b2 (c.Zlt h) (fun e=>by subst e;exact h hgz) fun e=>by subst e;exact h hZ) (fun b2 o sz h=>?_) (fun j o h=>?_) (fun _ h _=>h) hdom (fun b2 sz h=>?_) (c.q5a (q2y fun h=>by rw[hdk]at h;cases h)) (fun t L h=>?_) c.tdom hsz
  ·by_cases e:b2=g
   ·subst e
    have h':r8 Γ.H b2 (u4 (l++m)) b2=some l0:=h
    rw[w9]at h';cases h'
    exact⟨arr,5,(0,0),arr.toList.drop (l++m).length,hg,by rw[←htk,List.take_append_drop]⟩
   ·have h':Γ.H b2=some l0:=(j3 _ _ e).symm.trans h
    rw[hsame b2 (c.Hlt (by rw[h'];simp)) e (fun e=>by subst e;rw[hH]at h';cases h')];exact c.hH b2 l0 h'
  ·by_cases e:b2=g
   ·subst e
    have h':r8 Γ.κ b2 (.home k .bld,cap) b2=some (o,sz):=h
    rw[w9]at h';cases h'
    exact⟨hgz,by show r8 Γ.H b2 (u4 (l++m)) b2≠none;rw[w9];simp,arr,5,hg,hasz,rfl⟩
   ·have h':Γ.κ b2=some (o,sz):=(j3 _ _ e).symm.trans h
    obtain⟨a1,a2,a3⟩:=c.hκ b2 o sz h'
    rw[hsame b2 (c.Hlt a2) e (fun e=>by subst e;exact a2 hH)]
    exact⟨a1,by show r8 Γ.H g (u4 (l++m)) b2≠none;rw[j3 _ _ e];exact a2,a3⟩
  ·rw[u3]at h
   split at h
   ·rename_i e
    subst e;cases h
    exact .inr ⟨b,adr',_,hι,by show r8 Γ.H g (u4 (l++m)) b=none;rw[j3 _ _ hbg];exact hH,hZ,hb',hadr,hlen,.inr ⟨g,cap,rfl,w9 _ _ _,w9 _ _ _,hle,hcm,hc0⟩⟩
   ·rename_i e
    refine .inl ⟨h,fun hd=>⟨fun b2 p sz hk=>?_,fun b2 τ' hb=>?_⟩⟩
    ·have hne:b2≠g:=fun e2=>by
      subst e2
      obtain⟨q,_⟩:=hgκ _ _ hk
      cases q
      exact e rfl
     exact⟨j3 _ _ hne,j3 _ _ hne⟩
    ·obtain⟨a1,a2,a3,_⟩:=c.X7 hb h hd
     have hne:=hgι j b2 τ' o hb h hd
     exact⟨hsame b2 a3 hne (nek j b2 τ' o e hb h hd),(j3 _ _ hne).trans a1⟩
  ·obtain⟨arr1,T1,fr,a1,a2⟩:=c.hσ b2 sz h
   by_cases e:b2=b
   ·subst e
    rw[hw]at a1;cases a1
    exact⟨_,_,_,hb',a2⟩
   ·by_cases e2:b2=g
    ·subst e2
     refine⟨arr,5,(0,0),hg,?_⟩
     rcases hgv with h'|h'
     ·have:=j5 a1;omega
     ·rcases hv with⟨h2,_⟩|⟨g2,cap2,h2,q1,q2,_⟩
      ·rw[h']at h2;cases h2
      ·rw[h']at h2;cases h2
       obtain⟨_,_,arr2,T2,b1,b2,_⟩:=c.hκ b2 _ _ q2
       rw[a1]at b1;cases b1
       omega
    ·exact⟨arr1,T1,fr,by rw[hsame b2 (j5 a1) e2 e];exact a1,a2⟩
  ·obtain⟨x,h1,h2⟩:=c.tok t L h
   refine⟨x,h1,fun b2 pos sz hx=>?_⟩
   obtain⟨⟨l0,a1,a2⟩,a3⟩:=h2 b2 pos sz hx
   have hne:b2≠g:=fun e=>by subst e;have:=(hgκ _ _ a3).1;cases this
   exact⟨⟨l0,(j3 _ _ hne).trans a1,a2⟩,(j3 _ _ hne).trans a3⟩
theorem z8.y14 (c:z8 Γ w s) {k:Key} {T:TypeId} {l:List UInt8} {b:Nat} {adr v:Value} (ho:s.obj k=some (.it l T)) (hι:Γ.ι k=some (b,F0)) (hw:w.heap[b]? =some (.cells #[adr,v] T (0,0))) (h1c:U5 [adr,v])
  (hoo:oof w'=oof w) (hsz:w.heap.size≤w'.heap.size) (gopt:Option Nat) (hg:∀g,gopt=some g→(∃sz,Γ.κ g=some (.home k .bld,sz))∧∃arr T2 fr,w.heap[g]? =some (.cells arr T2 (0,0))∧w'.heap[g]? =some (.cells arr T2 fr))
  (hsame:∀b2,b2<w.heap.size→some b2≠gopt→w'.heap[b2]? =w.heap[b2]?):
  ∃Γ',GLe Γ Γ'∧s6 Γ Γ'∧z8 Γ' w' {s with loc:=(k,.box (.top F0))::s.loc}:=by
 obtain⟨hH,hZ,hlt,_⟩:=c.X7 hι ho rfl
 have hdk:s.o6 k=false:=by rw[j6 ho];rfl
 have gk:∀g,gopt=some g→Γ.H g≠none∧Γ.Z g=none:=fun g h=>by
  obtain⟨⟨sz,h1⟩,_⟩:=hg g h
  exact⟨(c.hκ g _ _ h1).2.1,(c.hκ g _ _ h1).1⟩
 have hbg:some b≠gopt:=fun e=>(gk b e.symm).1 hH
 have pr:s6 Γ {Γ with κ:=fun b2=>if some b2=gopt then none else Γ.κ b2}:=⟨Hp.le_refl _,fun _ _ h=>h,fun t x L h=>⟨x,L,h,Nat.le_refl _,fun _=>rfl⟩,fun _ _ h=>h⟩
 refine⟨{Γ with κ:=fun b2=>if some b2=gopt then none else Γ.κ b2},⟨Hp.le_refl _,rfl,fun _ _=>rfl,fun _ _ h=>h,rfl,rfl,fun _ _ h=>h,fun _ h=>h⟩,pr,?_⟩
 have cells:∀(b2:Nat) (arr:Array Value) (T2:TypeId) (fr:Nat × Nat),w.heap[b2]? =some (Obj.cells arr T2 fr)→∃fr',w'.heap[b2]? =some (Obj.cells arr T2 fr'):=fun b2 arr T2 fr h=>by
  by_cases e:some b2=gopt
  ·obtain⟨_,arr',T',fr',a1,a2⟩:=hg b2 e.symm
   rw[h]at a1;cases a1
   exact⟨fr',a2⟩
  ·exact⟨fr,by rw[hsame b2 (j5 h) e];exact h⟩
 refine c.change pr rfl rfl rfl hoo (fun b2 l0 h=>?_) (fun b2 h=>hsame b2 (c.Zlt h) fun e=>h (gk b2 e.symm).2) (fun b2 o sz h=>?_) (fun j o h=>?_) (fun _ h _=>h) (fun j h=>?_) (fun b2 sz h=>?_) (c.q5a (q2y fun h=>by rw[hdk]at h;cases h)) (fun t L h=>?_) c.tdom hsz
 ·obtain⟨arr,T2,fr,r,a1,a2⟩:=c.hH b2 l0 h
  obtain⟨fr',a3⟩:=cells b2 _ _ _ a1
  exact⟨arr,T2,fr',r,a3,a2⟩
 ·by_cases e:some b2=gopt
  ·simp[e]at h
  ·have h':Γ.κ b2=some (o,sz):=by simpa[e]using h
   obtain⟨a1,a2,a3⟩:=c.hκ b2 o sz h'
   rw[hsame b2 (c.Hlt a2) e]
   exact⟨a1,a2,a3⟩
 ·rw[u3]at h
  split at h
  ·rename_i e
   subst e;cases h
   refine .inr ⟨b,#[adr,v],T,hι,hH,hZ,by rw[hsame b hlt hbg];exact hw,Nat.le_refl _,?_,rfl,rfl⟩
   simp only[q8]
   refine⟨rfl,h1c,fun h=>by cases h⟩
  ·rename_i e
   refine .inl ⟨h,fun hd=>⟨fun b2 p sz hk=>⟨?_,rfl⟩,fun b2 τ' hb=>?_⟩⟩
   ·by_cases e2:some b2=gopt
    ·obtain⟨⟨sz2,h1⟩,_⟩:=hg b2 e2.symm
     rw[hk]at h1;cases h1
     exact absurd rfl e
    ·simp[e2]
   ·obtain⟨a1,a2,a3,_⟩:=c.X7 hb h hd
    exact⟨hsame b2 a3 fun e2=>(gk b2 e2.symm).1 a1,a1⟩
 ·rw[u3]
  split
  ·simp
  ·exact c.dom j h
 ·obtain⟨arr,T2,fr,a1,a2⟩:=c.hσ b2 sz h
  obtain⟨fr',a3⟩:=cells b2 _ _ _ a1
  exact⟨arr,T2,fr',a3,a2⟩
 ·obtain⟨x,h1,h2⟩:=c.tok t L h
  refine⟨x,h1,fun b2 pos sz hx=>?_⟩
  obtain⟨a0,a3⟩:=h2 b2 pos sz hx
  refine⟨a0,?_⟩
  by_cases e2:some b2=gopt
  ·obtain⟨⟨sz2,h1⟩,_⟩:=hg b2 e2.symm
   rw[a3]at h1;cases h1
  ·simpa[e2]using a3
end
end Go.E
namespace Go.E
open Go
def u1:Ty:=.struct 36 [0,1,2,3,35] [(.int .u64),(.int .i64),(.int .u64),(.arr 32 (.int .u8)),(.int .u64)]
@[go_sem] theorem y5R:u1.known=true:=rfl
@[go_sem] theorem y34:u1.J3=true:=rfl
@[go_sem] theorem y5S:u1.isAgg=true:=rfl
@[go_sem] theorem y56:u1.size=36:=rfl
@[go_sem] theorem y5b:u1.q1w=[(.int .u64),(.int .i64),(.int .u64),(.arr 32 (.int .u8)),(.int .u64)]:=rfl
@[go_sem] theorem y57:u1.kids=5:=rfl
@[go_sem] theorem y6d:u1.W4=true:=by kernel_rfl
@[go_sem] theorem y6c:u1.get 0=(.int .u64):=rfl
@[go_sem] theorem y5g:u1.child 0=some (0,(.int .u64)):=rfl
@[go_sem] theorem y6b:u1.get 1=(.int .i64):=rfl
@[go_sem] theorem y5f:u1.child 1=some (1,(.int .i64)):=rfl
@[go_sem] theorem y6a:u1.get 2=(.int .u64):=rfl
@[go_sem] theorem y5e:u1.child 2=some (2,(.int .u64)):=rfl
@[go_sem] theorem y59:u1.get 3=(.arr 32 (.int .u8)):=rfl
@[go_sem] theorem y5d:u1.child 3=some (3,(.arr 32 (.int .u8))):=rfl
@[go_sem] theorem y58:u1.get 4=(.int .u64):=rfl
@[go_sem] theorem y5c:u1.child 4=some (35,(.int .u64)):=rfl
@[go_sem] theorem y5Q:u9 u1= .agg [(.int 0),(.int 0),(.int 0),(u9 (.arr 32 (.int .u8))),(.int 0)]:=rfl
@[go_sem] theorem y55:o5 u1= .d u1 (u9 u1):=rfl
def v7:Ty:=.struct 7 [0,1,2,4,6] [(.int .u32),(.int .u64),(.arr 2 (.int .u64)),(.arr 2 (.int .u64)),(.slice 64 u1)]
@[go_sem] theorem y47:v7.known=true:=rfl
@[go_sem] theorem y3F:v7.J3=true:=rfl
@[go_sem] theorem y48:v7.isAgg=true:=rfl
@[go_sem] theorem y5I:v7.size=7:=rfl
@[go_sem] theorem y4U:v7.q1w=[(.int .u32),(.int .u64),(.arr 2 (.int .u64)),(.arr 2 (.int .u64)),(.slice 64 u1)]:=rfl
@[go_sem] theorem y5J:v7.kids=5:=rfl
@[go_sem] theorem y5P:v7.W4=true:=by kernel_rfl
@[go_sem] theorem y5O:v7.get 0=(.int .u32):=rfl
@[go_sem] theorem y4Z:v7.child 0=some (0,(.int .u32)):=rfl
@[go_sem] theorem y5N:v7.get 1=(.int .u64):=rfl
@[go_sem] theorem y4Y:v7.child 1=some (1,(.int .u64)):=rfl
@[go_sem] theorem y5M:v7.get 2=(.arr 2 (.int .u64)):=rfl
@[go_sem] theorem y4X:v7.child 2=some (2,(.arr 2 (.int .u64))):=rfl
@[go_sem] theorem y5L:v7.get 3=(.arr 2 (.int .u64)):=rfl
@[go_sem] theorem y4W:v7.child 3=some (4,(.arr 2 (.int .u64))):=rfl
@[go_sem] theorem y5K:v7.get 4=(.slice 64 u1):=rfl
@[go_sem] theorem y4V:v7.child 4=some (6,(.slice 64 u1)):=rfl
@[go_sem] theorem y46:u9 v7= .agg [(.int 0),(.int 0),(u9 (.arr 2 (.int .u64))),(u9 (.arr 2 (.int .u64))),(.slice [])]:=rfl
@[go_sem] theorem y5H:o5 v7= .agg v7 [o5 (.int .u32),o5 (.int .u64),o5 (.arr 2 (.int .u64)),o5 (.arr 2 (.int .u64)),o5 (.slice 64 u1)]:=rfl
def tOp:Ty:=.struct 39 [0,1,2,38] [(.int .i64),(.int .u64),u1,(.int .u64)]
@[go_sem] theorem y6A:tOp.known=true:=rfl
@[go_sem] theorem y49:tOp.J3=true:=rfl
@[go_sem] theorem y6B:tOp.isAgg=true:=rfl
@[go_sem] theorem y6R:tOp.size=39:=rfl
@[go_sem] theorem y50:tOp.q1w=[(.int .i64),(.int .u64),u1,(.int .u64)]:=rfl
@[go_sem] theorem y6S:tOp.kids=4:=rfl
@[go_sem] theorem y6X:tOp.W4=true:=by kernel_rfl
@[go_sem] theorem y6W:tOp.get 0=(.int .i64):=rfl
@[go_sem] theorem y54:tOp.child 0=some (0,(.int .i64)):=rfl
@[go_sem] theorem y6V:tOp.get 1=(.int .u64):=rfl
@[go_sem] theorem y53:tOp.child 1=some (1,(.int .u64)):=rfl
@[go_sem] theorem y6U:tOp.get 2=u1:=rfl
@[go_sem] theorem y52:tOp.child 2=some (2,u1):=rfl
@[go_sem] theorem y6T:tOp.get 3=(.int .u64):=rfl
@[go_sem] theorem y51:tOp.child 3=some (38,(.int .u64)):=rfl
@[go_sem] theorem y6z:u9 tOp= .agg [(.int 0),(.int 0),(u9 u1),(.int 0)]:=rfl
@[go_sem] theorem y6Q:o5 tOp= .d tOp (u9 tOp):=rfl
end Go.E
