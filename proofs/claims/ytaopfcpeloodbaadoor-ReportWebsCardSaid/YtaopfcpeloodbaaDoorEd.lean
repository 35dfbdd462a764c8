/-
 A framework for runs of Go code over abstract data: what it needs, and that it is sound, part 4.
 Conditions: none.
-/
import Derived.Test.YtaopfcpeloodbaaDoorEc
set_option linter.all false
namespace Go.E
open Go
section
variable {P:Program} {Γ:G} {w w':World} {s:S}
theorem q16 (a:Addr):∀(n i:Nat) (acc arr:Array Value) (w':World),(loadCellsFrom a i n acc).run P w= .ok arr w'→∀k,k≤n→
  ∃l r:List Value,arr=acc++(l++r).toArray∧l.length=k∧(loadCellsFrom a i k acc).run P w= .ok (acc++l.toArray) w
 |0,i,acc,arr,w',h,k,hk=>by
  have:k=0:=by omega
  subst this
  simp[loadCellsFrom]at h
  exact⟨[],[],by simp[h.1],rfl,by simp[loadCellsFrom]⟩
 |n+1,i,acc,arr,w',h,k,hk=>by
  have step:∀(m:Nat),(loadCellsFrom a i (m+1) acc).run P w=((load (a.add i)).run P w).andThen fun v w1=>(loadCellsFrom a (i+1) m (acc.push v)).run P w1:=by
   intro m
   conv=>lhs;unfold loadCellsFrom
   rw[Sem.run_bind]
  rw[step]at h
  have hl:∃v,(load (a.add i)).run P w= .ok v w:=by
   rw[run_load]at h ⊢
   cases hc:w.cell? (a.add i)with
   |some v=>exact⟨v,rfl⟩
   |none=>
    rw[hc]at h
    dsimp only at h ⊢
    cases hf:w.farLoad P (a.add i) (Mode.plain== .atomic)with
    |ok x=>obtain⟨v,y⟩:=x;exact⟨v,rfl⟩
    |error e=>rw[hf]at h;cases h
  obtain⟨v,hv⟩:=hl
  rw[hv]at h
  simp only[Result.andThen_ok]at h
  cases k with
  |zero=>
   obtain⟨l,r,h1,h2,_⟩:=q16 a n (i+1) (acc.push v) arr w' h 0 (Nat.zero_le _)
   have:l=[]:=List.eq_nil_of_length_eq_zero h2
   subst this
   exact⟨[],v::r,by simp[h1],rfl,by simp[loadCellsFrom]⟩
  |succ k=>
   obtain⟨l,r,h1,h2,h3⟩:=q16 a n (i+1) (acc.push v) arr w' h k (by omega)
   refine⟨v::l,r,by simp[h1],by simp[h2],?_⟩
   rw[step,hv]
   simp only[Result.andThen_ok,h3]
   simp
theorem z2q {sz n k:Nat} {x:Value} {news:List Value} (h:(Builtin.firstCells sz n x).run P w= .ok news.toArray w) (hl:news.length=n*sz) (hk:k≤n) (hlen:∀s,x= .string s→n≤s.size∧sz=1):(Builtin.firstCells sz k x).run P w= .ok (news.take (k*sz)).toArray w:=by
 cases x <;> (try (simp[Builtin.firstCells]at h;done))
 case slice a len cap=>
  cases a with
  |none=>
   simp only[Builtin.firstCells,Sem.run_pure,Result.ok.injEq]at h ⊢
   have:news=[]:=by have:=h.1;cases news <;> simp at this ⊢
   subst this
   simp
  |some ad=>
   simp only[Builtin.firstCells,loadCells]at h ⊢
   obtain⟨l,r,h1,h2,h3⟩:=q16 ad (n*sz) 0 #[] _ _ h (k*sz) (Nat.mul_le_mul_right _ hk)
   rw[h3]
   have h1':news=l++r:=by simpa using h1
   simp[h1',←h2]
 case string s=>
  obtain⟨h1,rfl⟩:=hlen s rfl
  simp only[Builtin.firstCells,Sem.run_pure,Result.ok.injEq,and_true]at h ⊢
  have e:news=(s.extract 0 n).data.toList.map fun b=>Value.int .u8 b.toNat:=by
   have:=congrArg Array.toList h
   simpa using this.symm
  subst e
  apply Array.toList_inj.1
  simp only[Array.toList_map,List.toList_toArray,Nat.mul_one,←List.map_take]
  congr 1
  rw[ByteArray.data_extract,ByteArray.data_extract]
  simp[Array.toList_extract,List.extract_eq_take_drop,List.take_take,Nat.min_eq_left hk]
def q3C (cs:List C) (lo n:Nat) (ys:List C):List C:=cs.take lo++ys.take n++cs.drop (lo+min ys.length n)
theorem z7h {cs:List C} {lo n:Nat} {ys:List C} (h:lo+n≤cs.length):(q3C cs lo n ys).length=cs.length:=by
 simp[q3C];omega
theorem y35 (hP:x4 P=true) (c:z8 Γ w s) {o:Oper} {a:Act} {x y:Operand} {t t':TypeId} {k:Key} {q:List Nat} {lo n cp m:Nat} {X Y:V} {cc:C} {ys:List C} {eb:Nat} {e:Ty}
  (ho:o.op= .call {callee:=.builtin .copy,args:=#[x,y],argTypes:=#[t,t']}) (ht:ty P t= .slice eb e)
  (hobj:s.obj k=some (.box X)) (hX:X.at q= .d (.arr m e) cc) (hd:X.ty.W6=true) (h0:0<n) (hz:Q9 P (y7 P t)=true)
  (hx:q9 Γ (.sr k q lo n (some cp) eb e) (a.eval x)) (hy:q9 Γ Y (a.eval y)) (hel:q5d P s t' eb e Y ys):
  w4 P o a w (u2 Γ w {s with loc:=(k,.box (X.setAt q (.d (.arr m e) (.agg (q3C cc.elems lo n ys)))))::s.loc} (.d (.int .i64) (.int (min ys.length n:Nat)))):=by
 obtain⟨hu,he,heb,hE⟩:=q1a hP ht
 obtain⟨m',news,hs,r1,r2,r3,r4⟩:=q6V c hy hel
 rcases q0j hx with⟨h1,_⟩|⟨b,τ0,o0,M,cap,aa,a1,a2,a3,hv,a4,a5,a6,a7,a8,_⟩
 ·cases h1
 obtain⟨b2,cells,E,e1,e2,e3,e4,e5,e6,e7,e8⟩:=c.own a1 hobj
 obtain⟨fr0,e4,hfr0⟩:=e4
 rw[a1]at e1
 cases e1
 obtain⟨g1,g2,g3⟩:=e6.at_ a2 (by rw[hX];simp) e7
 have hcl:(chunk cells.toList 0 X.ty.size).length=X.ty.size:=u9 _ _ _ (by simpa using e5)
 rw[hcl]at g2
 rw[hX]at g1 g3
 simp only[V.ty,Ty.arr.injEq]at g1
 obtain⟨rfl,_⟩:=g1
 rw[o5 _ _ _ _ _ g2,Nat.zero_add]at g3
 simp only[q8,z7]at g3
 obtain⟨cs,rfl,q1,q2,q3,q4⟩:=g3
 simp only[C.elems,Ty.size]at*
 obtain⟨i,z,hi,hzz,hzo,hzo2⟩:=q2Z hz
 have hsz:i.size=e.size:=by
  have:=j3 hP 11 (y7 P t)
  rw[he,this];simp[Program.cellsOf,hi]
 have haa:aa=some ⟨b,o0+lo*e.size,none⟩:=by
  rcases a4 with a4|a4
  ·omega
  ·exact a4
 subst haa
 have hnl:news.length=m'*e.size:=hs.newsLen
 have hk1:min m' n≤m':=Nat.min_le_left _ _
 have hk2:min m' n≤n:=Nat.min_le_right _ _
 have hft:=z2q (k:=min m' n) hs.cells hnl hk1 (fun st hst=>by
  rcases hel with⟨_,h2|⟨rfl,_⟩⟩|⟨_,hYs,h3,h4,h5⟩
  · -- a slice is no string
   exfalso
   obtain⟨_,_,_,h6⟩:=q6W hy h2
   rw[hst]at h6;cases h6
  ·rw[Z5 hy]at hst;cases hst
  ·obtain⟨c0,rfl⟩:=V.q2X hYs
   obtain⟨h6,_,h7⟩:=U3 hy
   rw[h6]at hst;cases hst
   have:m'=c0.toStr.length:=by rw[←r1,h5];simp[V.toStr]
   refine⟨by rw[this];simp[ByteArray.size],by rw[h3];rfl⟩)
 have htl:(news.take (min m' n*e.size)).length=min m' n*e.size:=by
  have:=Nat.mul_le_mul_right e.size hk1
  simp;omega
 have hMs:(lo+n)*e.size≤m*e.size:=Nat.mul_le_mul_right _ a3
 have hks:min m' n*e.size≤n*e.size:=Nat.mul_le_mul_right _ hk2
 rw[Nat.add_mul]at hMs
 have hfit:o0+lo*e.size+0+(news.take (min m' n*e.size)).length≤cells.size:=by rw[htl];omega
 have hst:=q2V P b (o0+lo*e.size) E fr0 (news.take (min m' n*e.size)) 0 cells w e4 hfr0 hfit (fun v hv=>hs.one v (List.mem_of_mem_take hv))
 have hrun:(Builtin.copy_ #[t,t'] o.type #[.slice (some ⟨b,o0+lo*e.size,none⟩) n cap,a.eval y]).run P w= .ok (goInt ((min m' n:Nat):Int)) (w.setRow b (w7 cells.toList (o0+lo*e.size) (news.take (min m' n*e.size))).toArray):=by
  simp only[Nat.add_zero]at hst
  simp[Builtin.copy_,run_underlying hu,hs.len,sizeOf,typeInfo,hi,hsz,hft,hst,w7]
  try (exact congrArg goInt (by rw[show m'.min n=min m' n from rfl];omega))
 -- the array anew
 have hl0:o0+lo*e.size+(news.take (min m' n*e.size)).length≤cells.toList.length:=by rw[htl];simp;omega
 have hs2:(w7 cells.toList (o0+lo*e.size) (news.take (min m' n*e.size))).toArray.size=cells.size:=by simp only[List.size_toArray,Q7 hl0];simp
 have hnew:chunk (w7 cells.toList (o0+lo*e.size) (news.take (min m' n*e.size))) o0 (m*e.size)=w7 (chunk cells.toList o0 (m*e.size)) (lo*e.size) (news.take (min m' n*e.size)):=
  z2N (by simp;omega) (by rw[htl];omega) rfl
 have hsl:(w7 (chunk cells.toList o0 (m*e.size)) (lo*e.size) (news.take (min m' n*e.size))).length=m*e.size:=by
  rw[Q7 (by rw[q2,htl];omega),q2]
 have hcs:(q3C cs lo n ys).length=m:=by rw[z7h (by omega),q1]
 have helem:∀j c',(q3C cs lo n ys)[j]? =some c'→z7 Γ.H e (chunk (w7 (chunk cells.toList o0 (m*e.size)) (lo*e.size) (news.take (min m' n*e.size))) (j*e.size) e.size) c':=by
  intro j c' hj
  have hjl:j<m:=by rw[←hcs];exact(List.getElem?_eq_some_iff.1 hj).1
  have hjm:(j+1)*e.size≤m*e.size:=Nat.mul_le_mul_right _ hjl
  rw[Nat.add_mul]at hjm
  have hlo:lo≤cs.length:=by omega
  unfold q3C at hj
  by_cases h1:j<lo
  ·rw[List.append_assoc,List.getElem?_append_left (by simp;omega),List.getElem?_take,if_pos h1]at hj
   have hjlo:(j+1)*e.size≤lo*e.size:=Nat.mul_le_mul_right _ h1
   rw[Nat.add_mul]at hjlo
   rw[H8 (by rw[q2,htl];omega) (.inl (by omega))]
   exact q4 j c' hj
  ·by_cases h2:j<lo+min ys.length n
   ·rw[List.append_assoc,List.getElem?_append_right (by simp;omega),List.getElem?_append_left (by simp;omega)]at hj
    simp only[List.length_take,Nat.min_eq_left hlo]at hj
    rw[List.getElem?_take]at hj
    split at hj
    ·rename_i hjn
     have h3:=r4 _ _ hj
     have hjk:j-lo<min m' n:=by rw[r1]at h2;omega
     have hjk2:(j-lo+1)*e.size≤min m' n*e.size:=Nat.mul_le_mul_right _ hjk
     rw[Nat.add_mul]at hjk2
     have e9:j*e.size=lo*e.size+(j-lo)*e.size:=by rw[←Nat.add_mul];congr 1;omega
     have e10:chunk (w7 (chunk cells.toList o0 (m*e.size)) (lo*e.size) (news.take (min m' n*e.size))) (j*e.size) e.size=chunk news ((j-lo)*e.size) e.size:=by
      apply List.ext_getElem?
      intro u
      rw[w5,w5]
      split
      ·rename_i hu2
       rw[Z3 (by rw[q2,htl];omega),if_pos (by rw[htl];omega),List.getElem?_take,if_pos (by omega)]
       congr 1;omega
      ·rfl
     rw[e10];exact h3
    ·cases hj
   ·rw[List.getElem?_append_right (by simp;omega),List.getElem?_drop]at hj
    simp only[List.length_append,List.length_take,Nat.min_eq_left hlo]at hj
    have hj2:cs[j]? =some c':=by
     rw[←hj];congr 1
     have:min n ys.length=min ys.length n:=Nat.min_comm _ _
     omega
    have h5:min m' n*e.size+lo*e.size≤j*e.size:=by
     rw[←Nat.add_mul]
     refine Nat.mul_le_mul_right _ ?_
     rw[r1]at h2;omega
    rw[H8 (by rw[q2,htl];omega) (.inr (by rw[htl];omega))]
    exact q4 j c' hj2
 have hY:q8 Γ (some k) q (.d (.arr m e) (.agg (q3C cs lo n ys))) (w7 (chunk cells.toList o0 (m*e.size)) (lo*e.size) (news.take (min m' n*e.size))):=by
  simp only[q8,z7]
  exact⟨_,rfl,hcs,hsl,q03 hcs hsl helem,helem⟩
 obtain⟨s1,s2,s3⟩:=q8.setAt (q:=q) (p:=[]) (y:=.d (.arr m e) (.agg (q3C cs lo n ys))) e6 e7 hd a2 (by rw[hX];simp) (by simpa using hY) rfl
 have hsp:w7 cells.toList (o0+lo*e.size) (news.take (min m' n*e.size))=w7 cells.toList o0 (w7 (chunk cells.toList o0 (m*e.size)) (lo*e.size) (news.take (min m' n*e.size))):=by
  apply List.ext_getElem?
  intro u
  rw[Z3 hl0,Z3 (by rw[hsl];simp;omega),hsl,htl]
  by_cases hu1:o0≤u∧u<o0+m*e.size
  ·rw[if_pos hu1,Z3 (by rw[q2,htl];omega),htl]
   by_cases hu2:o0+lo*e.size≤u∧u<o0+lo*e.size+min m' n*e.size
   ·rw[if_pos hu2,if_pos (by omega)];congr 1;omega
   ·rw[if_neg hu2,if_neg (by omega),w5,if_pos (by omega)];congr 1;omega
  ·rw[if_neg hu1,if_neg (by omega)]
 have c':=c.write (x':=X.setAt q (.d (.arr m e) (.agg (q3C cs lo n ys)))) (cells':=(w7 cells.toList (o0+lo*e.size) (news.take (min m' n*e.size))).toArray) (w':=w.setRow b (w7 cells.toList (o0+lo*e.size) (news.take (min m' n*e.size))).toArray) hobj a1
  (setRow_heap w b cells _ E fr0 e4) (by rw[hs2];exact hfr0) (fun b' hb'=>setRow_other w b b' _ hb') rfl (by rw[s2,hs2];exact e5)
  (by rw[s2,List.toList_toArray,hsp,q8k _ _ (by rw[hsl];exact g2) (by simpa using e5)];exact s1) s2 s3 (V.q5h q X _ e8 rfl) (fun arr T fr h=>by rw[e4]at h;cases h;exact hs2)
 refine w4.val (v:=goInt ((min m' n:Nat):Int)) (w':=w.setRow b (w7 cells.toList (o0+lo*e.size) (news.take (min m' n*e.size))).toArray) ?_ ⟨_,GLe.refl _,s8.refl _,c',?_⟩
 ·unfold execOp
  simp[ho,resolve,invoke,builtin,hv,hrun]
 ·rw[r1]
  show q9 _ _ (.int .i64 ((min m' n:Nat):Int))
  exact u6 (by have e1:IntKind.i64.min= -9223372036854775808:=by decide
               omega) (by have e1:IntKind.i64.max=9223372036854775807:=by decide
                          unfold maxLen at r2;omega)
end
end Go.E
namespace Go.E
open Go
section
variable {Γ:G} {w:World} {s:S}
theorem z8.freeze (c:z8 Γ w s) {b:Nat} {cells:Array Value} {T:TypeId} {fr:Nat × Nat} (hw:w.heap[b]? =some (.cells cells T fr)) (hH:Γ.H b=none) (hι:∀k τ o,Γ.ι k=some (b,τ)→s.obj k=some o→o.X3=true):
  z8 (Γ.q0A b cells.toList) w s∧s8 Γ (Γ.q0A b cells.toList)∧Γ.H.le (Γ.q0A b cells.toList).H:=by
 have oH:∀b',b'≠b→(Γ.q0A b cells.toList).H b'=Γ.H b':=fun b' hb=>c4 _ _ hb
 have nb:∀b',Γ.H b'≠none→b'≠b:=fun b' h e=>h (e ▸ hH)
 have hle:Γ.H.le (Γ.q0A b cells.toList).H:=fun b' l' h=>⟨[],by rw[oH b' (nb b' (by rw[h];simp)),h];simp⟩
 have hp:s8 Γ (Γ.q0A b cells.toList):=⟨hle,fun _ _ h=>h,fun t x L h=>⟨x,L,h,Nat.le_refl _,fun _=>rfl⟩,fun _ _ h=>h⟩
 refine⟨?_,hp,hle⟩
 refine c.change hp rfl rfl rfl rfl (fun b' l' h=>?_) (fun _ _=>rfl) (fun b' o sz h=>?_) (fun k o h=>?_) (fun _ h _=>h) c.dom c.hσ c.inj (fun t L h=>?_) c.tdom (Nat.le_refl _)
 ·by_cases hb:b'=b
  ·subst hb
   simp[G.q0A,r9]at h;subst h
   exact⟨cells,T,fr,[],hw,by simp⟩
  ·rw[oH b' hb]at h
   exact c.hH b' l' h
 ·have h':Γ.κ b'=some (o,sz):=h
  obtain⟨a1,a2,a3⟩:=c.hκ b' o sz h'
  exact⟨a1,by rw[oH b' (nb b' a2)];exact a2,a3⟩
 ·refine .inl ⟨h,fun hd=>⟨fun b' p sz hb=>⟨rfl,?_⟩,fun b' τ hb=>⟨rfl,?_⟩⟩⟩
  ·exact oH b' (nb b' (c.hκ b' _ sz hb).2.1)
  ·obtain⟨a1,_⟩:=c.W2 hb h hd
   rw[oH b' (fun e=>by have:=hι k τ o (e ▸ hb) h;rw[this]at hd;cases hd)];exact a1
 ·obtain⟨x,h1,h2⟩:=c.tok t L h
  refine⟨x,h1,fun b' pos sz hx=>?_⟩
  obtain⟨⟨l,a1,a2⟩,a3⟩:=h2 b' pos sz hx
  exact⟨⟨l,by rw[oH b' (nb b' (by rw[a1];simp))];exact a1,a2⟩,a3⟩
theorem z8.y4N (c:z8 Γ w s) {k:Key} {M:Nat} {e:Ty} {cc:C} (ho:s.obj k=some (.box (.d (.arr M e) cc))):
  ∃Γ',GLe Γ Γ'∧s8 Γ Γ'∧z8 Γ' w {s with loc:=(k,.dead (.arr M e))::s.loc}∧
   ∀{lo n:Nat} {cp:Option Nat} {eb:Nat} {v:Value},q9 Γ (.sr k [] lo n cp eb e) v→q9 Γ' (.d (.slice eb e) (.slice ((cc.elems.drop lo).take n))) v:=by
 have ck:=c.kill ho
 have nul:∀{Γ':G} {lo n:Nat} {cp:Option Nat} {eb:Nat} {v:Value},(cp=none∧n=0∧∃a,v= .slice a 0 0)→q9 Γ' (.d (.slice eb e) (.slice ((cc.elems.drop lo).take n))) v:=by
  intro Γ' lo n cp eb v h
  obtain⟨_,rfl,a,rfl⟩:=h
  refine(x9 rfl rfl).2 ⟨?_,rfl⟩
  simp only[q8]
  exact v7 (by simp) (Nat.le_refl _) (Nat.zero_le _) (by rw[Nat.zero_mul];exact Nat.zero_le _) (.inl rfl)
 rcases c.obj k _ ho with⟨hn,_⟩|hown
 ·refine⟨Γ,.refl Γ,.refl Γ,ck,fun hr=>?_⟩
  rcases q0j hr with h|⟨b,τ0,o,m,cap,a,h1,_⟩
  ·exact nul h
  ·rw[hn]at h1;cases h1
 ·obtain⟨b,cells,T,h1,h2,h3,⟨fr0,h4,hfr0⟩,h5,h6,h7,h8⟩:=hown
  have hdk:s.p9 k=false:=by rw[c6 ho];rfl
  obtain⟨q1,q2,q3⟩:=ck.freeze h4 h2 (fun k' τ o hk' ho'=>by
   rcases c.inj k' k b _ _ hk' h1 with e1|⟨e1|e1,_⟩
   ·subst e1
    rw[u3,if_pos rfl]at ho';cases ho';rfl
   ·rw[u3]at ho'
    split at ho'
    ·cases ho';rfl
    ·rw[c6 ho']at e1;exact e1
   ·rw[hdk]at e1;cases e1)
  refine⟨_,⟨q3,rfl,fun b' hb'=>c4 _ _ fun e=>(by subst e;exact hb' h3),fun _ _ h=>h,rfl,rfl,fun _ _ h=>h,fun _ h=>h⟩,q2,q1,fun{lo n cp eb v} hr=>?_⟩
  rcases q0j hr with h|⟨b',τ0,o,m,cap,a,a1,a2,a3,hv,a4,a5,a6,a7,_,_⟩
  ·exact nul h
  rw[h1]at a1;cases a1
  simp only[V.ty,Ty.walk,Option.some.injEq,Prod.mk.injEq,Ty.arr.injEq]at a2
  obtain⟨rfl,rfl,_⟩:=a2
  simp only[V.ty,q8,z7]at h6
  obtain⟨cs,rfl,r1,r2,r3,r4⟩:=h6
  simp only[C.elems,Ty.size]at*
  have hl:((cs.drop lo).take n).length=n:=by simp;omega
  have hmul:(lo+n)*e.size≤M*e.size:=Nat.mul_le_mul_right _ a3
  rw[Nat.add_mul]at hmul
  subst hv
  refine(x9 rfl rfl).2 ⟨?_,rfl⟩
  simp only[q8]
  refine v7 hl a5 a6 a7 ?_
  by_cases hn:n=0
  ·exact .inl hn
  ·refine .inr ⟨b,lo*e.size,cells.toList,?_,w8 _ _ _,by simp;simp[V.ty,Ty.size]at h5;omega,fun i c' hi=>?_⟩
   ·rcases a4 with a4|a4
    ·omega
    ·rw[a4,Nat.zero_add]
   ·rw[List.getElem?_take]at hi
    split at hi
    ·rename_i hin
     rw[List.getElem?_drop]at hi
     have h9:=r4 _ _ hi
     have hle:(lo+i+1)*e.size≤M*e.size:=Nat.mul_le_mul_right _ (by omega)
     rw[Nat.add_mul,Nat.add_mul]at hle
     rw[Nat.add_mul]at h9
     rw[o5 _ _ _ _ _ (by omega),Nat.zero_add]at h9
     exact h9.mono q3
    ·cases hi
def Y6 (s:S) (x:V):V:=
 match x with
 | .sr (.l j) q lo n cp eb e=>(match q with
  | []=>(match s.obj (.l j)with
   |some (.box (.d τ cc))=>(match τ with
    | .arr M e'=>if e'=e then .d (.slice eb e) (.slice ((cc.elems.drop lo).take n))else x
    |_=>x)
   |_=>x)
  |_=>x)
 |x=>x
def q0U:V→List Nat
 | .sr (.l j) [] _ _ _ _ _=>[j]
 |_=>[]
def q0p:List V→List Nat
 | []=>[]
 |x::xs=>q0U x++q0p xs
def U5:List Nat→S→S
 | [],s=>s
 |j::l,s=>U5 l (match s.obj (.l j)with
  |some (.box (.d τ _))=>(match τ with
   | .arr M e=>{s with loc:=(.l j,.dead (.arr M e))::s.loc}
   |_=>s)
  |_=>s)
theorem z2c {s:S} {x:V} (h:∀j,j∈q0U x→False):Y6 s x=x:=by
 unfold Y6
 split
 ·split
  ·rename_i j _ _ _ _ _ _
   exact(h j (List.mem_singleton.2 rfl)).elim
  ·rfl
 ·rfl
theorem q7R:∀(js:List Nat) (s:S) {Γ:G},z8 Γ w s→∃Γ',GLe Γ Γ'∧s8 Γ Γ'∧z8 Γ' w (U5 js s)∧∀(x:V) (v:Value),q9 Γ x v→(∀j∈q0U x,j∈js)→q9 Γ' (Y6 s x) v
 | [],s,Γ,c=>⟨Γ,.refl Γ,.refl Γ,c,fun x v hr hx=>by rw[z2c (fun j hj=>by simpa using hx j hj)];exact hr⟩
 |j::l,s,Γ,c=>by
  have skip:(∀x:V,q0U x=[j]→Y6 s x=x)→∃Γ',GLe Γ Γ'∧s8 Γ Γ'∧z8 Γ' w (U5 l s)∧∀(x:V) (v:Value),q9 Γ x v→(∀i∈q0U x,i∈j::l)→q9 Γ' (Y6 s x) v:=by
   intro hs
   obtain⟨Γ',g,p,c',h⟩:=q7R l s c
   refine⟨Γ',g,p,c',fun x v hr hx=>?_⟩
   by_cases hj:q0U x=[j]
   ·rw[hs x hj];exact hr.o6 p
   ·refine h x v hr fun i hi=>?_
    have:=hx i hi
    simp only[List.mem_cons]at this
    rcases this with rfl|h2
    ·exfalso
     apply hj
     unfold q0U at hi ⊢
     split at hi
     ·simp at hi;subst hi;rfl
     ·simp at hi
    ·exact h2
  have inv:∀x:V,q0U x=[j]→∃lo n cp eb e,x= .sr (.l j) [] lo n cp eb e:=by
   intro x hx
   unfold q0U at hx
   split at hx
   ·simp at hx;subst hx;exact⟨_,_,_,_,_,rfl⟩
   ·cases hx
  simp only[U5]
  split
  ·rename_i τ cc ho
   split
   ·rename_i M e
    obtain⟨Γ1,g1,p1,c1,h1⟩:=c.y4N ho
    obtain⟨Γ',g,p,c',h⟩:=q7R l _ c1
    refine⟨Γ',g1.trans g,p1.trans p,c',fun x v hr hx=>?_⟩
    by_cases hj:q0U x=[j]
    ·obtain⟨lo,n,cp,eb,e',rfl⟩:=inv x hj
     simp only[Y6,ho]
     by_cases he:e=e'
     ·rw[if_pos he];subst he
      exact(h1 hr).o6 p
     ·rw[if_neg he]
      exact hr.o6 (p1.trans p)
    ·have h2:=h x v (hr.o6 p1) fun i hi=>by
      have:=hx i hi
      simp only[List.mem_cons]at this
      rcases this with rfl|h2
      ·exfalso
       apply hj
       unfold q0U at hi ⊢
       split at hi
       ·simp at hi;subst hi;rfl
       ·simp at hi
      ·exact h2
     have:Y6 {s with loc:=(Key.l j,O.dead (.arr M e))::s.loc} x=Y6 s x:=by
      cases x <;> (try rfl)
      rename_i k q lo n cp eb e2
      cases k with
      |g k=>rfl
      |l i=>
       cases q with
       |cons a q=>rfl
       |nil=>
        have hij:j≠i:=fun e=>hj (by subst e;rfl)
        simp only[Y6]
        rw[u3,if_neg (by intro e;cases e;exact hij rfl)]
     rw[←this];exact h2
   ·exact skip fun x hx=>by
     obtain⟨lo,n,cp,eb,e,rfl⟩:=inv x hx
     simp only[Y6,ho]
  ·exact skip fun x hx=>by
    obtain⟨lo,n,cp,eb,e,rfl⟩:=inv x hx
    simp only[Y6]
end
end Go.E
namespace Go.E
open Go
mutual
def Ty.W7:Ty→Bool
 | .int _| .bool| .str=>true
 | .arr _ e=>e.W7
 | .struct _ _ fs=>Ty.z16 fs
 |_=>false
def Ty.z16:List Ty→Bool
 | []=>true
 |t::ts=>t.W7&&Ty.z16 ts
end
mutual
theorem z7.W7 {H H':Hp}:∀{τ:Ty} {vs:List Value} {c:C},τ.W7=true→z7 H τ vs c→z7 H' τ vs c
 | .int _,_,_,_,r=>by simpa[z7]using r
 | .bool,_,_,_,r=>by simpa[z7]using r
 | .str,_,_,_,r=>by simpa[z7]using r
 | .arr n e,vs,c,h,r=>by
  simp only[z7]at r ⊢
  obtain⟨cs,rfl,h1,h2,h4,h3⟩:=r
  exact⟨cs,rfl,h1,h2,h4,fun i c hi=>z7.W7 (by simpa[Ty.W7]using h) (h3 i c hi)⟩
 | .struct sz os fs,vs,c,h,r=>by
  simp only[z7]at r ⊢
  obtain⟨cs,rfl,h1,h4,h2⟩:=r
  exact⟨cs,rfl,h1,h4,s7.W7 (by simpa[Ty.W7]using h) h2⟩
 | .slice _ _,_,_,h,_| .ptr,_,_,h,_| .map,_,_,h,_| .func,_,_,h,_| .iface,_,_,h,_| .opq _,_,_,h,_=>by simp[Ty.W7]at h
theorem s7.W7 {H H':Hp}:∀{fs:List Ty} {os:List Nat} {vs:List Value} {cs:List C},Ty.z16 fs=true→s7 H fs os vs cs→s7 H' fs os vs cs
 | [],_,_,_,_,r=>by simpa[s7]using r
 |f::fs,o::os,vs,cs,h,r=>by
  simp only[Ty.z16,Bool.and_eq_true]at h
  simp only[s7]at r ⊢
  obtain⟨c,cs',rfl,h1,h2,h3⟩:=r
  exact⟨c,cs',rfl,h1,z7.W7 h.1 h2,s7.W7 h.2 h3⟩
 |_::_,[],_,_,_,r=>by simp[s7]at r
end
def V.q7b:List V→Bool
 | []=>true
 |x::xs=>(match x with| .d τ _=>τ.W7|_=>false)&&V.q7b xs
def V.W7:V→Bool
 | .d τ _=>τ.W7
 | .tup vs=>V.q7b vs
 |_=>false
theorem q8r {Γ Γ':G}:∀{xs:List V} {vs:List Value},V.q7b xs=true→y9 Γ xs vs→y9 Γ' xs vs
 | [],vs,_,h=>by simpa[y9]using h
 |x::xs,vs,hx,h=>by
  simp only[V.q7b,Bool.and_eq_true]at hx
  simp only[y9]at h ⊢
  obtain⟨v,vs',rfl,h1,h2,h3⟩:=h
  refine⟨v,vs',rfl,?_,h2,q8r hx.2 h3⟩
  cases x <;> simp at hx
  simp only[q8]at h1 ⊢
  exact h1.W7 hx.1
theorem z83 {Γ Γ':G} {x:V} {v:Value} (hx:x.W7=true) (h:q9 Γ x v):q9 Γ' x v:=by
 cases x <;> simp[V.W7]at hx
 ·rw[Q2]at h ⊢
  exact⟨h.1.W7 hx,h.2⟩
 ·simp only[q9]at h ⊢
  obtain⟨vs,rfl,h⟩:=h
  exact⟨vs,rfl,q8r hx h⟩
theorem z7A {x:V} (hx:x.W7=true) (n:Nat):x.X7 n=x:=by
 cases x <;> simp[V.W7]at hx
 ·rfl
 ·rename_i vs
  simp only[V.X7]
  congr 1
  have:∀(l:List V) (n:Nat),V.q7b l=true→X6 n l=l:=by
   intro l
   induction l with
   |nil=>intros;rfl
   |cons x xs ih=>
    intro n h
    simp only[V.q7b,Bool.and_eq_true]at h
    simp only[X6]
    rw[ih _ h.2]
    cases x <;> simp at h <;> rfl
  exact this vs n hx
def G.q33 (w:World) (gl:Nat→Option (Ty × C)):G where
 H b:=match w.heap[b]? with
  |some (.cells arr _ _)=>some arr.toList
  |_=>none
 Z b:=w.heap[b]?
 ι _:=none
 τ _:=none
 κ _:=none
 gl:=gl
 oo:=oof w
 σ _:=none
def q0G:Nat→S→V→V
 |0,_,_=>.any
 |f+1,s,x=>match x with
  | .sr k q lo n _ eb e=>(match s.obj k with
   |some (.box y)=>(match q0G f s (y.at q)with
    | .d _ c=>.d (.slice eb e) (.slice ((c.elems.drop lo).take n))
    |_=>.any)
   |_=>.any)
  | .agg τ vs=>(match Z7 (vs.map (q0G f s))with
   |some cs=>.d τ (.agg cs)
   |none=>.any)
  |x=>bif x.plain then(match s9 x with
   |some c=>.d x.ty c
   |none=>.any)else .any
def q0T (s:S) (x:V):V:=q0G 5 s x
theorem z8c (s:S) (f:Nat) (x:V):q0G f s x= .any∨∃τ c,q0G f s x= .d τ c:=by
 cases f with
 |zero=>exact .inl rfl
 |succ f=>
  have other:∀x:V,(bif x.plain then(match s9 x with
   |some c=>V.d x.ty c
   |none=>.any)else .any)= .any∨∃τ c,(bif x.plain then(match s9 x with
   |some c=>V.d x.ty c
   |none=>.any)else .any)= .d τ c:=by
   intro x
   cases x.plain with
   |false=>exact .inl rfl
   |true=>
    simp only[cond_true]
    split
    ·exact .inr ⟨_,_,rfl⟩
    ·exact .inl rfl
  cases x <;> first
   |exact other _
   |(simp only[q0G]
     repeat' split
     all_goals first|exact .inl rfl|exact .inr ⟨_,_,rfl⟩)
def q1s:List V→Bool
 | []=>true
 |x::xs=>(match x with| .d _ _=>true|_=>false)&&q1s xs
section
variable {P:Program} {Γ:G} {w:World} {s:S}
theorem z3s (c:z8 Γ w s) (gl:Nat→Option (Ty × C)):Γ.H.le (G.q33 w gl).H:=by
 intro b l h
 obtain⟨arr,T,fr,r,h1,h2⟩:=c.hH b l h
 exact⟨r,by simp only[G.q33,h1,h2]⟩
theorem y4.snap {Γ':G} {hm:Option Key} {g:V→V} (hg:∀(x:V) (p:List Nat) (vs:List Value) τ cc,q8 Γ hm p x vs→g x= .d τ cc→x.ty=τ∧z7 Γ'.H τ vs cc) (hd:∀x,g x= .any∨∃τ c,g x= .d τ c):
  ∀(xs:List V) (p:List Nat) (i:Nat) (τ:Ty) (vs:List Value) (cs:List C),y4 Γ hm p i τ xs vs→Z7 (xs.map g)=some cs→y4 Γ' hm p i τ (xs.map g) vs
 | [],_,_,_,_,_,_,_=>by simp only[List.map_nil,y4]
 |x::xs,p,i,τ,vs,cs,h,hc=>by
  simp only[y4,List.map_cons,Z7]at h hc ⊢
  obtain⟨⟨o,f,h1,h2,h3,h4⟩,h5⟩:=h
  rcases hd x with e|⟨τ',c,e⟩
  ·rw[e]at hc;simp[s9]at hc
  ·cases e2:Z7 (xs.map g)with
   |none=>rw[e,e2]at hc;simp[s9]at hc
   |some cs'=>
    obtain⟨rfl,q2⟩:=hg x _ _ _ _ h4 e
    refine⟨⟨o,f,h1,by rw[e];exact h2,h3,?_⟩,y4.snap hg hd xs p (i+1) τ vs cs' h5 e2⟩
    rw[e,←h2]at*
    simpa only[q8]using q2
theorem q8S {s0:S} (c:z8 Γ w s) (hs:∀k o,Γ.ι k≠none→s0.obj k=some o→s.obj k=some o) (gl:Nat→Option (Ty × C)) {hm:Option Key}:∀(f:Nat) (x:V) (p:List Nat) (vs:List Value) (τ:Ty) (cc:C),q8 Γ hm p x vs→q0G f s0 x= .d τ cc→x.ty=τ∧z7 (G.q33 w gl).H τ vs cc
 |0,_,_,_,_,_,_,h=>by cases h
 |f+1,x,p,vs,τ,cc,hr,h=>by
  have hle:=z3s c gl
  have other:(bif x.plain then(match s9 x with
   |some c=>V.d x.ty c
   |none=>.any)else .any)= .d τ cc→x.ty=τ∧z7 (G.q33 w gl).H τ vs cc:=by
   intro h
   cases hp:x.plain with
   |false=>rw[hp]at h;cases h
   |true=>
    rw[hp]at h
    simp only[cond_true]at h
    split at h
    ·rename_i c0 hc0
     cases h
     exact⟨rfl,(q0M x hr hc0).mono hle⟩
    ·cases h
  cases x <;> (try exact other h)
  case agg τ0 xs=>
   simp only[q0G]at h
   split at h
   ·rename_i cs hcs
    cases h
    refine⟨rfl,?_⟩
    simp only[q8]at hr
    obtain⟨a1,a2,a3,a4,a5⟩:=hr
    have:q8 (G.q33 w gl) hm p (.agg τ (xs.map (q0G f s0))) vs:=by
     simp only[q8]
     exact⟨a1,a2,by rw[List.length_map];exact a3,a4,a5.snap (fun x p vs τ cc=>q8S c hs gl f x p vs τ cc) (z8c s0 f) xs p 0 τ vs cs hcs⟩
    exact q0M _ this (by simp only[s9,hcs,Option.map_some])
   ·cases h
  case sr k q lo n cp eb e=>
   simp only[q0G]at h
   split at h
   ·rename_i y ho0
    split at h
    ·rename_i τ1 c1 hy
     cases h
     refine⟨rfl,?_⟩
     simp only[q8]at hr
     rcases hr with⟨_,rfl,a,rfl⟩|⟨b,τ0,o0,m,cap,a1,a2,a3,⟨a,rfl,a4⟩,a5,a6,a7,_⟩
     ·exact v7 (by simp) (Nat.le_refl _) (Nat.zero_le _) (by rw[Nat.zero_mul];exact Nat.zero_le _) (.inl rfl)
     obtain⟨b',cells,T,g1,g2,g3,g4,g5,g6,g7,_⟩:=c.own a1 (hs k _ (by rw[a1];simp) ho0)
     obtain⟨fr0,g4,hfr0⟩:=g4
     rw[a1]at g1;cases g1
     obtain⟨q1,q2,q3⟩:=g6.at_ a2 (by intro e1;rw[e1]at hy;cases f <;> cases hy) g7
     obtain⟨rfl,q3⟩:=q8S c hs gl f _ _ _ _ _ q3 hy
     rw[q1]at q3
     simp only[z7]at q3
     obtain⟨cs,rfl,r1,r2,r3,r4⟩:=q3
     simp only[C.elems]
     rw[u9 _ _ _ (by simpa using g5)]at q2
     have hlen:((cs.drop lo).take n).length=n:=by simp;omega
     have hmul:(lo+n)*e.size≤m*e.size:=Nat.mul_le_mul_right _ a3
     rw[Nat.add_mul]at hmul
     simp only[Ty.size]at q2 r2 r4
     have hall:o0+lo*e.size+n*e.size≤cells.toList.length:=by simp;omega
     refine v7 hlen a5 a6 a7 ?_
     rcases Nat.eq_zero_or_pos n with h0|h0
     ·exact .inl h0
     ·have ha:a=some ⟨b,o0+lo*e.size,none⟩:=a4.resolve_left (by omega)
      refine .inr ⟨b,o0+lo*e.size,cells.toList,ha,by simp only[G.q33,g4],hall,fun i c' hi=>?_⟩
      rw[List.getElem?_take]at hi
      split at hi
      ·rename_i hin
       rw[List.getElem?_drop]at hi
       have:=r4 _ _ hi
       have hle2:(lo+i+1)*e.size≤m*e.size:=Nat.mul_le_mul_right _ (by omega)
       rw[Nat.add_mul,Nat.add_mul]at hle2
       rw[Nat.add_mul]at this
       rw[o5 _ _ _ _ _ (by omega),o5 _ _ _ _ _ (by omega)]at this
       rw[show 0+(o0+(lo*e.size+i*e.size))=o0+lo*e.size+i*e.size by omega]at this
       exact this
      ·cases hi
    ·cases h
   ·cases h
theorem y1O {s0:S} (c:z8 Γ w s) (hs:∀k o,Γ.ι k≠none→s0.obj k=some o→s.obj k=some o) (gl:Nat→Option (Ty × C)) {x:V} {v:Value} {τ:Ty} {cc:C} (hr:q9 Γ x v) (h:q0T s0 x= .d τ cc):q9 (G.q33 w gl) (.d τ cc) v:=by
 have hp:x.plain=true:=by cases x <;> first|rfl|cases h
 obtain⟨h1,h2⟩:=(y8 hp).1 hr
 obtain⟨rfl,h3⟩:=q8S c hs gl _ _ _ _ _ _ h1 h
 exact Q2.2 ⟨h3,h2⟩
theorem y01 (hgl:∃gl0,Γ.gl=gl0) (c:z8 Γ w s) {xs:List V} (hx:q1s xs=true):z8 (G.q33 w Γ.gl) w (S.start xs fun _=>none):=by
 have htk:∀(l:List V) (n:Nat),q1s l=true→q2i n l=[]:=by
  intro l
  induction l with
  |nil=>intros;rfl
  |cons x xs ih=>
   intro n h
   simp only[q1s,Bool.and_eq_true]at h
   simp only[q2i]
   rw[ih _ h.2]
   cases x <;> simp at h <;> rfl
 refine⟨fun b l h=>?_,fun b o h=>h,fun b o sz h=>(by cases h),fun k o h=>?_,fun k h=>absurd rfl h,fun k k' b τ τ' h _=>(by cases h),fun t L h=>?_,fun t h=>absurd rfl h,fun g τ cc h=>?_,rfl,fun b sz h=>(by cases h)⟩
 ·simp only[G.q33]at h
  split at h
  ·rename_i arr T fr hw
   cases h
   exact⟨arr,T,fr,[],hw,by simp⟩
  ·cases h
 ·exfalso
  cases k <;> simp[S.start,S.obj,b6,z6]at h
 ·exfalso
  simp[S.start,S.live,F1,htk xs 1000 hx,look]at h
 ·obtain⟨l,h1,h2,h3⟩:=c.hgl g τ cc h
  obtain⟨r,hr⟩:=z3s c Γ.gl g l h1
  refine⟨l++r,hr,by simp;omega,?_⟩
  rw[q08 _ _ _ _ (by omega)]
  exact h3.mono (z3s c Γ.gl)
theorem y2T:AOk fun _=>none:=fun _ _ h=>by cases h
theorem y2k {w':World} {gl:Nat→Option (Ty × C)} {Γ':G} {s':S} (gle:GLe (G.q33 w gl) Γ') (c':z8 Γ' w' s'):Ext w w':=by
 have old:∀b,b<w.heap.size→w'.heap[b]? =w.heap[b]?:=fun b hb=>by
  have h1:w.heap[b]? =some w.heap[b]:=Array.getElem?_eq_getElem hb
  rw[h1]
  exact c'.hZ b _ (by rw[gle.Z];exact h1)
 refine⟨?_,old,?_⟩
 ·rcases Nat.eq_zero_or_pos w.heap.size with h|h
  ·omega
  ·have h1:=old (w.heap.size-1) (by omega)
   rw[Array.getElem?_eq_getElem (show w.heap.size-1<w.heap.size by omega)]at h1
   have:=c5 h1
   omega
 ·rw[c'.hoo,gle.oo];rfl
theorem y34 {X:Cx} (hgl:Γ.gl=X.gl) (c:z8 Γ w s) {o:Oper} {a:Act} {fo:Operand} {f:FuncId} {as:Array Operand} {ts:Array TypeId} {xs:List V} {v:V}
  (ho:o.op= .call {callee:=.value fo,args:=as,argTypes:=ts}) (hcal:q0R X.P f=true) (hf:q9 Γ (.fn f []) (a.eval fo))
  (hlen:xs.length=as.toList.length) (hr:∀(i:Nat) x y,xs[i]? =some x→as.toList[i]? =some y→q9 (G.q33 w Γ.gl) x (a.eval y)) (hx:q1s xs=true) (D:Q3 X f xs (fun _=>none) v []) (hv:v.W7=true):
  w4 X.P o a w (u2 Γ w s v):=by
 obtain⟨cv,hfv,hcl,_⟩:=q9Q hf
 have hcv:cv=#[]:=by
  apply Array.eq_empty_of_size_eq_zero
  simpa using hcl.symm
 subst hcv
 have run:(execOp a.eval o).run X.P w= .ok (.enter f (as.map a.eval)) w:=by
  unfold execOp
  simp[ho,resolve,hfv,Deferred.ofValue,invoke,q8X hcal]
 have hsl:∀(l:List V) (n:Nat),q1s l=true→X6 n l=l:=by
  intro l
  induction l with
  |nil=>intros;rfl
  |cons x xs ih=>
   intro n h
   simp only[q1s,Bool.and_eq_true]at h
   simp only[X6]
   rw[ih _ h.2]
   cases x <;> simp at h <;> rfl
 refine w4.enter run ?_
 refine(D (fun _=>none) (G.q33 w Γ.gl) w (as.map a.eval) (fun _ _ h=>h) hgl ⟨y01 ⟨_,rfl⟩ c hx,y2T⟩ (by simpa using hlen) fun i x u hx' hu=>?_).mono ?_
 ·rw[hsl xs 1000 hx]at hx'
  rw[Array.getElem?_map]at hu
  cases hy:as[i]? with
  |none=>rw[hy]at hu;cases hu
  |some y=>
   rw[hy]at hu
   cases hu
   exact hr i x y hx' (by simpa using hy)
 ·rintro e w' ⟨u,Γ',rfl,gle,c',hv'⟩
  rw[z7A hv]at hv'
  exact⟨u,rfl,u2.ext c (y2k gle c') (z83 hv hv')⟩
end
end Go.E
namespace Go.E
open Go
def z7i:Value→V
 | .int k n=>.d (.int k) (.int n)
 | .bool b=>.d .bool (.bool b)
 | .string s=>.d .str (.str s.data.toList)
 | .pointer none=>.d .ptr .nil
 | .slice none 0 0=>.nilc
 | .map none=>.d .map .nil
 | .nilFunc=>.d .func .nil
 | .nilIface=>.d .iface .nil
 |_=>.any
def z3G:Value→Bool
 | .int k n=>decide (k.min≤n∧n≤k.max)
 | .string s=>decide (s.data.toList.length≤140737488355328)
 |_=>true
def q6m:Operand→Bool
 | .const v=>z3G v
 |_=>true
def q4Z (n:Nat) (o:Oper):Bool:=
 o.op.operands.all q6m&&(match o.dst with|some d=>decide (d<n)|none=>true)
def y5 (gl:Nat→Option (Ty × C)) (s:S):Operand→V
 | .tmp t=>s.get t
 | .const v=>z7i v
 | .global g=>match gl g with
  |some (τ,c)=>.cptr τ c
  |none=>.any
 | .func f=>.fn f []
def r7 (md:List (Nat × Nat)) (d:Nat):Nat:=(look md d).getD 0
def S.add (s:S) (lo:List (Key × O)) (tn:List (Nat × Option Nat)):S:={s with loc:=lo++s.loc,tk:=tn++s.tk}
def q2o:List (Key × O)→Bool
 | []=>true
 |(.l _,_)::l=>q2o l
 |(.g _,_)::_=>false
def q4W (P:Program) (s:S) (t':TypeId) (eb:Nat) (e:Ty) (Y:V) (K:List C→Prop):Prop:=
 match ty P t' with
 | .slice _ _=>(match Y with
  | .nilc=>K []
  |Y=>match Y0 s Y with
   |some (eb',e',ys)=>eb'=eb∧e'=e∧K ys
   |none=>False)
 | .str=>e= .int .u8∧eb=1∧Y.isStr∧K (Y.toStr.map fun b=>C.int b.toNat)
 |_=>False
theorem q4E {P:Program} (hP:x4 P=true) {s:S} {t':TypeId} {eb:Nat} {e:Ty} {Y:V} {K:List C→Prop} (h:q4W P s t' eb e Y K):∃ys,K ys∧q5d P s t' eb e Y ys:=by
 unfold q4W at h
 split at h
 ·rename_i eb0 e0 ht
  obtain⟨E,hu,_⟩:=F3 hP ht
  split at h
  ·exact⟨[],h,.inl ⟨⟨E,hu⟩,.inr ⟨rfl,rfl⟩⟩⟩
  ·split at h
   ·rename_i eb' e' ys he
    obtain⟨rfl,rfl,hK⟩:=h
    exact⟨ys,hK,.inl ⟨⟨E,hu⟩,.inl he⟩⟩
   ·exact h.elim
 ·rename_i ht
  obtain⟨h1,h2,h3,hK⟩:=h
  exact⟨_,hK,.inr ⟨q3a ht,h3,h1,h2,rfl⟩⟩
 ·exact h.elim
def z5s (X:Cx) (f:FuncId) (xs:List V) (v:V):Prop:=
 ∀(Γ:G) (w:World) (args:Array Value),xs.length=args.size→(∀(i:Nat) x u,xs[i]? =some x→args[i]? =some u→q9 Γ x u)→∃u,(callFunc f args).run X.P w= .ok (.value u) w∧q9 Γ v u
mutual
def V.pks:V→List Key
 | .ptr k _ _| .mp k=>[k]
 | .sr k _ _ _ (some _) _ _=>[k]
 | .agg _ vs=>V.q3n vs
 |_=>[]
def V.q3n:List V→List Key
 | []=>[]
 |x::xs=>x.pks++V.q3n xs
end
def q2F:Nat→List (Key × O)→List Key→List (Key × O)
 |0,_,_=>[]
 |n+1,loc,ks=>ks.flatMap fun k=>match z6 loc k with
  |some o=>(k,o)::(match o with| .box x=>q2F n loc x.pks|_=>[])
  |none=>[]
def S.see (base s:S) (xs:List V):S:={base with loc:=q2F 3 s.loc (V.q3n xs)++base.loc}
def y1L (y:V) (q:List Nat) (t τ:Ty) (K:V→Prop):Prop:=
 match y,t with
 | .d (.arr M e) c,.arr m e'=>q≠[]∧e'=e∧τ=e∧(Ty.arr m e).known=true∧q.getLastD 0+m≤M∧K (.d (.arr m e) (.agg ((c.elems.drop (q.getLastD 0)).take m)))
 |_,_=>False
noncomputable def iop (X:Cx) (md:List (Nat × Nat)) (base:S) (dst:Nat) (o:Oper) (ρ:Operand→V) (s:S) (K:V→List (Key × O)→List (Nat × Option Nat)→Prop):Prop:=
 match o.op with
 | .load T x=>if r7 md dst=18 then(match ρ x with
   | .ptr k q τ=>(match s.obj k with
     |some (.box y)=>y1L (y.at q.dropLast) q (ty X.P T) τ fun v=>K v [] []
     |_=>False)
   |_=>False)
  else(match ρ x with
   | .ptr k q τ=>(match s.obj k with
     |some (.box y)=>y.at q≠.any∧τ=ty X.P T∧τ.known=true∧K (view (y.at q)) [] []
     |_=>False)
   | .cptr τ c=>τ=ty X.P T∧τ.known=true∧K (.d τ c) [] []
   |_=>False)
 | .alloc T=>Q9 X.P T=true∧K (.ptr (.l dst) [] (ty X.P T)) [(.l dst,z6j (ty X.P T) T)] []
 | .box _ x=>if r7 md dst=5 then(ρ x).plain=true∧(match s9 (ρ x)with
    |some cc=>K (.cptr (ρ x).ty cc) [] []
    |none=>False)
   else(ρ x).plain=true∧(ρ x).v8=true∧K (.ptr (.l dst) [] (ρ x).ty) [(.l dst,.box (ρ x))] []
 | .buildSlice t len parts=>(match ty X.P t with
   | .slice eb e=>(match len with
    |0=>parts.toList.length=0∧K (.emp eb e) [] []
    |len+1=>Q9 X.P (y7 X.P t)=true∧e.size≠0∧(len+1)*e.size≤16777216∧(len+1)*eb≤140737488355328∧parts.toList.map (·.1)=List.range (len+1)∧
      (if r7 md dst=20 then(∀x∈parts.toList.map (fun x=>ρ x.2),x.ty=e∧x.plain=true)∧V.Q0 (parts.toList.map fun x=>ρ x.2)=true∧K (.sr (.l dst) [] 0 (len+1) (some (len+1)) eb e) [(.l dst,.box (.agg (.arr (len+1) e) (parts.toList.map fun x=>ρ x.2)))] []else match Z7 (parts.toList.map fun x=>ρ x.2)with
       |some cs=>(∀x∈parts.toList.map (fun x=>ρ x.2),x.ty=e∧x.plain=true)∧(if r7 md dst=4 then K (.sl eb e cs dst) [] [(dst,some cs.length)]else K (.d (.slice eb e) (.slice cs)) [] [])
       |none=>False))
   |_=>False)
 | .build T parts=>Q9 X.P T=true∧(ty X.P T).W6=true∧(ty X.P T).isAgg=true∧q4a (ty X.P T) (o9 (ty X.P T)) (parts.toList.map fun p=>(p.1,ρ p.2))∧
   K (q3E (ty X.P T) (o9 (ty X.P T)) (parts.toList.map fun p=>(p.1,ρ p.2))) [] []
 | .makeSlice t l c=>(match ty X.P t with
   | .slice eb e=>Q9 X.P (y7 X.P t)=true∧(ρ l).Y2∧(ρ c).Y2∧0≤(ρ l).toInt∧(ρ l).toInt≤(ρ c).toInt∧(ρ c).toInt≤9223372036854775807∧(ρ c).toInt.toNat*eb≤140737488355328∧e.size≠0∧
     K (.sr (.l dst) [] 0 (ρ l).toInt.toNat (if r7 md dst=9 then none else some (ρ c).toInt.toNat) eb e) [(.l dst,.box (.d (.arr (ρ l).toInt.toNat e) (.agg (List.replicate (ρ l).toInt.toNat (b5 e)))))] []
   |_=>False)
 | .makeMap T r=>(match r,q3X X.P T with
   |none,some (kt,et)=>K (.mp (.l dst)) [(.l dst,.map (ty X.P kt) (ty X.P et) [])] []
   |_,_=>False)
 | .lookup T x i ok=>(match q3X X.P T,ρ x with
   |some (kt,et),.mp k=>(match s.obj k with
     |some (.map kτ _ es)=>kτ=ty X.P kt∧q0a X.P kt=true∧Q9 X.P et=true∧(ρ i).Z4 kτ∧
       K (if ok then .tup [q2q X.P et es (ρ i).toC,.d .bool (.bool (q0t es (ρ i).toC).isSome)]else q2q X.P et es (ρ i).toC) [] []
     |_=>False)
   |_,_=>False)
 | .call c=>(match c.callee with
   | .value fo=>(match ρ fo with
     | .fn f caps=>(q0R X.P f=true∧c.argTypes.toList.length=c.args.toList.length∧
      ∃b v L,(b=base∨b=base.see s (Z1 (c.args.toList.map ρ) caps))∧Q3 X f (b8 X.P false s (q3D c.argTypes.toList caps) (Z1 (c.args.toList.map ρ) caps)) b.up v L∧q2o L=true∧
       K ((v.X7 2000).ren (dn dst) (rk dst)) (dnL dst L) (dnT dst (v.tkR 2000)))∨
      (caps=[]∧∃v,z5s X f (c.args.toList.map ρ) v∧K v [] [])∨
      (caps=[]∧q0R X.P f=true∧∃v,q1s (c.args.toList.map fun y=>q0T s (ρ y))=true∧Q3 X f (c.args.toList.map fun y=>q0T s (ρ y)) (fun _=>none) v []∧v.W7=true∧K v [] [])
     |_=>False)
   | .builtin .append=>(match c.args.toList,c.argTypes.toList with
     | [x,y],[t,t']=>Q9 X.P (y7 X.P t)=true∧(match ty X.P t,ρ x with
       | .slice eb e,.emp _ _=>q4W X.P s t' eb e (ρ y) fun ys=>if r7 md dst=3 then ys≠[]∧K (.sr (.l dst) [] 0 ys.length none eb e) [(.l dst,.box (.d (.arr ys.length e) (.agg ys)))] []else K (.sl eb e ys dst) [] [(dst,some ys.length)]
       | .slice eb e,.nilc=>q4W X.P s t' eb e (ρ y) fun ys=>if r7 md dst=3 then ys≠[]∧K (.sr (.l dst) [] 0 ys.length none eb e) [(.l dst,.box (.d (.arr ys.length e) (.agg ys)))] []else K (.sl eb e ys dst) [] [(dst,some ys.length)]
       |_,_=>False)
     |_,_=>False)
   | .builtin .len=>(match c.args.toList,c.argTypes.toList with
     | [x],[T]=>(match ρ x with
       | .mp k=>(match q3X X.P T,s.obj k with
         |some _,some (.map _ _ es)=>es.length≤9223372036854775807∧K (.d (.int .i64) (.int es.length)) [] []
         |_,_=>False)
       |_=>pv X.P o.op ρ fun y=>K y [] [])
     |_,_=>pv X.P o.op ρ fun y=>K y [] [])
   |_=>pv X.P o.op ρ fun y=>K y [] [])
 | .convert src dst' x=>(match strOf X.P s src dst' (ρ x)with
   |some ys=>K (.d .str (.str (ys.map q1U))) [] []
   |none=>pv X.P o.op ρ fun y=>K y [] [])
 |_=>pv X.P o.op ρ fun y=>K y [] []
structure Compat (s' s base:S):Prop where
 obj:∀k o,s.obj k=some o→s'.obj k≠none→s'.obj k=some o
 base:∀k o,base.obj k=some o→s'.obj k=some o
structure z5r (s:S) (lo:List (Key × O)) (tn:List (Nat × Option Nat)):Prop where
 l:∀k o,z6 lo k=some o→s.obj k=none
 t:∀t x,look tn t=some x→s.known t=false
section
variable {X:Cx} {Γ:G} {w:World} {s:S}
theorem Compat.getObj {s' base:S} (h:Compat s' s base) (c:z8 Γ w s') {k:Key} {o:O} (hι:Γ.ι k≠none) (ho:s.obj k=some o):s'.obj k=some o:=h.obj k o ho (c.dom k hι)
theorem q7o {s' base:S} (h:Compat s' s base) (c:z8 Γ w s') {x:V} {v:Value} {r:Nat × Ty × List C} (hr:q9 Γ x v) (he:Y0 s x=some r):∃x',q9 Γ x' v∧(x'= .nilc→x= .nilc)∧Y0 s' x'=some r:=by
 cases x <;> (try exact⟨_,hr,id,he⟩)
 case sr k q lo n cp eb e=>
  rcases q0j hr with⟨_,rfl,a,rfl⟩|⟨b,τ0,o,m,cap,a,hι,_⟩
  ·refine⟨.emp eb e,q1A,(fun h=>by cases h),?_⟩
   simp only[Y0]at he
   split at he
   ·split at he
    ·rw[←he];simp[Y0,V.q1O]
    ·cases he
   ·cases he
  ·refine⟨_,hr,id,?_⟩
   simp only[Y0]at he ⊢
   cases ho:s.obj k with
   |none=>simp[ho]at he
   |some o=>
    rw[h.getObj c (by rw[hι];simp) ho]
    rw[ho]at he;exact he
theorem z5A {P:Program} {s' base:S} (h:Compat s' s base) (c:z8 Γ w s') {src dst:TypeId} {Y:V} {v:Value} {ys:List C} (hr:q9 Γ Y v) (he:strOf P s src dst Y=some ys):∃Y',q9 Γ Y' v∧strOf P s' src dst Y'=some ys:=by
 cases hel:Y0 s Y with
 |some r=>
  obtain⟨Y',h1,h2,h3⟩:=q7o h c hr hel
  by_cases hY:Y= .nilc
  ·subst hY;exact⟨_,hr,he⟩
  refine⟨Y',h1,?_⟩
  rw[←he]
  unfold strOf
  have hY':Y'≠.nilc:=fun e=>hY (h2 e)
  rw[hel,h3]
  cases Y <;> first|exact absurd rfl hY|(cases Y' <;> first|exact absurd rfl hY'|rfl)
 |none=>
  refine⟨_,hr,?_⟩
  unfold strOf at he ⊢
  rw[hel]at he
  split at he
  ·split at he
   ·rename_i h0
    rw[if_pos h0]
    split at he
    ·exact he
    ·cases he
   ·cases he
  ·cases he
theorem q3c {P:Program} {s' base:S} (h:Compat s' s base) (c:z8 Γ w s') {t':TypeId} {eb:Nat} {e:Ty} {Y:V} {v:Value} {ys:List C} (hr:q9 Γ Y v) (he:q5d P s t' eb e Y ys):∃Y',q9 Γ Y' v∧q5d P s' t' eb e Y' ys:=by
 rcases he with⟨h1,h2|h2⟩|h1
 ·obtain⟨Y',a,_,b⟩:=q7o h c hr h2
  exact⟨Y',a,.inl ⟨h1,.inl b⟩⟩
 ·exact⟨_,hr,.inl ⟨h1,.inr h2⟩⟩
 ·exact⟨_,hr,.inr h1⟩
theorem z73 {P:Program} (s s':S) (T:TypeId) (x:V):W8 P false s T x=W8 P false s' T x:=by
 cases x <;> simp[W8]
theorem q3H {P:Program} (s s':S):∀(Ts:List TypeId) (xs:List V),b8 P false s Ts xs=b8 P false s' Ts xs
 | [],_=>rfl
 |_::_,[]=>rfl
 |T::Ts,x::xs=>by simp only[b8,z73 s s',q3H s s' Ts xs]
theorem q3o (s:S):∀(xs:List V),c7 false s xs=[]
 | []=>rfl
 |x::xs=>by
  have:Q5 false s x=none:=by cases x <;> simp[Q5]
  simp[c7,this,q3o s xs]
theorem z13:∀{L:List (Key × O)} {k:Key} {o:O},q2o L=true→z6 L (.g k)=some o→False
 | [],_,_,_,h=>by simp[z6]at h
 |(.l n,_)::L,k,o,hl,h=>by simp[z6]at h;exact z13 (L:=L) (by simpa[q2o]using hl) h
 |(.g _,_)::_,_,_,hl,_=>by simp[q2o]at hl
theorem z56 (d:Nat):∀{L:List (Key × O)} {j:Nat} {o:O},q2o L=true→z6 L (.l j)=some o→z6 (dnL d L) (.l (rk d j))=some (o.ren (dn d))
 | [],_,_,_,h=>by simp[z6]at h
 |(.l n,o')::L,j,o,hl,h=>by
  simp only[z6]at h
  simp only[dnL,z6,dn]
  by_cases e:n=j
  ·subst e;simp at h;subst h;simp
  ·have e1:Key.l n≠.l j:=by intro h;cases h;exact e rfl
   have e2:Key.l (rk d n)≠.l (rk d j):=by intro h;simp[rk]at h;exact e h
   rw[if_neg e1]at h
   rw[if_neg e2]
   exact z56 d (L:=L) (by simpa[q2o]using hl) h
 |(.g _,_)::_,_,_,hl,_=>by simp[q2o]at hl
theorem z7K (d:Nat) (l:List (Nat × Option Nat)) (m:Nat):look (dnT d l) (rk d m)=look l m:=by rw[q7N,q3S]
def y0a (X:Cx) (base:S) (o:Oper) (ρ:Operand→V) (s:S) (v:V) (lo:List (Key × O)) (tn:List (Nat × Option Nat)):Prop:=
 ∀(Γ:G) (w:World) (a:Act) (s':S),Γ.gl=X.gl→z8 Γ w s'→Compat s' s base→z5r s' lo tn→(∀y∈o.op.operands,q9 Γ (ρ y) (a.eval y))→w4 X.P o a w (u2 Γ w (s'.add lo tn) v)
theorem y33 (hP:x4 X.P=true) {o:Oper} {ρa:Operand→V} {K:V→Prop} (h:pv X.P o.op ρa K):
  ∃v,K v∧∀(Γ:G) (w:World) (a:Act) (s':S),z8 Γ w s'→(∀y∈o.op.operands,q9 Γ (ρa y) (a.eval y))→w4 X.P o a w (u2 Γ w s' v):=by
 obtain⟨v,hK,hs⟩:=y1W hP h
 refine⟨v,hK,fun Γ w a s' c hr=>?_⟩
 obtain⟨u,h1,h2⟩:=hs Γ w a.eval hr
 exact w4.val h1 (u2.same c h2)
mutual
theorem z3g {Γ:G}:∀{x:V} {hm:Option Key} {p:List Nat} {vs:List Value},q8 Γ hm p x vs→∀k∈x.pks,Γ.ι k≠none
 | .ptr k0 q τ,_,_,_,h,k,hk=>by
  simp only[V.pks,List.mem_singleton]at hk;subst hk
  simp only[q8]at h
  obtain⟨b,τ0,o,h1,_⟩:=h
  rw[h1];simp
 | .mp k0,_,_,_,h,k,hk=>by
  simp only[V.pks,List.mem_singleton]at hk;subst hk
  simp only[q8]at h
  obtain⟨b,h1,_⟩:=h
  rw[h1];simp
 | .sr k0 q lo n (some c) eb e,_,_,_,h,k,hk=>by
  simp only[V.pks,List.mem_singleton]at hk;subst hk
  simp only[q8]at h
  rcases h with⟨h,_⟩|⟨b,τ0,o,m,cap,h1,_⟩
  ·cases h
  ·rw[h1];simp
 | .agg τ xs,_,_,_,h,k,hk=>by
  simp only[V.pks]at hk
  simp only[q8]at h
  exact z50 h.2.2.2.2 k hk
 | .sr _ _ _ _ none _ _,_,_,_,_,k,hk| .d _ _,_,_,_,_,k,hk| .sl _ _ _ _,_,_,_,_,k,hk| .ts _ _ _,_,_,_,_,k,hk| .emp _ _,_,_,_,_,k,hk| .nilc,_,_,_,_,k,hk| .cptr _ _,_,_,_,_,k,hk| .fn _ _,_,_,_,_,k,hk| .tup _,_,_,_,_,k,hk| .top _,_,_,_,_,k,hk| .any,_,_,_,_,k,hk=>by simp[V.pks]at hk
theorem z50 {Γ:G}:∀{xs:List V} {hm:Option Key} {p:List Nat} {i:Nat} {τ:Ty} {vs:List Value},y4 Γ hm p i τ xs vs→∀k∈V.q3n xs,Γ.ι k≠none
 | [],_,_,_,_,_,_,k,hk=>by simp[V.q3n]at hk
 |x::xs,_,_,_,_,_,h,k,hk=>by
  simp only[V.q3n,List.mem_append]at hk
  simp only[y4]at h
  obtain⟨⟨o,f,_,_,_,h1⟩,h2⟩:=h
  rcases hk with hk|hk
  ·exact z3g h1 k hk
  ·exact z50 h2 k hk
end
theorem y1Z {Γ:G} {x:V} {v:Value} (h:q9 Γ x v):∀k∈x.pks,Γ.ι k≠none:=by
 cases x with
 |any=>intro k hk;simp[V.pks]at hk
 |tup=>intro k hk;simp[V.pks]at hk
 |_=>exact z3g h.1
theorem z52:∀{xs:List V} {k:Key},k∈V.q3n xs→∃x∈xs,k∈x.pks
 | [],_,h=>by simp[V.q3n]at h
 |x::xs,k,h=>by
  simp only[V.q3n,List.mem_append]at h
  rcases h with h|h
  ·exact⟨x,by simp,h⟩
  ·obtain⟨y,h1,h2⟩:=z52 h
   exact⟨y,by simp[h1],h2⟩
theorem z38 {s:S} {k:Key} {o:O} (h:z6 s.loc k=some o):s.obj k=some o:=by
 unfold S.obj b6;rw[h]
theorem q7P:∀{l:List (Key × O)} {k:Key} {o:O},z6 l k=some o→(k,o)∈l
 | [],_,_,h=>by simp[z6]at h
 |(j,x)::l,k,o,h=>by
  simp only[z6]at h
  split at h
  ·rename_i e;subst e;cases h;exact List.mem_cons_self ..
  ·exact List.mem_cons_of_mem _ (q7P h)
theorem z3W {s' base:S} (hc:Compat s' s base) (c:z8 Γ w s'):∀(n:Nat) (ks:List Key),(∀k∈ks,Γ.ι k≠none)→∀p∈q2F n s.loc ks,s'.obj p.1=some p.2
 |0,_,_,p,hp=>by simp[q2F]at hp
 |n+1,ks,hk,p,hp=>by
  simp only[q2F,List.mem_flatMap]at hp
  obtain⟨k,h1,hp⟩:=hp
  split at hp
  ·rename_i o ho
   have hs:s'.obj k=some o:=hc.getObj c (hk k h1) (z38 ho)
   rcases List.mem_cons.1 hp with rfl|hp
   ·exact hs
   ·cases o with
    |box x=>
     have hks:∀k∈x.pks,Γ.ι k≠none:=by
      rcases c.obj k _ hs with⟨_,e,hv⟩|⟨b,cells,T,_,_,_,_,_,hr,_⟩
      ·subst hv;intro k hk;simp[V.pks]at hk
      ·exact z3g hr
     exact z3W hc c n x.pks hks p hp
    |_=>simp at hp
  ·simp at hp
theorem y4A {s' base:S} (hc:Compat s' s base) (c:z8 Γ w s') {xs:List V} (hx:∀x∈xs,∃v,q9 Γ x v) {k:Key} {o:O} (h:(base.see s xs).obj k=some o):s'.obj k=some o:=by
 unfold S.obj S.see b6 at h
 simp only[H2]at h
 cases hl:z6 (q2F 3 s.loc (V.q3n xs)) k with
 |some o'=>
  rw[hl]at h
  cases h
  refine z3W hc c 3 (V.q3n xs) (fun k hk=>?_) (k,o) (q7P hl)
  obtain⟨x,h1,h2⟩:=z52 hk
  obtain⟨v,hv⟩:=hx x h1
  exact y1Z hv k h2
 |none=>
  rw[hl]at h
  exact hc.base k o h
theorem z4x:∀{l:List V} {i:Nat} {x:V},q1s l=true→l[i]? =some x→∃τ c,x= .d τ c
 | [],i,x,_,h=>by simp at h
 |y::l,0,x,hl,h=>by
  simp only[q1s,Bool.and_eq_true]at hl
  simp at h;subst h
  cases y <;> simp at hl
  exact⟨_,_,rfl⟩
 |y::l,i+1,x,hl,h=>by
  simp only[q1s,Bool.and_eq_true]at hl
  exact z4x hl.2 (by simpa using h)
theorem y3v {s' base:S} (hc:Compat s' s base) (c:z8 Γ w s') {gl:Nat→Option (Ty × C)} {x:V} {v:Value} (hr:q9 Γ x v) (hd:∃τ cc,q0T s x= .d τ cc):q9 (G.q33 w gl) (q0T s x) v:=by
 obtain⟨τ,cc,hd⟩:=hd
 rw[hd]
 exact y1O c (fun k o hι ho=>hc.getObj c hι ho) gl hr hd
theorem q2b (hP:x4 X.P=true) {md:List (Nat × Nat)} {base:S} {dst:Nat} {o:Oper} {ρa:Operand→V} {K:V→List (Key × O)→List (Nat × Option Nat)→Prop} (h:iop X md base dst o ρa s K):
  ∃v lo tn,K v lo tn∧y0a X base o ρa s v lo tn:=by
 have viaPv:(pv X.P o.op ρa fun y=>K y [] [])→∃v lo tn,K v lo tn∧y0a X base o ρa s v lo tn:=by
  intro h
  obtain⟨v,hK,hd⟩:=y33 hP h
  exact⟨v,[],[],hK,fun Γ w a s' _ c _ _ hr=>hd Γ w a s' c hr⟩
 unfold iop at h
 split at h
 · -- load
  rename_i T x ho
  split at h
  ·split at h
   ·rename_i k q τ hx
    split at h
    ·rename_i y hobj
     unfold y1L at h
     split at h
     ·rename_i y0 t0 M e cc m e' hat ht
      obtain⟨hq,rfl,rfl,hk,hlo,hK⟩:=h
      refine⟨_,_,_,hK,fun Γ w a s' _ c hc _ hr=>?_⟩
      have hxr:=hr x (by rw[ho];simp[Op.operands])
      rw[hx]at hxr
      obtain⟨b,τ0,o0,hι,_⟩:=X5 hxr
      have hq2:q=q.dropLast++[q.getLastD 0]:=by
       rw[List.getLastD_eq_getLast?,List.getLast?_eq_some_getLast hq,Option.getD_some]
       exact(List.dropLast_concat_getLast hq).symm
      rw[hq2]at hxr
      obtain⟨u,r1,r2⟩:=y17 (T:=T) hP c hxr (hc.getObj c (by rw[hι];simp) hobj) hat ht hk hlo
      exact w4.val (by unfold execOp;simp[ho,r1]) (u2.same c r2)
     ·exact h.elim
    ·exact h.elim
   ·exact h.elim
  split at h
  ·rename_i k q τ hx
   split at h
   ·rename_i y hobj
    obtain⟨h1,h2,h3,hK⟩:=h
    refine⟨_,_,_,hK,fun Γ w a s' _ c hc _ hr=>?_⟩
    have hxr:=hr x (by rw[ho];simp[Op.operands])
    rw[hx]at hxr
    obtain⟨b,τ0,o0,hι,_⟩:=X5 hxr
    obtain⟨u,r1,r2⟩:=z1e (T:=T) hP c hxr (hc.getObj c (by rw[hι];simp) hobj) h1 h2 h3
    exact w4.val (by unfold execOp;simp[ho,r1]) (u2.same c r2)
   ·exact h.elim
  ·rename_i τ cc hx
   obtain⟨h2,h3,hK⟩:=h
   refine⟨_,_,_,hK,fun Γ w a s' _ c hc _ hr=>?_⟩
   have hxr:=hr x (by rw[ho];simp[Op.operands])
   rw[hx]at hxr
   obtain⟨u,r1,r2⟩:=y0D (T:=T) hP c hxr h2 h3
   exact w4.val (by unfold execOp;simp[ho,r1]) (u2.same c r2)
  ·exact h.elim
 ·rename_i T ho
  obtain⟨h1,hK⟩:=h
  exact⟨_,_,_,hK,fun Γ w a s' _ c _ hf _=>y2F c ho (hf.l _ _ (U4 _ _ _)) h1⟩
 ·rename_i T x ho
  split at h
  ·obtain⟨h1,h⟩:=h
   split at h
   ·rename_i cc hcc
    exact⟨_,_,_,h,fun Γ w a s' _ c _ hf hr=>y38 c ho (hr x (by rw[ho];simp[Op.operands])) h1 hcc⟩
   ·exact h.elim
  ·obtain⟨h1,h2,hK⟩:=h
   exact⟨_,_,_,hK,fun Γ w a s' _ c _ hf hr=>y4U c ho (hf.l _ _ (U4 _ _ _)) (hr x (by rw[ho];simp[Op.operands])) h1 h2⟩
 · -- buildSlice
  rename_i t len parts ho
  split at h
  ·rename_i eb e ht
   split at h
   ·obtain⟨h1,hK⟩:=h
    have hp0:parts=#[]:=by apply Array.eq_empty_of_size_eq_zero;simpa using h1
    subst hp0
    exact⟨_,_,_,hK,fun Γ w a s' _ c _ _ _=>z3F hP c ho ht⟩
   ·rename_i len
    obtain⟨h1,h2,h3,h4,h5,h⟩:=h
    split at h
    ·obtain⟨h6,h7,hK⟩:=h
     refine⟨_,_,_,hK,fun Γ w a s' _ c _ hf hr=>z3E hP c (hf.l _ _ (U4 _ _ _)) ho ht h1 (by omega) h2 h3 h4 h5 (by have:=congrArg List.length h5;simpa using this) (fun i x y hx hy=>?_) h6 h7⟩
     rw[List.getElem?_map,hx]at hy
     cases hy
     exact hr x.2 (by rw[ho];simp only[Op.operands];exact List.mem_toArray.2 (List.mem_map.2 ⟨x,List.mem_of_getElem? hx,rfl⟩))
    split at h
    ·rename_i cs hcs
     obtain⟨h6,hK⟩:=h
     obtain⟨l1,l2⟩:=q6O hcs
     have hl:cs.length=len+1:=by rw[l1];have:=congrArg List.length h5;simpa using this
     have key:∀(Γ:G) (w:World) (a:Act) (s':S),Γ.gl=X.gl→z8 Γ w s'→(∀y∈o.op.operands,q9 Γ (ρa y) (a.eval y))→∀(i:Nat) (x:Nat × Operand) (cc:C),parts.toList[i]? =some x→cs[i]? =some cc→q9 Γ (.d e cc) (a.eval x.2):=by
      intro Γ w a s' _ c hr i x cc hx hcc
      have hxm:(parts.toList.map fun x=>ρa x.2)[i]? =some (ρa x.2):=by simp only[List.getElem?_map,hx];rfl
      obtain⟨t1,t2⟩:=h6 _ (List.mem_of_getElem? hxm)
      have hmem:x∈parts.toList:=List.mem_of_getElem? hx
      have hrx:=hr x.2 (by rw[ho];simp only[Op.operands];exact List.mem_toArray.2 (List.mem_map.2 ⟨x,hmem,rfl⟩))
      obtain⟨q1,q2⟩:=(y8 t2).1 hrx
      have:=q0M _ q1 (l2 i _ cc hxm hcc)
      rw[t1]at this q2
      exact Q2.2 ⟨this,q2⟩
     split at hK
     ·exact⟨_,_,_,hK,fun Γ w a s' hg c _ hf hr=>z3D hP c (hf.t _ _ (q2p _ _ _)) ho ht h1 (by omega) h2 h3 h4 h5 hl (key Γ w a s' hg c hr)⟩
     ·exact⟨_,_,_,hK,fun Γ w a s' hg c _ _ hr=>z4W hP c ho ht h1 (by omega) h2 h3 h4 h5 hl (key Γ w a s' hg c hr)⟩
    ·exact h.elim
  ·exact h.elim
 · -- build
  rename_i T parts ho
  obtain⟨h1,h2,h3,h4,hK⟩:=h
  refine⟨_,_,_,hK,fun Γ w a s' _ c _ _ hr=>?_⟩
  obtain⟨u,r1,r2⟩:=y2E (Γ:=Γ) (w:=w) (ev:=a.eval) hP h1 h2 h3 (fun p hp=>hr p.2 (by rw[ho];simp only[Op.operands];exact List.mem_toArray.2 (List.mem_map.2 ⟨p,hp,rfl⟩))) h4
  refine w4.val (v:=u) (w':=w) ?_ (u2.same c r2)
  unfold execOp
  simp only[ho,Sem.run_bind,r1,Result.andThen_ok,Sem.run_pure]
 · -- makeSlice
  rename_i t l cp ho
  split at h
  ·rename_i eb e ht
   obtain⟨h1,h2,h3,h4,h5,h6,h7,h8,hK⟩:=h
   refine⟨_,_,_,hK,fun Γ w a s' _ c _ hf hr=>?_⟩
   obtain⟨k1,e1⟩:=q9I h2 (hr l (by rw[ho];simp[Op.operands]))
   obtain⟨k2,e2⟩:=q9I h3 (hr cp (by rw[ho];simp[Op.operands]))
   exact z68 (L:=ρa l) (Cp:=ρa cp) (k1:=k1) (k2:=k2) (nl:=(ρa l).toInt.toNat) (nc:=(ρa cp).toInt.toNat) hP c ho ht h1 (hf.l _ _ (U4 _ _ _)) (by rw[e1,Int.toNat_of_nonneg h4]) (by rw[e2,Int.toNat_of_nonneg (by omega)]) (by omega) (by unfold maxLen;omega) h7 h8 (fun c h=>by split at h <;> cases h;rfl)
  ·exact h.elim
 · -- makeMap
  rename_i T r ho
  split at h
  ·rename_i kt et hT
   exact⟨_,_,_,h,fun Γ w a s' _ c _ hf _=>z9R c ho (hf.l _ _ (U4 _ _ _))⟩
  ·exact h.elim
 · -- lookup
  rename_i T x i ok ho
  split at h
  ·rename_i kt et k hT hx
   split at h
   ·rename_i kτ vτ es hobj
    obtain⟨rfl,h1,h2,h3,hK⟩:=h
    refine⟨_,_,_,hK,fun Γ w a s' _ c hc _ hr=>?_⟩
    have hxr:=hr x (by rw[ho];simp[Op.operands])
    rw[hx]at hxr
    obtain⟨b,hι,_⟩:=q60 hxr
    have hir:=hr i (by rw[ho];simp[Op.operands])
    have hd:ρa i= .d (ty X.P kt) (ρa i).toC:=by
     cases hi:ρa i <;> simp[hi,V.Z4]at h3
     subst h3;rfl
    rw[hd]at hir
    have:=y1e hP c ho hT hxr hir (hc.getObj c (by rw[hι];simp) hobj) h1 h2
    exact this
   ·exact h.elim
  ·exact h.elim
 · -- calls
  rename_i cl ho
  obtain⟨callee,args,ts⟩:=cl
  split at h
  ·rename_i fo hfo
   simp only at hfo h
   subst hfo
   split at h
   ·rename_i f caps hf
    rcases h with⟨h1,h2,b,v,L,hB,D,hL,hK⟩|⟨rfl,v,E,hK⟩|⟨rfl,h1,v,hx,D,hv,hK⟩
    rotate_left
    ·refine⟨_,_,_,hK,fun Γ w a s' hgl c hc hfr hr=>?_⟩
     have hrf:=hr fo (by rw[ho];simp[Op.operands,Call.operands])
     rw[hf]at hrf
     obtain⟨cv,hfv,hcl,_⟩:=q9Q hrf
     have hcv:cv=#[]:=by apply Array.eq_empty_of_size_eq_zero;simpa using hcl.symm
     subst hcv
     obtain⟨u,e1,e2⟩:=E Γ w (args.map a.eval) (by simp) fun i x u hx hu=>by
      simp only[List.getElem?_map,Array.getElem?_map]at hx hu
      cases hy:args[i]? with
      |none=>rw[hy]at hu;cases hu
      |some y=>
       have hy':args.toList[i]? =some y:=by simpa using hy
       rw[hy]at hu;rw[hy']at hx
       cases hu;cases hx
       exact hr y (by rw[ho];simp only[Op.operands,Call.operands];exact Array.mem_append_right _ (Array.mem_of_getElem? hy))
     refine w4.val (v:=u) (w':=w) ?_ (u2.same c e2)
     unfold execOp
     simp[ho,resolve,hfv,Deferred.ofValue,invoke,e1]
    ·refine⟨_,_,_,hK,fun Γ w a s' hgl c hc hfr hr=>?_⟩
     have hrf:=hr fo (by rw[ho];simp[Op.operands,Call.operands])
     rw[hf]at hrf
     refine y34 hgl c ho h1 hrf (by simp) (fun i x y hx' hy=>?_) hx D hv
     simp only[List.getElem?_map]at hx'
     have hx2:=hx'
     rw[hy]at hx'
     cases hx'
     refine y3v hc c (hr y (by rw[ho];simp only[Op.operands,Call.operands];exact Array.mem_append_right _ (Array.mem_toList_iff.1 (List.mem_of_getElem? hy)))) (z4x hx (i:=i) ?_)
     simp only[List.getElem?_map]
     exact hx2
    refine⟨_,_,_,hK,fun Γ w a s' hgl c hc hfr hr=>?_⟩
    have hrf:=hr fo (by rw[ho];simp[Op.operands,Call.operands])
    rw[hf]at hrf
    rw[q3H s s']at D
    have hbb:∀k o,b.obj k=some o→s'.obj k=some o:=by
     intro k ob hk
     rcases hB with rfl|rfl
     ·exact hc.base k ob hk
     ·refine y4A hc c (fun x hx=>?_) hk
      simp only[Z1,List.mem_append,List.mem_map]at hx
      rcases hx with⟨y,hy,rfl⟩|hx
      ·exact⟨_,hr y (by rw[ho];simp only[Op.operands,Call.operands];exact Array.mem_append_right _ (Array.mem_toList_iff.1 hy))⟩
      ·obtain⟨cv,_,q1,q2⟩:=q9Q hrf
       obtain⟨i,hi⟩:=List.mem_iff_getElem?.1 hx
       have hlt:i<cv.toList.length:=by rw[←q1];exact(List.getElem?_eq_some_iff.1 hi).1
       exact⟨_,q2 i x _ hi (List.getElem?_eq_getElem hlt)⟩
    have:=z8D (tip:=false) (A:=b.up) (d:=dst) rfl hgl c ho h1 h2 hrf (fun y hy=>hr y (by rw[ho];simp only[Op.operands,Call.operands];exact Array.mem_append_right _ (Array.mem_toList_iff.1 hy))) (by rw[q3o];rfl) D
     (fun k o hk=>by
      simp only[S.up]at hk ⊢
      cases hb:b.obj k with
      |none=>simp[hb]at hk
      |some ob=>rw[hbb k ob hb];rw[hb]at hk;exact hk)
     (fun k o hk=>(z13 hL hk).elim) (fun j o hj=>hfr.l _ _ (z56 dst hL hj)) (fun m x hm=>hfr.t _ x (by rw[z7K];exact hm))
    have e:S.back s' false (Z1 (args.toList.map ρa) caps) dst v L=s'.add (dnL dst L) (dnT dst (v.tkR 2000)):=by
     simp[S.back,S.add,q3o,q2y]
    rw[←e]
    exact this
   ·exact h.elim
  ·rename_i hb
   simp only at hb h
   subst hb
   split at h
   ·rename_i x y t t' hargs hts
    have hargs':args=#[x,y]:=by cases args;simpa using hargs
    have hts':ts=#[t,t']:=by cases ts;simpa using hts
    subst hargs';subst hts'
    obtain⟨h1,h⟩:=h
    split at h
    ·rename_i eb e eb0 e0 ht hx
     obtain⟨ys,hK,hs⟩:=q4E hP h
     split at hK
     ·obtain⟨hne,hK⟩:=hK
      refine⟨_,_,_,hK,fun Γ w a s' _ c hc hf hr=>?_⟩
      have hyr:=hr y (by rw[ho];simp[Op.operands,Call.operands])
      have hxr:=hr x (by rw[ho];simp[Op.operands,Call.operands])
      obtain⟨Y',hyr',hs'⟩:=q3c hc c hyr hs
      exact q8A hP c ho ht h1 (hf.l _ _ (U4 _ _ _)) hxr (.inr ⟨_,_,hx⟩) hyr' hs' hne
     ·refine⟨_,_,_,hK,fun Γ w a s' _ c hc hf hr=>?_⟩
      have hyr:=hr y (by rw[ho];simp[Op.operands,Call.operands])
      have hxr:=hr x (by rw[ho];simp[Op.operands,Call.operands])
      obtain⟨Y',hyr',hs'⟩:=q3c hc c hyr hs
      exact q6z hP c ho ht h1 (hf.t dst _ (q2p _ _ _)) hxr (.inr ⟨_,_,hx⟩) hyr' hs'
    ·rename_i eb e ht hx
     obtain⟨ys,hK,hs⟩:=q4E hP h
     split at hK
     ·obtain⟨hne,hK⟩:=hK
      refine⟨_,_,_,hK,fun Γ w a s' _ c hc hf hr=>?_⟩
      have hyr:=hr y (by rw[ho];simp[Op.operands,Call.operands])
      have hxr:=hr x (by rw[ho];simp[Op.operands,Call.operands])
      obtain⟨Y',hyr',hs'⟩:=q3c hc c hyr hs
      exact q8A hP c ho ht h1 (hf.l _ _ (U4 _ _ _)) hxr (.inl hx) hyr' hs' hne
     ·refine⟨_,_,_,hK,fun Γ w a s' _ c hc hf hr=>?_⟩
      have hyr:=hr y (by rw[ho];simp[Op.operands,Call.operands])
      have hxr:=hr x (by rw[ho];simp[Op.operands,Call.operands])
      obtain⟨Y',hyr',hs'⟩:=q3c hc c hyr hs
      exact q6z hP c ho ht h1 (hf.t dst _ (q2p _ _ _)) hxr (.inl hx) hyr' hs'
    ·exact h.elim
   ·exact h.elim
  ·rename_i hb
   simp only at hb h
   subst hb
   split at h
   ·rename_i x T hargs hts
    have hargs':args=#[x]:=by cases args;simpa using hargs
    have hts':ts=#[T]:=by cases ts;simpa using hts
    subst hargs';subst hts'
    split at h
    ·rename_i k hx
     split at h
     ·rename_i pr kτ vτ es hT hobj
      obtain⟨h1,hK⟩:=h
      refine⟨_,_,_,hK,fun Γ w a s' _ c hc _ hr=>?_⟩
      have hxr:=hr x (by rw[ho];simp[Op.operands,Call.operands])
      rw[hx]at hxr
      obtain⟨b,hι,_⟩:=q60 hxr
      exact y1f c ho (kt:=pr.1) (et:=pr.2) hT hxr (hc.getObj c (by rw[hι];simp) hobj) h1
     ·exact h.elim
    ·exact viaPv h
   ·exact viaPv h
  ·exact viaPv h
 · -- a string of bytes
  rename_i src dst' x ho
  split at h
  ·rename_i ys hys
   refine⟨_,_,_,h,fun Γ w a s' _ c hc _ hr=>?_⟩
   have hxr:=hr x (by rw[ho];simp[Op.operands])
   obtain⟨Y',hxr',hys'⟩:=z5A hc c hxr hys
   exact y2D hP c ho hys' hxr'
  ·exact viaPv h
 ·exact viaPv h
end
end Go.E
namespace Go.E
open Go
def C.isNil:C→Bool
 | .nil=>true
 |_=>false
def q4R:Operand→Bool
 | .const .nilIface=>true
 |_=>false
def q8e (P:Program) (src dst:TypeId) (x:V):Option (List C):=
 match ty P src,ty P dst with
 | .str,.slice eb e=>if e.z6D=true∧eb=1 then(match x with
  | .d .str c=>some (c.toStr.map fun b=>C.int b.toNat)
  |_=>none)else none
 |_,_=>none
def z2M (P:Program) (T:TypeId):Bool:=
 match ty P T with
 | .iface| .opq _=>false
 |_=>true
noncomputable def fop (X:Cx) (o:Oper) (ρ:Operand→V) (K:V→Prop):Prop:=
 match o.op with
 | .convert src dst x=>(match q8e X.P src dst (ρ x)with
  |some ys=>K (.d (.slice 1 (.int .u8)) (.slice ys))
  |none=>False)
 | .makeInterface T _=>z2M X.P T=true∧K (.d .iface (.bool true))
 | .binOp op T x y _=>q4R y=true∧ty X.P T= .iface∧(match op,ρ x with
  | .eql,.d .iface c=>K (.d .bool (.bool c.isNil))
  | .neq,.d .iface c=>K (.d .bool (.bool (!c.isNil)))
  |_,_=>False)
 |_=>False
noncomputable def sl3 (X:Cx) (md:List (Nat × Nat)) (dst:Nat) (o:Oper) (ρ:Operand→V) (s:S) (K:V→S→Prop):Prop:=
 match o.op with
 | .slice T x lo hi mx=>r7 md dst=4∧s.known dst=false∧hi.isSome=true∧mx.isSome=true∧(match ty X.P T with
  | .slice eb e=>(match(ρ x).q1O with
   |some (eb',e',cs)=>eb'=eb∧e'=e∧(match j5 (lo.map ρ) 0,j5 (hi.map ρ) 0,j5 (mx.map ρ) 0 with
    |some l,some h,some m=>l=0∧0≤h∧h=m∧m≤cs.length∧K (.sl eb e (cs.take h.toNat) dst) {s with tk:=(dst,some (cs.take h.toNat).length)::s.tk}
    |_,_,_=>False)
   |none=>False)
  |_=>False)
 | .convert src dst' x=>r7 md dst=9∧s.obj (.l dst)=none∧(match q8e X.P src dst' (ρ x)with
  |some ys=>K (.sr (.l dst) [] 0 ys.length none 1 (.int .u8)) {s with loc:=(.l dst,.box (.d (.arr ys.length (.int .u8)) (.agg ys)))::s.loc}
  |none=>False)
 |_=>False
section
variable {X:Cx} {Γ:G} {w:World} {s:S}
theorem z7z {P:Program} {f:Nat} {T:TypeId} (h:tyF P (f+1) T= .iface):∃ms,P.underlying T=some (.interface ms):=by
 unfold tyF at h
 split at h
 ·cases hu:P.underlying T with
  |none=>simp[hu]at h
  |some d=>cases d <;> simp[hu]at h ⊢
 ·cases h
theorem z8R {P:Program} {T:TypeId} (h:z2M P T=true):∃d,P.underlying T=some d∧∀ms,d≠.interface ms:=by
 unfold z2M ty tyF at h
 split at h
 ·cases h
 ·cases h
 ·rename_i h1 h2
  split at h1
  ·cases hu:P.underlying T with
   |none=>simp[hu]at h2
   |some d=>exact⟨d,rfl,fun ms e=>by subst e;simp[hu]at h1⟩
  ·rename_i hn
   simp[hn]at h2
theorem z1R {c:C} {v:Value} (h:q9 Γ (.d .iface c) v):(c= .nil∧v= .nilIface)∨(c= .bool true∧∃t u,v= .iface t u):=by
 obtain⟨h1,h2⟩:=Q2.1 h
 rw[x5 (by simpa[Ty.isAgg]using h2)]at h1
 simp only[z7]at h1
 rcases h1 with⟨rfl,h1⟩|⟨rfl,t,u,h1⟩
 ·simp at h1;exact .inl ⟨rfl,h1⟩
 ·simp at h1;exact .inr ⟨rfl,t,u,h1⟩
theorem z1K {P:Program} {T:TypeId} {ms:Array (String × TypeId)} (hu:P.underlying T=some (.interface ms)) {v:Value} (hv:v= .nilIface∨∃t u,v= .iface t u) (w:World):
  (Op.equal T v .nilIface).run P w= .ok (match v with| .nilIface=>true|_=>false) w:=by
 unfold Op.equal Op.maxDepth
 rw[show(10000:Nat)=9999+1 from rfl,Op.equalIn,Sem.run_bind,run_underlying hu]
 rcases hv with rfl|⟨t,u,rfl⟩ <;> rfl
theorem q4i {P:Program} {T:TypeId} {ms:Array (String × TypeId)} (hu:P.underlying T=some (.interface ms)) {x y:Operand} (hy:q4R y=true) {v:Value} (hv:v= .nilIface∨∃t u,v= .iface t u) (w:World):
  ((do eqGuard .eql T x y v .nilIface;binOp .eql T v .nilIface):Sem Value).run P w= .ok (.bool (match v with| .nilIface=>true|_=>false)) w∧
  ((do eqGuard .neq T x y v .nilIface;binOp .neq T v .nilIface):Sem Value).run P w= .ok (.bool (!(match v with| .nilIface=>true|_=>false))) w:=by
 obtain⟨z,rfl⟩:∃z,y= .const z:=by
  cases y with
  |const z=>exact⟨z,rfl⟩
  |_=>simp[q4R]at hy
 have he:=z1K hu hv w
 rcases hv with rfl|⟨t,u,rfl⟩
 ·constructor
  ·rw[eqGuard_nil_constR]
   show(do pure (.bool (←Op.equal T .nilIface .nilIface)):Sem Value).run P w=_
   rw[Sem.run_bind,he];rfl
  ·rw[eqGuard_nil_constR]
   show(do pure (.bool (!(←Op.equal T .nilIface .nilIface))):Sem Value).run P w=_
   rw[Sem.run_bind,he];rfl
 ·constructor
  ·show(do pure (.bool (←Op.equal T (.iface t u) .nilIface)):Sem Value).run P w=_
   rw[Sem.run_bind,he];rfl
  ·show(do pure (.bool (!(←Op.equal T (.iface t u) .nilIface))):Sem Value).run P w=_
   rw[Sem.run_bind,he];rfl
theorem y36 {P:Program} (hP:x4 P=true) (c:z8 Γ w s) {o:Oper} {a:Act} {src dst:TypeId} {x:Operand} (ho:o.op= .convert src dst x) {Y:V} {ys:List C} (h:q8e P src dst Y=some ys)
  (hr:q9 Γ Y (a.eval x)):w4 P o a w (u2 Γ w s (.d (.slice 1 (.int .u8)) (.slice ys))):=by
 unfold q8e at h
 split at h
 ·rename_i eb e hs ht
  obtain⟨E,hu,hE,_,_⟩:=F3 hP ht
  have hs':=q3a hs
  split at h
  ·rename_i hc0
   obtain⟨h0,rfl⟩:=hc0
   obtain rfl:=Ty.q9Z h0
   have hEu:P.underlying E=some (.int .u8):=q8N hE.symm
   split at h
   ·rename_i cc
    cases h
    obtain⟨hv,_,hl⟩:=U3 hr
    have run:=run_bytes_of_string (P:=P) w src dst E ⟨cc.toStr.toArray⟩ hs' hu hEu
    have hsz:(⟨cc.toStr.toArray⟩:ByteArray).size=cc.toStr.length:=by simp[ByteArray.size]
    rw[hsz]at run
    have hge:=grownCap_ge w cc.toStr.length 0 E
    have hcm:=grownCap_le_maxLen w cc.toStr.length 0 E (by unfold maxLen;omega)
    generalize grownCap w cc.toStr.length 0 E=cap at run hge hcm
    have hrow:(bytesRow ⟨cc.toStr.toArray⟩ cap).toList=cc.toStr.map (fun b=>Value.int .u8 b.toNat)++(List.replicate (cap-cc.toStr.length) (Value.int .u8 0)):=by
     simp[bytesRow,hsz]
    have hext:Ext w (w.drew.alloc (.cells (bytesRow ⟨cc.toStr.toArray⟩ cap) E ((bytesRow ⟨cc.toStr.toArray⟩ cap).size,(bytesRow ⟨cc.toStr.toArray⟩ cap).size+1))):=(Ext.drew w).trans (Ext.alloc _ _)
    have hnew:=heap_alloc_new w.drew (.cells (bytesRow ⟨cc.toStr.toArray⟩ cap) E ((bytesRow ⟨cc.toStr.toArray⟩ cap).size,(bytesRow ⟨cc.toStr.toArray⟩ cap).size+1))
    obtain⟨c1,p1,g1⟩:=c.q0A hext hnew hrow
    refine w4.val (v:=.slice (some ⟨w.heap.size,0,none⟩) cc.toStr.length cap) (w':=w.drew.alloc (.cells (bytesRow ⟨cc.toStr.toArray⟩ cap) E ((bytesRow ⟨cc.toStr.toArray⟩ cap).size,(bytesRow ⟨cc.toStr.toArray⟩ cap).size+1))) ?_ ⟨_,g1,p1,c1,?_⟩
    ·unfold execOp
     simp only[ho,hv,Sem.run_bind,run,Result.andThen_ok,Sem.run_pure]
    ·refine Q2.2 ⟨v7 (by simp) hge hcm (by omega) (.inr ⟨w.heap.size,0,_,rfl,w8 _ _ _,by simp[Ty.size],fun i c' hi=>?_⟩),rfl⟩
     simp only[List.getElem?_map]at hi
     cases hb:cc.toStr[i]? with
     |none=>rw[hb]at hi;cases hi
     |some b=>
      rw[hb]at hi
      cases hi
      have:chunk (cc.toStr.map (fun b=>Value.int .u8 b.toNat)) (0+i*(Ty.int IntKind.u8).size) (Ty.int IntKind.u8).size=[.int .u8 b.toNat]:=by
       apply List.ext_getElem?
       intro j
       rw[w5]
       by_cases hj:j<1
       ·have:j=0:=by omega
        subst this
        simp[Ty.size,hb]
       ·simp[Ty.size,hj]
      rw[this]
      simp only[z7]
      refine⟨_,rfl,rfl,?_,?_⟩
      ·have:IntKind.u8.min=0:=by decide
       omega
      ·have:IntKind.u8.max=255:=by decide
       have:=b.toNat_lt
       omega
   ·cases h
  ·cases h
 ·cases h
theorem y4T {P:Program} (hP:x4 P=true) (c:z8 Γ w s) {o:Oper} {a:Act} {src dst:TypeId} {x:Operand} {n:Nat} (ho:o.op= .convert src dst x) {Y:V} {ys:List C} (h:q8e P src dst Y=some ys)
  (hr:q9 Γ Y (a.eval x)) (hn:s.obj (.l n)=none):w4 P o a w (u2 Γ w {s with loc:=(.l n,.box (.d (.arr ys.length (.int .u8)) (.agg ys)))::s.loc} (.sr (.l n) [] 0 ys.length none 1 (.int .u8))):=by
 unfold q8e at h
 split at h
 ·rename_i eb e hs ht
  obtain⟨E,hu,hE,_,_⟩:=F3 hP ht
  have hs':=q3a hs
  split at h
  ·rename_i hc0
   obtain⟨h0,rfl⟩:=hc0
   obtain rfl:=Ty.q9Z h0
   have hEu:P.underlying E=some (.int .u8):=q8N hE.symm
   split at h
   ·rename_i cc
    cases h
    obtain⟨hv,_,hl⟩:=U3 hr
    have run:=run_bytes_of_string (P:=P) w src dst E ⟨cc.toStr.toArray⟩ hs' hu hEu
    have hsz:(⟨cc.toStr.toArray⟩:ByteArray).size=cc.toStr.length:=by simp[ByteArray.size]
    rw[hsz]at run
    have hge:=grownCap_ge w cc.toStr.length 0 E
    have hcm:=grownCap_le_maxLen w cc.toStr.length 0 E (by unfold maxLen;omega)
    generalize grownCap w cc.toStr.length 0 E=cap at run hge hcm
    have hrow:(bytesRow ⟨cc.toStr.toArray⟩ cap).toList=cc.toStr.map (fun b=>Value.int .u8 b.toNat)++(List.replicate (cap-cc.toStr.length) (Value.int .u8 0)):=by
     simp[bytesRow,hsz]
    have hrs:(bytesRow ⟨cc.toStr.toArray⟩ cap).size=cap:=by
     rw[←Array.length_toList,hrow];simp;omega
    have hext:Ext w (w.drew.alloc (.cells (bytesRow ⟨cc.toStr.toArray⟩ cap) E ((bytesRow ⟨cc.toStr.toArray⟩ cap).size,(bytesRow ⟨cc.toStr.toArray⟩ cap).size+1))):=(Ext.drew w).trans (Ext.alloc _ _)
    have hnew:=heap_alloc_new w.drew (.cells (bytesRow ⟨cc.toStr.toArray⟩ cap) E ((bytesRow ⟨cc.toStr.toArray⟩ cap).size,(bytesRow ⟨cc.toStr.toArray⟩ cap).size+1))
    have hch:chunk (bytesRow ⟨cc.toStr.toArray⟩ cap).toList 0 cc.toStr.length=cc.toStr.map (fun b=>Value.int .u8 b.toNat):=by
     rw[hrow];unfold chunk;rw[List.drop_zero];exact List.take_left' (by simp)
    have hyl:(cc.toStr.map fun b=>C.int b.toNat).length=cc.toStr.length:=by simp
    have hrep:q8 Γ none [] (.d (.arr (cc.toStr.map fun b=>C.int b.toNat).length (.int .u8)) (.agg (cc.toStr.map fun b=>C.int b.toNat))) (chunk (bytesRow ⟨cc.toStr.toArray⟩ cap).toList 0 (V.d (.arr (cc.toStr.map fun b=>C.int b.toNat).length (.int .u8)) (.agg (cc.toStr.map fun b=>C.int b.toNat))).ty.size):=by
     simp only[q8,V.ty,Ty.size,Nat.mul_one,hyl,hch]
     have hel:∀i c',(cc.toStr.map fun b=>C.int b.toNat)[i]? =some c'→z7 Γ.H (.int .u8) (chunk (cc.toStr.map (fun b=>Value.int .u8 b.toNat)) (i*(Ty.int IntKind.u8).size) (Ty.int IntKind.u8).size) c':=by
      intro i c' hi
      simp only[List.getElem?_map]at hi
      cases hb:cc.toStr[i]? with
      |none=>rw[hb]at hi;cases hi
      |some b=>
       rw[hb]at hi
       cases hi
       have:chunk (cc.toStr.map (fun b=>Value.int .u8 b.toNat)) (i*(Ty.int IntKind.u8).size) (Ty.int IntKind.u8).size=[.int .u8 b.toNat]:=by
        apply List.ext_getElem?
        intro j
        rw[w5]
        by_cases hj:j<1
        ·have:j=0:=by omega
         subst this
         simp[Ty.size,hb]
        ·simp[Ty.size,hj]
       rw[this]
       simp only[z7]
       refine⟨_,rfl,rfl,?_,?_⟩
       ·have:IntKind.u8.min=0:=by decide
        omega
       ·have:IntKind.u8.max=255:=by decide
        have:=b.toNat_lt
        omega
     simp only[z7]
     exact⟨_,rfl,by simp,by rw[List.length_map];show _=_*1;omega,fun v hv=>by obtain⟨b,_,rfl⟩:=List.mem_map.1 hv;rfl,hel⟩
    obtain⟨Γ',q1,q2,q3,q4⟩:=q7c c hn (T:=E) hext hnew (by simp only[V.ty,Ty.size,hrs,hyl,Nat.mul_one];exact hge) hrep rfl rfl (.inr (Nat.le_refl _))
    obtain⟨y1,y2,y3⟩:=q3.q3J hnew
    refine w4.val (v:=.slice (some ⟨w.heap.size,0,none⟩) cc.toStr.length cap) (w':=w.drew.alloc (.cells (bytesRow ⟨cc.toStr.toArray⟩ cap) E ((bytesRow ⟨cc.toStr.toArray⟩ cap).size,(bytesRow ⟨cc.toStr.toArray⟩ cap).size+1))) ?_ ⟨_,q1.trans y3,q2.trans y2,y1,?_⟩
    ·unfold execOp
     simp only[ho,hv,Sem.run_bind,run,Result.andThen_ok,Sem.run_pure]
    ·obtain⟨b,τ0,o',r1,r2,r3⟩:=X5 q4
     simp at r3
     obtain⟨rfl,rfl⟩:=r3
     have hge':(cc.toStr.map fun b=>C.int b.toNat).length≤cap:=by rw[hyl];exact hge
     have:=q3g (show(G.q3J Γ' _ _).ι (.l n)=_ from r1) r2 (lo:=0) (n:=(cc.toStr.map fun b=>C.int b.toNat).length) (cap:=cap) (eb:=1) (cp:=none) (a:=some ⟨w.heap.size,0,none⟩) (by omega) (.inr (by simp)) hge' hcm (by rw[hyl];omega) (fun _ h=>by cases h) (fun _=>.inr ⟨(bytesRow ⟨cc.toStr.toArray⟩ cap).size,w8 _ _ _,by rw[hrs];simp[Ty.size]⟩)
     rw[←hyl]
     exact this
   ·cases h
  ·cases h
 ·cases h
theorem q9s (hP:x4 X.P=true) {o:Oper} {ρ:Operand→V} {K:V→Prop} (h:fop X o ρ K):
  ∃v,K v∧∀(Γ:G) (w:World) (a:Act) (s:S),z8 Γ w s→(∀y∈o.op.operands,q9 Γ (ρ y) (a.eval y))→w4 X.P o a w (u2 Γ w s v):=by
 unfold fop at h
 split at h
 ·rename_i src dst x ho
  split at h
  ·rename_i ys hys
   exact⟨_,h,fun Γ w a s c hr=>y36 hP c ho hys (hr x (by rw[ho];simp[Op.operands]))⟩
  ·exact h.elim
 ·rename_i T x ho
  obtain⟨h1,hK⟩:=h
  obtain⟨d,hd,hni⟩:=z8R h1
  refine⟨_,hK,fun Γ w a s c hr=>w4.val (v:=.iface T (a.eval x)) (w':=w) ?_ (u2.same c (Q2.2 ⟨?_,rfl⟩))⟩
  ·unfold execOp
   simp only[ho,Sem.run_bind,Instr.makeInterface,run_underlying hd]
   cases d <;> first
    |exact absurd rfl (hni _)
    |simp[Sem.run_pure,Result.andThen]
  ·simp only[Value.cells,z7]
   exact .inr ⟨trivial,_,_,rfl⟩
 ·rename_i op T x y yT ho
  obtain⟨hy,hT,h⟩:=h
  obtain⟨ms,hu⟩:=z7z (f:=11) hT
  have hyv:∀a:Act,a.eval y= .nilIface:=fun a=>by
   cases y with
   |const z=>cases z <;> simp[q4R]at hy;rfl
   |_=>simp[q4R]at hy
  split at h
  ·rename_i cc hx
   refine⟨_,h,fun Γ w a s c hr=>?_⟩
   have hxr:=hr x (by rw[ho];simp[Op.operands])
   rw[hx]at hxr
   rcases z1R hxr with⟨rfl,hv⟩|⟨rfl,t,u,hv⟩
   ·refine w4.val (v:=.bool true) (w':=w) ?_ (u2.same c (w6))
    unfold execOp
    simp only[ho,hyv,hv]
    have:=(q4i (P:=X.P) hu (x:=x) hy (v:=.nilIface) (.inl rfl) w).1
    simp only[Sem.run_bind]at this ⊢
    rw[this]
    rfl
   ·refine w4.val (v:=.bool false) (w':=w) ?_ (u2.same c (w6))
    unfold execOp
    simp only[ho,hyv,hv]
    have:=(q4i (P:=X.P) hu (x:=x) hy (v:=.iface t u) (.inr ⟨_,_,rfl⟩) w).1
    simp only[Sem.run_bind]at this ⊢
    rw[this]
    rfl
  ·rename_i cc hx
   refine⟨_,h,fun Γ w a s c hr=>?_⟩
   have hxr:=hr x (by rw[ho];simp[Op.operands])
   rw[hx]at hxr
   rcases z1R hxr with⟨rfl,hv⟩|⟨rfl,t,u,hv⟩
   ·refine w4.val (v:=.bool false) (w':=w) ?_ (u2.same c (w6))
    unfold execOp
    simp only[ho,hyv,hv]
    have:=(q4i (P:=X.P) hu (x:=x) hy (v:=.nilIface) (.inl rfl) w).2
    simp only[Sem.run_bind]at this ⊢
    rw[this]
    rfl
   ·refine w4.val (v:=.bool true) (w':=w) ?_ (u2.same c (w6))
    unfold execOp
    simp only[ho,hyv,hv]
    have:=(q4i (P:=X.P) hu (x:=x) hy (v:=.iface t u) (.inr ⟨_,_,rfl⟩) w).2
    simp only[Sem.run_bind]at this ⊢
    rw[this]
    rfl
  ·exact h.elim
 ·exact h.elim
theorem y0r (hP:x4 X.P=true) {md:List (Nat × Nat)} {dst:Nat} {o:Oper} {ρa:Operand→V} {K:V→S→Prop} (h:sl3 X md dst o ρa s K):
  ∃v s1,K v s1∧s1.A=s.A∧s1.env=s.env∧∀(Γ:G) (w:World) (a:Act),z8 Γ w s→(∀y∈o.op.operands,q9 Γ (ρa y) (a.eval y))→w4 X.P o a w (u2 Γ w s1 v):=by
 unfold sl3 at h
 split at h
 ·rename_i T x lo hi mx ho
  obtain⟨_,hn,hhs,hms,h⟩:=h
  split at h
  ·rename_i eb e ht
   obtain⟨E,hu,rfl,_,hE⟩:=F3 hP ht
   split at h
   ·rename_i eb' e' cs hx
    obtain⟨rfl,rfl,h⟩:=h
    split at h
    ·rename_i l hh m hl hhi hm
     obtain⟨rfl,h0,rfl,h2,hK⟩:=h
     refine⟨_,_,hK,rfl,rfl,fun Γ w a c hr=>?_⟩
     rw[ho]at hr
     have r1:=hr x (by simp[Op.operands])
     have r2:∀y,lo=some y→q9 Γ (ρa y) (a.eval y):=fun y e=>hr y (by subst e;simp[Op.operands])
     have r3:∀y,hi=some y→q9 Γ (ρa y) (a.eval y):=fun y e=>hr y (by subst e;simp[Op.operands])
     have r4:∀y,mx=some y→q9 Γ (ρa y) (a.eval y):=fun y e=>hr y (by subst e;simp[Op.operands])
     obtain⟨ad,n,cap,hv,hcs,hnc,hcap,hb,hrep⟩:=q0J r1 hx
     have hhn:hh.toNat≤n:=by omega
     have b1:lo.map a.eval=none∧(0:Nat)=0∨∃k,lo.map a.eval=some (.int k ((0:Nat):Int)):=by
      rcases q1L hl r2 with⟨rfl,_⟩|⟨k,y,rfl,hy⟩
      ·exact .inl ⟨rfl,rfl⟩
      ·exact .inr ⟨k,hy⟩
     have b2:∃k,hi.map a.eval=some (.int k (hh.toNat:Int)):=by
      rcases q1L hhi r3 with⟨rfl,_⟩|⟨k,y,rfl,hy⟩
      ·cases hhs
      ·exact⟨k,by rw[hy,Int.toNat_of_nonneg h0]⟩
     have b3:∃k,mx.map a.eval=some (.int k (hh.toNat:Int)):=by
      rcases q1L hm r4 with⟨rfl,_⟩|⟨k,y,rfl,hy⟩
      ·cases hms
      ·exact⟨k,by rw[hy,Int.toNat_of_nonneg h0]⟩
     obtain⟨km,b3⟩:=b3
     obtain⟨c1,p1,g1⟩:=c.Z9 hn (x:=none) (L:=(cs.take hh.toNat).length) (fun _ _ _ h=>by cases h)
     have hlen:(cs.take hh.toNat).length=hh.toNat:=by simp;omega
     have hcut:=z03 hrep (Nat.zero_le hh.toNat) hhn
     have hrep':z7 Γ.H (.slice eb' (tyF X.P 11 E)) [.slice (if hh.toNat=0 then ad else ad.map (·.add (0*(tyF X.P 11 E).size))) hh.toNat hh.toNat] (.slice (cs.take hh.toNat)):=by
      obtain⟨a',n',cap',e1,_,e2,e3,e4,e5,e6⟩:=W3 hrep
      simp at e1
      obtain⟨rfl,rfl,rfl⟩:=e1
      simp only[C.elems]at e2 e6
      refine v7 hlen (Nat.le_refl _) (by omega) (Nat.le_trans (Nat.mul_le_mul_right _ hhn) hb) ?_
      by_cases hz:hh.toNat=0
      ·exact .inl hz
      ·rcases e6 with e6|⟨b,off,ll,rfl,hb',hs',hc⟩
       ·omega
       ·refine .inr ⟨b,off,ll,?_,hb',?_,fun i c' hi=>?_⟩
        ·rw[if_neg hz]
         simp[Addr.add]
        ·have:hh.toNat*(tyF X.P 11 E).size≤n*(tyF X.P 11 E).size:=Nat.mul_le_mul_right _ hhn
         omega
        ·rw[List.getElem?_take]at hi
         split at hi
         ·exact hc _ _ hi
         ·cases hi
     refine w4.val (v:=.slice (if hh.toNat=0 then ad else ad.map (·.add (0*(tyF X.P 11 E).size))) hh.toNat hh.toNat) (w':=w) ?_ ⟨_,g1,p1,c1,(x9 rfl rfl).2 ⟨?_,rfl⟩⟩
     ·unfold execOp
      simp only[ho,hv,Instr.sliceAt,Sem.run_bind,run_underlying hu,Result.andThen_ok,Instr.slice,b3]
      rw[q5D (n:=n) (l:=0) (h:=hh.toNat) (m:=hh.toNat) b1 b2 (Nat.zero_le _) (Nat.le_refl _) (by omega)]
      simp[J9 (f:=11) hP (w:=w) hE]
     ·simp only[q8]
      refine⟨_,hh.toNat,hh.toNat,rfl,hrep'.mono p1.1,none,_,by simp[G.Z9,r9],Nat.le_refl _,fun _=>rfl⟩
    ·exact h.elim
   ·exact h.elim
  ·exact h.elim
 ·rename_i src dst' x ho
  obtain⟨_,hn,h⟩:=h
  split at h
  ·rename_i ys hys
   exact⟨_,_,h,rfl,rfl,fun Γ w a c hr=>y4T hP c ho hys (hr x (by rw[ho];simp[Op.operands])) hn⟩
  ·exact h.elim
 ·exact h.elim
end
end Go.E
namespace Go.E
open Go
def q9q {α:Type}:List (Key × α)→Key→Bool
 | [],_=>false
 |(j,_)::l,k=>decide (j=k)||q9q l k
def z1P {α:Type}:List (Key × α)→Key→α→List (Key × α)
 | [],_,_=>[]
 |(j,x)::l,k,y=>if j=k then(j,y)::l else(j,x)::z1P l k y
def z5Y {α:Type} (l:List (Key × α)) (k:Key) (y:α):List (Key × α):=bif q9q l k then z1P l k y else(k,y)::l
def q9p {α:Type}:List (Nat × α)→Nat→Bool
 | [],_=>false
 |(j,_)::l,k=>decide (j=k)||q9p l k
def q6j {α:Type}:List (Nat × α)→Nat→α→List (Nat × α)
 | [],_,_=>[]
 |(j,x)::l,k,y=>if j=k then(j,y)::l else(j,x)::q6j l k y
def z06 {α:Type} (l:List (Nat × α)) (k:Nat) (y:α):List (Nat × α):=bif q9p l k then q6j l k y else(k,y)::l
theorem z2a {α:Type}:∀(l:List (Key × α)) (k:Key) (y:α) (j:Key),q9q l k=true→z6 (z1P l k y) j=if k=j then some y else z6 l j
 | [],_,_,_,h=>by simp[q9q]at h
 |(i,x)::l,k,y,j,h=>by
  simp only[z1P]
  by_cases e:i=k
  ·subst e;simp only[if_true,z6];by_cases e2:i=j <;> simp[e2]
  ·rw[if_neg e]
   simp only[z6]
   have h':q9q l k=true:=by simpa[q9q,e]using h
   rw[z2a l k y j h']
   by_cases e2:i=j
   ·subst e2;simp[fun h:k=i=>e h.symm];intro h;exact absurd h.symm e
   ·simp[e2]
theorem y0C {α:Type} (l:List (Key × α)) (k:Key) (y:α) (j:Key):z6 (z5Y l k y) j=if k=j then some y else z6 l j:=by
 unfold z5Y
 cases h:q9q l k with
 |true=>exact z2a l k y j h
 |false=>rfl
theorem z33 {α:Type}:∀(l:List (Nat × α)) (k:Nat) (y:α) (j:Nat),q9p l k=true→look (q6j l k y) j=if k=j then some y else look l j
 | [],_,_,_,h=>by simp[q9p]at h
 |(i,x)::l,k,y,j,h=>by
  simp only[q6j]
  by_cases e:i=k
  ·subst e;simp only[if_true,look];by_cases e2:i=j <;> simp[e2]
  ·rw[if_neg e]
   simp only[look]
   have h':q9p l k=true:=by simpa[q9p,e]using h
   rw[z33 l k y j h']
   by_cases e2:i=j
   ·subst e2;simp;intro h;exact absurd h.symm e
   ·simp[e2]
theorem q5O {α:Type} (l:List (Nat × α)) (k:Nat) (y:α) (j:Nat):look (z06 l k y) j=if k=j then some y else look l j:=by
 unfold z06
 cases h:q9p l k with
 |true=>exact z33 l k y j h
 |false=>rfl
def S.put (s:S) (k:Key) (o:O):S:={s with loc:=z5Y s.loc k o}
def S.tok (s:S) (t:Nat) (L:Option Nat):S:={s with tk:=z06 s.tk t L}
def J1:List (Nat × List Nat)→S→S
 | [],s=>s
 |(t,_)::σ,s=>J1 σ (s.tok t none)
theorem Q8 (s:S) (k j:Key) (o:O):(s.put k o).obj j=if k=j then some o else s.obj j:=by
 simp only[S.put,S.obj,b6,y0C]
 by_cases h:k=j
 ·simp only[h,if_true]
 ·simp only[if_neg h]
theorem z1f (s:S) (t u:Nat) (L:Option Nat):(s.tok t L).live u=if t=u then L else s.live u:=by
 simp only[S.tok,S.live,F1,q5O]
 by_cases h:t=u
 ·subst h;simp only[if_true];cases L <;> rfl
 ·simp[h]
theorem q6v (s:S) (t u:Nat) (L:Option Nat):(s.tok t L).known u=(decide (t=u)||s.known u):=by
 simp only[S.tok,S.known,q5O]
 by_cases h:t=u
 ·subst h;simp
 ·simp[h]
theorem z6i:∀(σ:List (Nat × List Nat)) (s:S) (k:Key),(J1 σ s).obj k=s.obj k
 | [],_,_=>rfl
 |(t,_)::σ,s,k=>by simp only[J1,z6i σ];rfl
theorem z4b:∀(σ:List (Nat × List Nat)) (s:S) (u:Nat),(J1 σ s).live u=match look σ u with|some _=>none|none=>s.live u
 | [],_,_=>rfl
 |(t,p)::σ,s,u=>by
  simp only[J1,z4b σ,z1f,look]
  by_cases h:t=u
  ·subst h;simp;cases look σ t <;> rfl
  ·simp[h]
theorem q7V:∀(σ:List (Nat × List Nat)) (s:S) (u:Nat),s.known u=true→(J1 σ s).known u=true
 | [],_,_,h=>h
 |(t,p)::σ,s,u,h=>by
  simp only[J1]
  exact q7V σ _ u (by rw[q6v,h];simp)
theorem z0J:∀(σ:List (Nat × List Nat)) (s:S) (u:Nat),look σ u≠none→(J1 σ s).known u=true
 | [],_,_,h=>by simp[look]at h
 |(t,p)::σ,s,u,h=>by
  simp only[J1]
  by_cases e:t=u
  ·subst e;exact q7V σ _ t (by rw[q6v];simp)
  ·exact z0J σ _ u (by simpa[look,e]using h)
def q2A (d:Nat):List (Key × O)→S→S
 | [],s=>s
 |(k,o)::L,s=>(q2A d L s).put (dn d k) (o.ren (dn d))
def q3m (d:Nat):List (Nat × Option Nat)→S→S
 | [],s=>s
 |(m,x)::l,s=>(q3m d l s).tok (rk d m) x
def q2Y:List Nat→S→S
 | [],s=>s
 |t::l,s=>(q2Y l s).tok t none
theorem z6g (d:Nat):∀(L:List (Key × O)) (s:S) (k:Key),(q2A d L s).obj k=match z6 (dnL d L) k with|some o=>some o|none=>s.obj k
 | [],_,_=>rfl
 |(j,o)::L,s,k=>by
  simp only[q2A,Q8,dnL,z6,z6g d L s k]
  split <;> rfl
theorem z8a (d:Nat):∀(L:List (Key × O)) (s:S),(q2A d L s).tk=s.tk
 | [],_=>rfl
 |(j,o)::L,s=>by simp only[q2A,S.put,z8a d L s]
theorem z34 (d:Nat):∀(l:List (Nat × Option Nat)) (s:S) (t:Nat),look (q3m d l s).tk t=match look (dnT d l) t with|some x=>some x|none=>look s.tk t
 | [],_,_=>rfl
 |(m,x)::l,s,t=>by
  simp only[q3m,S.tok,q5O,dnT,look,z34 d l s t]
  split <;> rfl
theorem z1c (d:Nat):∀(l:List (Nat × Option Nat)) (s:S),(q3m d l s).loc=s.loc∧(q3m d l s).A=s.A
 | [],_=>⟨rfl,rfl⟩
 |(m,x)::l,s=>by simp only[q3m,S.tok];exact z1c d l s
theorem z35:∀(l:List Nat) (s:S) (t:Nat),look (q2Y l s).tk t=match look (q2y l) t with|some x=>some x|none=>look s.tk t
 | [],_,_=>rfl
 |m::l,s,t=>by
  simp only[q2Y,S.tok,q5O,q2y,look,z35 l s t]
  split <;> rfl
theorem z1d:∀(l:List Nat) (s:S),(q2Y l s).loc=s.loc∧(q2Y l s).A=s.A
 | [],_=>⟨rfl,rfl⟩
 |m::l,s=>by simp only[q2Y,S.tok];exact z1d l s
def S.ret (s:S) (tip:Bool) (ys:List V) (d:Nat) (v:V) (L:List (Key × O)):S:=q3m d (v.tkR 2000) (q2Y (c7 tip s ys) (q2A d L s))
theorem z8f (s:S) (tip:Bool) (ys:List V) (d:Nat) (v:V) (L:List (Key × O)) (k:Key):(s.ret tip ys d v L).obj k=(s.back tip ys d v L).obj k:=by
 have h1:=z1c d (v.tkR 2000) (q2Y (c7 tip s ys) (q2A d L s))
 have h2:=z1d (c7 tip s ys) (q2A d L s)
 have h3:=z6g d L s k
 unfold S.obj at h3 ⊢
 simp only[S.ret,h1.1,h1.2,h2.1,h2.2,h3]
 unfold b6 S.back
 simp only[H2]
 cases z6 (dnL d L) k <;> rfl
theorem y0t (s:S) (tip:Bool) (ys:List V) (d:Nat) (v:V) (L:List (Key × O)) (t:Nat):look (s.ret tip ys d v L).tk t=look (s.back tip ys d v L).tk t:=by
 simp only[S.ret,z34,z35,z8a,S.back,q0P]
 cases look (dnT d (v.tkR 2000)) t <;> cases look (q2y (c7 tip s ys)) t <;> rfl
def gOk (s:S) (d:Nat):List (Key × O)→Prop
 | []=>True
 |(.g k,_)::L=>(s.obj k).isSome=true∧gOk s d L
 |(.l j,_)::L=>s.obj (.l (rk d j))=none∧gOk s d L
def tOk (s:S) (d:Nat):List (Nat × Option Nat)→Prop
 | []=>True
 |(m,_)::l=>s.known (rk d m)=false∧tOk s d l
theorem z9D {s:S} {d:Nat}:∀{L:List (Key × O)} {k:Key} {o:O},gOk s d L→z6 L (.g k)=some o→s.obj k≠none
 | [],_,_,_,h=>by simp[z6]at h
 |(.g j,o')::L,k,o,hg,h=>by
  simp only[z6]at h
  split at h
  ·rename_i e;cases e;have:=hg.1;intro h';rw[h']at this;cases this
  ·exact z9D hg.2 h
 |(.l j,o')::L,k,o,hg,h=>by simp[z6]at h;exact z9D hg.2 h
theorem z9C {s:S} {d:Nat}:∀{L:List (Key × O)} {j:Nat} {o:O},gOk s d L→z6 L (.l j)=some o→s.obj (.l (rk d j))=none
 | [],_,_,_,h=>by simp[z6]at h
 |(.l i,o')::L,j,o,hg,h=>by
  simp only[z6]at h
  split at h
  ·rename_i e;cases e;exact hg.1
  ·exact z9C hg.2 h
 |(.g i,o')::L,j,o,hg,h=>by simp[z6]at h;exact z9C hg.2 h
theorem y21 {s:S} {d:Nat}:∀{l:List (Nat × Option Nat)} {m:Nat} {x:Option Nat},tOk s d l→look l m=some x→s.known (rk d m)=false
 | [],_,_,_,h=>by simp[look]at h
 |(i,y)::l,m,x,hg,h=>by
  simp only[look]at h
  split at h
  ·rename_i e;subst e;exact hg.1
  ·exact y21 hg.2 h
def top (X:Cx) (md:List (Nat × Nat)) (dst:Nat) (o:Oper) (ρ:Operand→V) (s:S) (K:V→S→Prop):Prop:=
 match o.op with
 | .store T p y=>(match ρ p with
   | .ptr k q τ=>(match s.obj k with
     |some (.box x)=>τ=ty X.P T∧τ.known=true∧(Q6 τ (ρ y)).ty=τ∧(Q6 τ (ρ y)).plain=true∧x.at q≠.any∧x.ty.W6=true∧(Q6 τ (ρ y)).okH=true∧
       K .any (J1 ((Q6 τ (ρ y)).sites s.live q) (s.put k (.box (x.setAt q ((Q6 τ (ρ y)).o7 ((Q6 τ (ρ y)).sites s.live q) s.live q)))))
     |_=>False)
   |_=>False)
 | .box _ x=>(ρ x).plain=true∧(ρ x).okH=true∧s.obj (.l dst)=none∧
   K (.ptr (.l dst) [] (ρ x).ty) (J1 ((ρ x).sites s.live []) (s.put (.l dst) (.box ((ρ x).o7 ((ρ x).sites s.live []) s.live []))))
 | .load T x=>(match ρ x with
   | .ptr k q τ=>(match s.obj k with
     |some (.box y)=>(match y.at q with
      | .ts eb e cs=>r7 md dst=1∧τ=ty X.P T∧τ= .slice eb e∧y.ty.W6=true∧s.known dst=false∧K (.sl eb e cs dst) ((s.put k (.box (y.setAt q (.d (.slice eb e) (.slice cs))))).tok dst (some cs.length))
      |_=>False)
     |_=>False)
   |_=>False)
 | .mapUpdate T x i y=>(match q3X X.P T,ρ x with
   |some (kt,et),.mp k=>(match s.obj k with
     |some (.map kτ vτ es)=>kτ=ty X.P kt∧vτ=ty X.P et∧q0a X.P kt=true∧kτ.flat=true∧(ρ i).Z4 kτ∧(Q6 vτ (ρ y).k9).ty=vτ∧(Q6 vτ (ρ y).k9).plain=true∧(Q6 vτ (ρ y).k9).v8=true∧
       K .any (s.put k (.map kτ vτ (q0O es (ρ i).toC (Q6 vτ (ρ y).k9))))
     |_=>False)
   |_,_=>False)
 | .call c=>(match c.callee with
   | .value fo=>(match ρ fo with
     | .fn f caps=>q0R X.P f=true∧c.argTypes.toList.length=c.args.toList.length∧q0o (c7 (r7 md dst==1) s (Z1 (c.args.toList.map ρ) caps))=true∧
      ∃v L,Q3 X f (b8 X.P (r7 md dst==1) s (q3D c.argTypes.toList caps) (Z1 (c.args.toList.map ρ) caps)) s.up v L∧gOk s dst L∧tOk s dst (v.tkR 2000)∧
       K ((v.X7 2000).ren (dn dst) (rk dst)) (s.ret (r7 md dst==1) (Z1 (c.args.toList.map ρ) caps) dst v L)
     |_=>False)
   | .builtin .append=>(match c.args.toList,c.argTypes.toList with
     | [x,y],[t,t']=>Q9 X.P (y7 X.P t)=true∧(match ty X.P t,ρ x with
       | .slice eb e,.sl eb' e' cs tk=>eb'=eb∧e'=e∧s.live tk=some cs.length∧
         q4W X.P s t' eb e (ρ y) fun ys=>(cs.length+ys.length)*eb≤140737488355328∧cs.length+ys.length≤maxLen∧K (.sl eb e (cs++ys) tk) (s.tok tk (some (cs.length+ys.length)))
       | .slice eb e,.sr k [] 0 n none eb' e'=>(match s.obj k with
         |some (.box (.d (.arr M e2) cc))=>eb'=eb∧e'=e∧e2=e∧∃d,s.obj (.l d)=none∧
           q4W X.P s t' eb e (ρ y) fun ys=>(n+ys.length)*eb≤140737488355328∧n+ys.length≤maxLen∧
            K (.sr (.l d) [] 0 (n+ys.length) none eb e) ((s.put k (.dead (.arr M e))).put (.l d) (.box (.d (.arr (n+ys.length) e) (.agg (cc.elems.take n++ys)))))
         |_=>False)
       |_,_=>False)
     |_,_=>False)
   | .builtin .copy=>(match c.args.toList,c.argTypes.toList with
     | [x,y],[t,t']=>Q9 X.P (y7 X.P t)=true∧(match ty X.P t,ρ x with
       | .slice eb e,.sr k q lo n (some _) eb' e'=>(match s.obj k with
         |some (.box Z)=>(match Z.at q with
          | .d (.arr m e2) cc=>eb'=eb∧e'=e∧e2=e∧Z.ty.W6=true∧0<n∧
            q4W X.P s t' eb e (ρ y) fun ys=>K (.d (.int .i64) (.int (min ys.length n:Nat))) (s.put k (.box (Z.setAt q (.d (.arr m e) (.agg (q3C cc.elems lo n ys))))))
          |_=>False)
         |_=>False)
       |_,_=>False)
     |_,_=>False)
   |_=>False)
 |_=>False
def y3i (X:Cx) (o:Oper) (ρ:Operand→V) (s:S) (v:V) (s1:S):Prop:=
 s1.A=s.A∧s1.env=s.env∧∀(Γ:G) (w:World) (a:Act),Γ.gl=X.gl→z8 Γ w s→(∀y∈o.op.operands,q9 Γ (ρ y) (a.eval y))→w4 X.P o a w (u2 Γ w s1 v)
section
variable {X:Cx} {Γ:G} {w:World} {s:S}
theorem u2.congr {s1 s2:S} {x:V} {v:Value} {w':World} (h:u2 Γ w s1 x v w') (h1:∀k,s2.obj k=s1.obj k) (h2:∀t,s2.live t=s1.live t) (h3:∀t,s1.known t=true→s2.known t=true):u2 Γ w s2 x v w':=by
 obtain⟨Γ',a,b,c,d⟩:=h
 exact⟨Γ',a,b,c.congr h1 h2 h3,d⟩
theorem q5X:∀(σ:List (Nat × List Nat)) (s:S),(J1 σ s).env=s.env∧(J1 σ s).A=s.A
 | [],_=>⟨rfl,rfl⟩
 |(t,_)::σ,s=>by simp only[J1];exact q5X σ _
theorem z1o (d:Nat):∀(L:List (Key × O)) (s:S),(q2A d L s).env=s.env∧(q2A d L s).A=s.A
 | [],_=>⟨rfl,rfl⟩
 |_::L,s=>by simp only[q2A,S.put];exact z1o d L s
theorem z6X (d:Nat):∀(l:List (Nat × Option Nat)) (s:S),(q3m d l s).env=s.env
 | [],_=>rfl
 |_::l,s=>by simp only[q3m,S.tok];exact z6X d l s
theorem z6Y:∀(l:List Nat) (s:S),(q2Y l s).env=s.env
 | [],_=>rfl
 |_::l,s=>by simp only[q2Y,S.tok];exact z6Y l s
theorem z8g (tip:Bool) (ys:List V) (d:Nat) (v:V) (L:List (Key × O)):(s.ret tip ys d v L).env=s.env∧(s.ret tip ys d v L).A=s.A:=by
 unfold S.ret
 exact⟨by rw[z6X,z6Y,(z1o d L s).1],by rw[(z1c _ _ _).2,(z1d _ _).2,(z1o d L s).2]⟩
theorem q9j {s s':S} (h:∀t,look s.tk t=look s'.tk t) (t:Nat):s.live t=s'.live t:=by unfold S.live F1;rw[h]
theorem q8x {s s':S} (h:∀t,look s.tk t=look s'.tk t) (t:Nat):s.known t=s'.known t:=by unfold S.known;rw[h]
theorem z2g {σ:List (Nat × List Nat)} {k:Key} {o:O} {x:V} {v:Value} {w':World} (h:u2 Γ w {s with loc:=(k,o)::s.loc,tk:=q3B σ++s.tk} x v w'):u2 Γ w (J1 σ (s.put k o)) x v w':=by
 refine h.congr (fun j=>?_) (fun t=>?_) (fun t ht=>?_)
 ·rw[z6i,Q8]
  exact(u3 {s with tk:=q3B σ++s.tk} k j o).symm
 ·rw[z4b]
  unfold S.live F1
  simp only[q4q]
  cases look σ t <;> rfl
 ·unfold S.known at ht
  simp only[q4q]at ht
  cases hs:look σ t with
  |none=>rw[hs]at ht;exact q7V σ _ t ht
  |some p=>exact z0J σ _ t (by rw[hs];simp)
theorem q6c (hP:x4 X.P=true) {md:List (Nat × Nat)} {dst:Nat} {o:Oper} {ρ:Operand→V} {K:V→S→Prop} (h:top X md dst o ρ s K):∃v s1,K v s1∧y3i X o ρ s v s1:=by
 unfold top at h
 split at h
 ·rename_i T p y ho
  split at h
  ·rename_i k q τ hp
   split at h
   ·rename_i x hobj
    obtain⟨h1,h2,h3,h4,h5,h6,h7,hK⟩:=h
    refine⟨_,_,hK,by rw[(q5X _ _).2];rfl,by rw[(q5X _ _).1];rfl,fun Γ w a _ c hr=>?_⟩
    have hpr:=hr p (by rw[ho];simp[Op.operands])
    rw[hp]at hpr
    have:=y1d (Y:=ρ y) hP c ho hpr (hr y (by rw[ho];simp[Op.operands])) hobj h1 h2 h3 h4 h5 h6 h7
    exact this.mono fun v w' hpost=>z2g hpost
   ·exact h.elim
  ·exact h.elim
 ·rename_i T x ho
  obtain⟨h1,h2,h3,hK⟩:=h
  refine⟨_,_,hK,by rw[(q5X _ _).2];rfl,by rw[(q5X _ _).1];rfl,fun Γ w a _ c hr=>?_⟩
  exact(y37 c ho h3 (hr x (by rw[ho];simp[Op.operands])) h1 h2).mono fun v w' hpost=>z2g hpost
 ·rename_i T x ho
  split at h
  ·rename_i k q τ hx
   split at h
   ·rename_i y hobj
    split at h
    ·rename_i eb e cs hat
     obtain⟨_,h2,h3,h4,h5,hK⟩:=h
     refine⟨_,_,hK,rfl,rfl,fun Γ w a _ c hr=>?_⟩
     have hxr:=hr x (by rw[ho];simp[Op.operands])
     rw[hx]at hxr
     obtain⟨b,τ0,o0,hι,hw,hv⟩:=X5 hxr
     obtain⟨u,r1,r2⟩:=z1e (T:=T) hP c hxr hobj (by rw[hat];simp) h2 (by rw[h3];rfl)
     rw[hat]at r2
     simp only[view]at r2
     obtain⟨aa,n,cap,e1,_⟩:=q0J (eb:=eb) (e:=e) (cs:=cs) r2 (by simp[V.q1O,C.elems])
     subst e1
     rw[h3]at hw
     have hcell:w.cell? ⟨b,o0,none⟩=some (.slice aa n cap):=by
      have r1':=r1
      rw[hv]at r1'
      simp only[Instr.loadAt,Instr.sureAddr,Sem.run_bind,Sem.run_pure,Result.andThen_ok]at r1'
      obtain⟨b2,cells,E,e1,_,_,e4,e5,e6,e7,_⟩:=c.own hι hobj
      obtain⟨fr0,e4,hfr0⟩:=e4
      rw[hι]at e1;cases e1
      obtain⟨g1,g2,g3⟩:=e6.at_ hw (by rw[hat];simp) e7
      have hcl:(chunk cells.toList 0 y.ty.size).length=y.ty.size:=u9 _ _ _ (by simpa using e5)
      rw[hcl]at g2
      simp only[Ty.size]at g2
      obtain⟨u',q1,q2,q3⟩:=q4j (T:=T) (E:=E) (fr:=fr0) (off:=o0) hP (h2.symm.trans h3) rfl e4 (by simp only[Ty.size];omega) (by
       have:=g3.one (by rw[hat];rfl)
       simp only[Ty.size]at this ⊢
       rwa [o5 _ _ _ _ _ (by omega),Nat.zero_add]at this)
      rw[r1']at q1
      cases q1
      simp only[Value.cells,Ty.size]at q2
      have:(chunk cells.toList o0 1)[0]? =some (.slice aa n cap):=by rw[←q2];rfl
      rw[w5]at this
      simp at this
      simp[World.cell?,e4,this]
     obtain⟨Γ',t1,t2,t3,t4⟩:=c.take (t:=dst) hobj hat h4 h5 hι hw hcell
     refine w4.val (v:=.slice aa n cap) (w':=w) (by unfold execOp;simp[ho,r1]) ⟨Γ',t1,t2,t3.congr (fun j=>?_) (fun t=>?_) (fun t ht=>?_),t4⟩
     ·refine(Q8 s k j _).trans ?_
      exact(u3 {s with tk:=(dst,some cs.length)::s.tk} k j _).symm
     ·refine(z1f _ dst t _).trans ?_
      exact(q17 {s with loc:=(k,.box (y.setAt q (.d (.slice eb e) (.slice cs))))::s.loc} dst t (some cs.length)).symm
     ·rw[q6v]
      exact(q1n {s with loc:=(k,.box (y.setAt q (.d (.slice eb e) (.slice cs))))::s.loc} dst t (some cs.length)).symm.trans ht
    ·exact h.elim
   ·exact h.elim
  ·exact h.elim
 ·rename_i T x i y ho
  split at h
  ·rename_i kt et k hT hx
   split at h
   ·rename_i kτ vτ es hobj
    obtain⟨rfl,rfl,h1,h2,h3,h4,h5,h6,hK⟩:=h
    refine⟨_,_,hK,rfl,rfl,fun Γ w a _ c hr=>?_⟩
    have hxr:=hr x (by rw[ho];simp[Op.operands])
    rw[hx]at hxr
    have hir:=hr i (by rw[ho];simp[Op.operands])
    have hd:ρ i= .d (ty X.P kt) (ρ i).toC:=by
     cases hi:ρ i <;> simp[hi,V.Z4]at h3
     subst h3;rfl
    rw[hd]at hir
    exact(z67 hP c ho hT hxr hir (z1r (hr y (by rw[ho];simp[Op.operands])).k9) hobj h1 h2 h4 h5 h6).mono fun v w' hpost=>hpost.congr (fun j=>(Q8 s k j _).trans (u3 s k j _).symm) (fun _=>rfl) (fun _ h=>h)
   ·exact h.elim
  ·exact h.elim
 ·rename_i cl ho
  obtain⟨callee,args,ts⟩:=cl
  split at h
  ·rename_i fo hfo
   simp only at hfo h
   subst hfo
   split at h
   ·rename_i f caps hf
    obtain⟨h1,h2,h3,v,L,D,hg,ht,hK⟩:=h
    refine⟨_,_,hK,(z8g ..).2,(z8g ..).1,fun Γ w a hgl c hr=>?_⟩
    have hrf:=hr fo (by rw[ho];simp[Op.operands,Call.operands])
    rw[hf]at hrf
    have:=z8D (A:=s.up) (d:=dst) rfl hgl c ho h1 h2 hrf (fun y hy=>hr y (by rw[ho];simp only[Op.operands,Call.operands];exact Array.mem_append_right _ (Array.mem_toList_iff.1 hy))) h3 D (fun _ _ h=>h)
     (fun k o hk=>z9D hg hk) (fun j o hj=>z9C hg hj) (fun m x hm=>y21 ht hm)
    exact this.mono fun v' w' hpost=>hpost.congr (fun k=>z8f ..) (fun t=>q9j (fun t=>y0t ..) t) (fun t hk=>by rw[q8x (fun t=>y0t ..)];exact hk)
   ·exact h.elim
  ·rename_i hb
   simp only at hb h
   subst hb
   split at h
   ·rename_i x y t t' hargs hts
    have hargs':args=#[x,y]:=by cases args;simpa using hargs
    have hts':ts=#[t,t']:=by cases ts;simpa using hts
    subst hargs';subst hts'
    obtain⟨h1,h⟩:=h
    split at h
    ·rename_i eb e eb' e' cs tk htt hx
     obtain⟨rfl,rfl,hl,h⟩:=h
     obtain⟨ys,⟨b1,b2,hK⟩,hs⟩:=q4E hP h
     refine⟨_,_,hK,rfl,rfl,fun Γ w a _ c hr=>?_⟩
     have hyr:=hr y (by rw[ho];simp[Op.operands,Call.operands])
     have hxr:=hr x (by rw[ho];simp[Op.operands,Call.operands])
     rw[hx]at hxr
     exact(z4Y hP c ho htt h1 hl hxr hyr hs b1 b2).mono fun v w' hpost=>hpost.congr (fun _=>rfl) (fun u=>(z1f s tk u _).trans (q17 s tk u _).symm) (fun u hu=>by rw[q6v];exact(q1n s tk u _).symm.trans hu)
    ·rename_i eb e k n eb' e' htt hx
     split at h
     ·rename_i M e2 cc hobj
      obtain⟨rfl,rfl,rfl,d,hd,h⟩:=h
      obtain⟨ys,⟨b1,b2,hK⟩,hs⟩:=q4E hP h
      refine⟨_,_,hK,rfl,rfl,fun Γ w a _ c hr=>?_⟩
      have hyr:=hr y (by rw[ho];simp[Op.operands,Call.operands])
      have hxr:=hr x (by rw[ho];simp[Op.operands,Call.operands])
      rw[hx]at hxr
      exact(z4X hP c ho htt h1 hd hobj hxr hyr hs b1 b2).mono fun v w' hpost=>hpost.congr (fun j=>by rw[Q8,Q8];rw[show S.obj {s with loc:=(Key.l d,O.box (.d (.arr (n+ys.length) _) (.agg (cc.elems.take n++ys))))::(k,O.dead _)::s.loc} j=S.obj {({s with loc:=(k,O.dead _)::s.loc}:S)with loc:=(Key.l d,_)::({s with loc:=(k,O.dead _)::s.loc}:S).loc} j from rfl,u3,u3]) (fun u=>rfl) (fun u hu=>hu)
     ·exact h.elim
    ·exact h.elim
   ·exact h.elim
  ·rename_i hb
   simp only at hb h
   subst hb
   split at h
   ·rename_i x y t t' hargs hts
    have hargs':args=#[x,y]:=by cases args;simpa using hargs
    have hts':ts=#[t,t']:=by cases ts;simpa using hts
    subst hargs';subst hts'
    obtain⟨h1,h⟩:=h
    split at h
    ·rename_i eb e k q lo n cp eb' e' htt hx
     split at h
     ·rename_i Z hobj
      split at h
      ·rename_i m e2 cc hZ
       obtain⟨rfl,rfl,rfl,hd,h0,h⟩:=h
       obtain⟨ys,hK,hs⟩:=q4E hP h
       refine⟨_,_,hK,rfl,rfl,fun Γ w a _ c hr=>?_⟩
       have hyr:=hr y (by rw[ho];simp[Op.operands,Call.operands])
       have hxr:=hr x (by rw[ho];simp[Op.operands,Call.operands])
       rw[hx]at hxr
       exact(y35 hP c ho htt hobj hZ hd h0 h1 hxr hyr hs).mono fun v w' hpost=>hpost.congr (fun j=>by rw[Q8,u3]) (fun u=>rfl) (fun u hu=>hu)
      ·exact h.elim
     ·exact h.elim
    ·exact h.elim
   ·exact h.elim
  ·exact h.elim
 ·exact h.elim
end
end Go.E
namespace Go.E
open Go
def At (X:Cx) (n:Nat) (Γ0:G) (s:S) (a:Act) (w:World):Prop:=
 ∃Γ,GLe Γ0 Γ∧Γ.gl=X.gl∧z8 Γ w s∧q1t Γ s a.tmps∧a.tmps.size=n∧a.defers=[]∧AOk s.A
def S.set (s:S) (d:Option Nat) (x:V):S:=
 match d with
 |some d=>{s with env:=z06 s.env d x}
 |none=>s
def H7 (s:S):List (Key × O)→Prop
 | []=>True
 |(k,_)::l=>s.obj k=none∧H7 s l
def H6 (s:S):List (Nat × Option Nat)→Prop
 | []=>True
 |(t,_)::l=>s.known t=false∧H6 s l
theorem q73 {s:S} {lo:List (Key × O)} {tn:List (Nat × Option Nat)} (h:H7 s lo) (h':H6 s tn):z5r s lo tn:=by
 constructor
 ·induction lo with
  |nil=>intro k o hk;simp[z6]at hk
  |cons x lo ih=>
   intro k o hk
   simp only[z6]at hk
   split at hk
   ·rename_i e;rw[←e];exact h.1
   ·exact ih h.2 k o hk
 ·induction tn with
  |nil=>intro k o hk;simp[look]at hk
  |cons x tn ih=>
   intro k o hk
   simp only[look]at hk
   split at hk
   ·rename_i e;rw[←e];exact h'.1
   ·exact ih h'.2 k o hk
noncomputable def y4M (X:Cx) (dst:Nat) (o:Oper) (s:S) (K:V→S→Prop):Prop:=
  (iop X [] (U5 (q0p (o.op.operands.toList.map (y5 X.gl s))) s) dst o (fun y=>Y6 s (y5 X.gl s y)) (U5 (q0p (o.op.operands.toList.map (y5 X.gl s))) s)
   (fun v lo tn=>H7 (U5 (q0p (o.op.operands.toList.map (y5 X.gl s))) s) lo∧H6 (U5 (q0p (o.op.operands.toList.map (y5 X.gl s))) s) tn∧K v ((U5 (q0p (o.op.operands.toList.map (y5 X.gl s))) s).add lo tn))∨
  top X [] dst o (fun y=>Y6 s (y5 X.gl s y)) (U5 (q0p (o.op.operands.toList.map (y5 X.gl s))) s) K)
noncomputable def lop (X:Cx) (md:List (Nat × Nat)) (dst:Nat) (o:Oper) (s:S) (K:V→S→Prop):Prop:=r7 md dst=100∧y4M X dst o s K
theorem z18:∀{xs:List V} {x:V} {j:Nat},x∈xs→j∈q0U x→j∈q0p xs
 |y::ys,x,j,hx,hj=>by
  simp only[q0p,List.mem_append]
  rcases List.mem_cons.1 hx with rfl|hx
  ·exact .inl hj
  ·exact .inr (z18 hx hj)
theorem q4Q:∀(js:List Nat) (s:S),(U5 js s).env=s.env∧(U5 js s).A=s.A
 | [],s=>⟨rfl,rfl⟩
 |j::l,s=>by
  simp only[U5]
  have:=q4Q l (match s.obj (.l j)with
   |some (.box (.d τ _))=>(match τ with
    | .arr M e=>{s with loc:=(.l j,.dead (.arr M e))::s.loc}
    |_=>s)
   |_=>s)
  refine⟨this.1.trans ?_,this.2.trans ?_⟩ <;> (split <;> (try rfl);split <;> rfl)
noncomputable def sop (X:Cx) (md:List (Nat × Nat)) (dst:Nat) (o:Oper) (s:S) (K:V→S→Prop):Prop:=
 lop X md dst o s K∨(r7 md dst≠1∧iop X md s dst o (y5 X.gl s) s (fun v lo tn=>H7 s lo∧H6 s tn∧K v (s.add lo tn)))∨top X md dst o (y5 X.gl s) s K∨(fop X o (y5 X.gl s) fun v=>K v s)∨sl3 X md dst o (y5 X.gl s) s K
def q1p (ops:Array Oper) (j:Nat):Option Nat:=(ops[j]?).bind (·.dst)
def y6 (o:Oper):Nat:=o.dst.getD 0
def gk (b want:Bool) (p q:Prop):Prop:=(b=want→p)∧(b≠want→q)
def gv (ops:Array Oper) (s:S) (j:Nat):V:=match q1p ops j with
 |none=>.any
 |some t=>s.get t
def gx (x:V) (want:Bool) (p q:Prop):Prop:=match x with
 | .d .bool c=>gk c.toBool want p q
 | .tup []=>q
 |_=>False
noncomputable def vc (X:Cx) (md:List (Nat × Nat)) (ops:Array Oper) (Φ:S→Prop):List Oper→S→Prop
 | [],s=>Φ s
 |o::rest,s=>match o.guard with
  |none=>sop X md (y6 o) o s fun v s'=>vc X md ops Φ rest (s'.set o.dst v)
  |some (j,want)=>gx (gv ops s j) want (sop X md (y6 o) o s fun v s'=>vc X md ops Φ rest (s'.set o.dst v)) (vc X md ops Φ rest (s.set o.dst (.tup [])))
theorem z1Q {Γ:G}:q9 Γ (.tup []) undef:=⟨#[],rfl,by simp[y9]⟩
theorem q2w (s:S) (d:Option Nat) (v:V) (t:Nat):(s.set d v).get t=if d=some t then v else s.get t:=by
 cases d with
 |none=>simp[S.set]
 |some d=>
  simp only[S.set,S.get,q5O]
  by_cases h:d=t
  ·simp[h]
  ·have:¬(some d=some t):=by intro e;cases e;exact h rfl
   simp[h]
section
variable {X:Cx} {n:Nat} {Γ0:G}
theorem y0p {Γ:G} {s:S} {a:Act} {d:Option Nat} {x:V} {v:Value} (hs:q1t Γ s a.tmps) (hd:∀t,d=some t→t<a.tmps.size) (hx:q9 Γ x v):
  q1t Γ (s.set d x) (a.put d v).tmps:=by
 intro i
 rw[q2w]
 cases d with
 |none=>simpa[Act.put]using hs i
 |some t=>
  have:=hd t rfl
  by_cases h:t=i
  ·subst h
   simp only[Act.put,if_true]
   simp[this]
   exact hx
  ·have h':¬(some t=some i):=by intro e;cases e;exact h rfl
   rw[if_neg h']
   have:=hs i
   simpa[Act.put,Array.getElem?_setIfInBounds_ne h]using this
theorem q52 {Γ:G} {w:World} {s:S} (c:z8 Γ w s) (d:Option Nat) (x:V):z8 Γ w (s.set d x):=by
 cases d with
 |none=>exact c
 |some t=>exact c.env _
theorem q6y {Γ:G} {w:World} {s s':S} {a:Act} (hgl:Γ.gl=X.gl) (c:z8 Γ w s') (hs:∀t,q9 Γ (s.get t) (a.tmps.getD t undef)) {y:Operand} (hy:q6m y=true):q9 Γ (y5 X.gl s y) (a.eval y):=by
 cases y with
 |tmp t=>exact hs t
 |func f=>
  show q9 Γ (.fn f []) (.func (.func f) #[] #[])
  exact(y8 rfl).2 ⟨by simp[q8,y9,Value.cells],by simp[V.ty,Ty.isAgg,x8]⟩
 |global g=>
  simp only[y5]
  cases hg:X.gl g with
  |none=>simp[q9]
  |some x=>
   obtain⟨τ,cc⟩:=x
   obtain⟨l,h1,h2,h3⟩:=c.hgl g τ cc (by rw[hgl];exact hg)
   exact q0k h1 (by simpa using h2) h3
 |const v=>
  simp only[y5,Act.eval]
  unfold z7i
  simp only[q6m]at hy
  split
  ·simp[z3G]at hy;exact u6 hy.1 hy.2
  ·exact w6
  ·simp[z3G]at hy
   rename_i str
   exact W0 (l:=str.data.toList) (by simpa using hy)
  ·exact(y8 rfl).2 ⟨by simp[q8,z7,Value.cells],by simp[V.ty,Ty.isAgg,x8]⟩
  ·exact(y8 rfl).2 ⟨by simp[q8,Value.cells],by simp[V.ty,Ty.isAgg,x8]⟩
  ·exact(y8 rfl).2 ⟨by simp[q8,z7,Value.cells],by simp[V.ty,Ty.isAgg,x8]⟩
  ·exact(y8 rfl).2 ⟨by simp[q8,z7,Value.cells],by simp[V.ty,Ty.isAgg,x8]⟩
  ·exact(y8 rfl).2 ⟨by simp[q8,z7,Value.cells],by simp[V.ty,Ty.isAgg,x8]⟩
  ·simp[q9]
theorem q55 {s:S} {a:Act} {w:World} {d:Option Nat} {x:V} (hd:match d with|some d=>decide (d<n)=true|none=>True) {Γ:G} (h1:GLe Γ0 Γ) (h3:Γ.gl=X.gl) (c:z8 Γ w s) (hs:q1t Γ s a.tmps) (hn:a.tmps.size=n) (hf:a.defers=[]∧AOk s.A) {v:Value} (hx:q9 Γ x v):
  At X n Γ0 (s.set d x) (a.put d v) w:=by
 refine⟨Γ,h1,h3,q52 c d x,y0p hs (fun t ht=>?_) hx,?_,?_,?_⟩
 ·subst ht;simp at hd;omega
 ·cases d <;> simp[Act.put,hn]
 ·cases d <;> simp[Act.put,hf.1]
 ·cases d <;> exact hf.2
theorem q1b {Γ:G} {s s':S} {t:Array Value} (h:s'.env=s.env) (hs:q1t Γ s t):q1t Γ s' t:=fun i=>by
 have:=hs i
 simp only[S.get]at this ⊢
 rw[h];exact this
theorem y0o (hP:x4 X.P=true) {md:List (Nat × Nat)} {o:Oper} {s:S} {K:V→S→Prop} (hok:q4Z n o=true) (h:sop X md (y6 o) o s K) {a:Act} {w:World} (hat:At X n Γ0 s a w):
  w4 X.P o a w fun u w'=>∃v s',K v s'∧At X n Γ0 (s'.set o.dst v) (a.put o.dst u) w':=by
 obtain⟨Γ,g1,g3,c,hs,hn,hf⟩:=hat
 simp only[q4Z,Bool.and_eq_true,Array.all_eq_true']at hok
 have hd:match o.dst with|some d=>decide (d<n)=true|none=>True:=by
  cases ho:o.dst with
  |none=>trivial
  |some d=>have:=hok.2;rw[ho]at this;exact this
 have hops:∀y∈o.op.operands,q9 Γ (y5 X.gl s y) (a.eval y):=fun y hy=>q6y g3 c hs (hok.1 y hy)
 rcases h with⟨_,h⟩|⟨_,h⟩|h|h|h
 ·obtain⟨Γ1,gl1,p1,c1,hcv⟩:=q7R (q0p (o.op.operands.toList.map (y5 X.gl s))) s c
  have hops1:∀y∈o.op.operands,q9 Γ1 (Y6 s (y5 X.gl s y)) (a.eval y):=fun y hy=>
   hcv _ _ (hops y hy) fun j hj=>z18 (List.mem_map_of_mem (by simpa using hy)) hj
  have henv:=q4Q (q0p (o.op.operands.toList.map (y5 X.gl s))) s
  have hs1:q1t Γ1 (U5 (q0p (o.op.operands.toList.map (y5 X.gl s))) s) a.tmps:=q1b henv.1 (hs.o6 p1)
  have g31:Γ1.gl=X.gl:=gl1.gl.trans g3
  rcases h with h|h
  ·obtain⟨v,lo,tn,⟨hf1,hf2,hK⟩,hI⟩:=q2b hP h
   refine(hI Γ1 w a _ g31 c1 ⟨fun _ _ h _=>h,fun _ _ h=>h⟩ (q73 hf1 hf2) hops1).mono ?_
   rintro u w' ⟨Γ',gle,hp,c',hv⟩
   exact⟨_,_,hK,q55 hd ((g1.trans gl1).trans gle) (gle.gl.trans g31) c' (q1b (s:=U5 (q0p (o.op.operands.toList.map (y5 X.gl s))) s) rfl (hs1.o6 hp)) hn ⟨hf.1,by show AOk (U5 _ s).A;rw[henv.2];exact hf.2⟩ hv⟩
  ·obtain⟨v,s1,hK,hsA,he,hT⟩:=q6c hP h
   refine(hT Γ1 w a g31 c1 hops1).mono ?_
   rintro u w' ⟨Γ',gle,hp,c',hv⟩
   exact⟨_,_,hK,q55 hd ((g1.trans gl1).trans gle) (gle.gl.trans g31) c' (q1b he (hs1.o6 hp)) hn ⟨hf.1,by rw[hsA,henv.2];exact hf.2⟩ hv⟩
 ·obtain⟨v,lo,tn,⟨hf1,hf2,hK⟩,hI⟩:=q2b hP h
  refine(hI Γ w a s g3 c ⟨fun _ _ h _=>h,fun _ _ h=>h⟩ (q73 hf1 hf2) hops).mono ?_
  rintro u w' ⟨Γ',gle,hp,c',hv⟩
  exact⟨_,_,hK,q55 hd (g1.trans gle) (gle.gl.trans g3) c' (q1b rfl (hs.o6 hp)) hn hf hv⟩
 ·obtain⟨v,s1,hK,hsA,he,hT⟩:=q6c hP h
  refine(hT Γ w a g3 c hops).mono ?_
  rintro u w' ⟨Γ',gle,hp,c',hv⟩
  exact⟨_,_,hK,q55 hd (g1.trans gle) (gle.gl.trans g3) c' (q1b he (hs.o6 hp)) hn ⟨hf.1,by rw[hsA];exact hf.2⟩ hv⟩
 ·obtain⟨v,hK,hI⟩:=q9s hP h
  refine(hI Γ w a s c hops).mono ?_
  rintro u w' ⟨Γ',gle,hp,c',hv⟩
  exact⟨_,_,hK,q55 hd (g1.trans gle) (gle.gl.trans g3) c' (q1b rfl (hs.o6 hp)) hn hf hv⟩
 ·obtain⟨v,s1,hK,hsA,he,hT⟩:=y0r hP h
  refine(hT Γ w a c hops).mono ?_
  rintro u w' ⟨Γ',gle,hp,c',hv⟩
  exact⟨_,_,hK,q55 hd (g1.trans gle) (gle.gl.trans g3) c' (q1b he (hs.o6 hp)) hn ⟨hf.1,by rw[hsA];exact hf.2⟩ hv⟩
end
def DC (X:Cx) (n:Nat) (c:Code) (s:S) (Ψ:Exit→S→Prop):Prop:=
 ∀(Γ0:G) (a:Act) (w:World),At X n Γ0 s a w→c.wp X.P (fun e a w=>∃s',Ψ e s'∧At X n Γ0 s' a w) a w
def q0g (X:Cx) (n:Nat) (s s':S):Prop:=∀(Γ0:G) (a:Act) (w:World),At X n Γ0 s a w→At X n Γ0 s' a w
section
variable {X:Cx} {n:Nat} {s:S} {Ψ:Exit→S→Prop}
theorem z7V {Γ:G} {ops:Array Oper} {a:Act} {o:Oper} {j t:Nat} {want b:Bool} (hg:o.guard=some (j,want)) (ht:q1p ops j=some t)
  (hs:q9 Γ (.d .bool (.bool b)) (a.tmps.getD t undef)):Region.wanted o (yielded ops a.tmps)=(b==want):=by
 have e2:a.tmps.getD t undef= .bool b:=(Y1 hs).1
 have hsome:a.tmps[t]? =some (.bool b):=by
  rw[Array.getD_eq_getD_getElem?]at e2
  cases h:a.tmps[t]? with
  |none=>rw[h]at e2;simp[undef]at e2
  |some v=>rw[h]at e2;simp at e2;rw[e2]
 simp only[q1p]at ht
 simp[Region.wanted,hg,yielded,ht,hsome]
theorem z2k {Γ:G} {ops:Array Oper} {a:Act} {o:Oper} {j t:Nat} {want:Bool} {c:C} (hg:o.guard=some (j,want)) (ht:q1p ops j=some t)
  (hs:q9 Γ (.d .bool c) (a.tmps.getD t undef)):Region.wanted o (yielded ops a.tmps)=(c.toBool==want):=by
 obtain⟨_,e⟩:=Y1 hs
 rw[e]at hs
 exact z7V hg ht hs
theorem z0P {Γ:G} {ops:Array Oper} {a:Act} {o:Oper} {j t:Nat} {want:Bool} (hg:o.guard=some (j,want)) (ht:q1p ops j=some t)
  (hs:q9 Γ (.tup []) (a.tmps.getD t undef)):Region.wanted o (yielded ops a.tmps)=false:=by
 obtain⟨vs,e,_⟩:=hs
 have hnb:∀b,a.tmps[t]?≠some (.bool b):=by
  intro b h
  rw[Array.getD_eq_getD_getElem?,h]at e
  simp at e
 simp only[q1p]at ht
 simp only[Region.wanted,hg,yielded,ht,Option.bind_some]
 rfl
theorem z0X (hP:x4 X.P=true) {Γ0:G} {md:List (Nat × Nat)} {ops:Array Oper} {Φ:S→Prop} {Q:Exit→Act→World→Prop} (hQ:∀s a w,Φ s→At X n Γ0 s a w→Q .normal a w):
  ∀(rest:List Oper) (s:S) (a:Act) (w:World),(∀o∈rest,q4Z n o=true)→vc X md ops Φ rest s→At X n Γ0 s a w→wpList X.P ops Q rest a w
 | [],s,a,w,_,h,hat=>hQ s a w h hat
 |o::rest,s,a,w,hok,h,hat=>by
  have run:(sop X md (y6 o) o s fun v s'=>vc X md ops Φ rest (s'.set o.dst v))→o.wp X.P a w (wpList X.P ops Q rest) Q:=by
   intro h
   refine y0o hP (hok o (by simp)) h hat _ _ ?_
   rintro u w' ⟨v,s',hv,hat'⟩
   exact z0X hP hQ rest _ _ _ (fun o ho=>hok o (by simp[ho])) hv hat'
  have skip:vc X md ops Φ rest (s.set o.dst (.tup []))→wpList X.P ops Q rest (a.put o.dst undef) w:=by
   intro h
   obtain⟨Γ,g1,g3,c,hs,hn,hf⟩:=hat
   have hd:match o.dst with|some d=>decide (d<n)=true|none=>True:=by
    have:=hok o (by simp)
    simp only[q4Z,Bool.and_eq_true]at this
    cases ho:o.dst with
    |none=>trivial
    |some d=>have:=this.2;rw[ho]at this;exact this
   exact z0X hP hQ rest _ _ _ (fun o ho=>hok o (by simp[ho])) h (q55 hd g1 g3 c hs hn hf z1Q)
  simp only[vc]at h
  simp only[wpList]
  split at h
  ·rename_i hg
   have:Region.wanted o (yielded ops a.tmps)=true:=by simp[Region.wanted,hg]
   rw[if_pos this]
   exact .inl (run h)
  ·rename_i j want hg
   cases ht:q1p ops j with
   |none=>simp[gv,ht,gx]at h
   |some t=>
    simp only[gv,ht]at h
    unfold gx at h
    obtain⟨Γ,g1,g3,c,hs,hn,hf⟩:=id hat
    have hst:=hs t
    split at h
    ·rename_i cb hb
     rw[hb]at hst
     rw[z2k hg ht hst]
     by_cases hbw:cb.toBool=want
     ·rw[if_pos (by simp[hbw])]
      exact .inl (run (h.1 hbw))
     ·rw[if_neg (by simp[hbw])]
      exact skip (h.2 hbw)
    ·rename_i hb
     rw[hb]at hst
     rw[if_neg (by rw[z0P hg ht hst];simp)]
     exact skip h
    ·exact h.elim
theorem DC.mono {c:Code} {Ψ':Exit→S→Prop} (h:DC X n c s Ψ) (hq:∀e s,Ψ e s→Ψ' e s):DC X n c s Ψ':=
 fun Γ0 a w hat=>wp_mono (h Γ0 a w hat) fun e a w ⟨s',h1,h2⟩=>⟨s',hq _ _ h1,h2⟩
theorem DC.q8H {c:Code} {s':S} (hw:q0g X n s s') (h:DC X n c s' Ψ):DC X n c s Ψ:=
 fun Γ0 a w hat=>h Γ0 a w (hw Γ0 a w hat)
theorem q0g.refl (s:S):q0g X n s s:=fun _ _ _ h=>h
theorem q0g.trans {s s' s'':S} (h:q0g X n s s') (h':q0g X n s' s''):q0g X n s s'':=fun Γ0 a w hat=>h' Γ0 a w (h Γ0 a w hat)
theorem y1h (hP:x4 X.P=true) (md:List (Nat × Nat)) {id:Nat} {l:List Oper} (hok:l.all (q4Z n)=true) (h:vc X md l.toArray (fun s'=>Ψ .normal s') l s):DC X n (.region id l.toArray false) s Ψ:=by
 intro Γ0 a w hat
 refine wp_region_lit (z0X hP (fun s' a w hΨ hat=>⟨s',hΨ,hat⟩) l s a w (fun o ho=>List.all_eq_true.1 hok o ho) h hat)
theorem q51 {c c':Code} (h:DC X n c s fun e s'=>match e with| .normal=>DC X n c' s' Ψ|e=>Ψ e s'):DC X n (c.seq c') s Ψ:=by
 intro Γ0 a w hat
 refine wp_seq (wp_mono (h Γ0 a w hat) ?_)
 rintro e a w ⟨s',h1,h2⟩
 cases e with
 |normal=>exact h1 Γ0 a w h2
 |exit _|goto _|ret|panic _|outgrown=>exact⟨s',h1,h2⟩
theorem z8I (h:Ψ .normal s):DC X n .skip s Ψ:=fun _ _ _ hat=>wp_skip ⟨s,h,hat⟩
theorem z7d {l:Nat} (h:Ψ .normal s):DC X n (.label l) s Ψ:=fun _ _ _ hat=>wp_label ⟨s,h,hat⟩
theorem y4V (h:Ψ .ret s):DC X n .ret s Ψ:=fun _ _ _ hat=>wp_ret ⟨s,h,hat⟩
theorem y4a {id:Nat} (h:Ψ (.exit id) s):DC X n (.exit id) s Ψ:=fun _ _ _ hat=>wp_exit ⟨s,h,hat⟩
theorem y39 {id:Nat} (h:Ψ (.goto id) s):DC X n (.goto id) s Ψ:=fun _ _ _ hat=>wp_goto ⟨s,h,hat⟩
theorem q8a {id:Nat} {c:Code} (h:DC X n c s fun e s'=>match e with| .exit id'=>if id'=id then Ψ .normal s' else Ψ (.exit id') s'|e=>Ψ e s'):DC X n (.block id c) s Ψ:=by
 intro Γ0 a w hat
 refine wp_block (wp_mono (h Γ0 a w hat) ?_)
 rintro e a w ⟨s',h1,h2⟩
 cases e with
 |exit id'=>
  simp only[Exit.inBlock]at h1 ⊢
  split
  ·rename_i hid;rw[if_pos hid]at h1;exact⟨s',h1,h2⟩
  ·rename_i hid;rw[if_neg hid]at h1;exact⟨s',h1,h2⟩
 |normal|goto _|ret|panic _|outgrown=>exact⟨s',h1,h2⟩
theorem z7e {t:Nat} {c c':Code} {v:C} (hv:s.get t= .d .bool v) (h1:v.toBool=true→DC X n c s Ψ) (h2:v.toBool=false→DC X n c' s Ψ):DC X n (.cond (.tmp t) c c') s Ψ:=by
 intro Γ0 a w hat
 have he:a.eval (.tmp t)= .bool v.toBool:=by
  obtain⟨Γ,g1,g3,c,hs,hn,hf⟩:=hat
  have:=hs t
  rw[hv]at this
  exact(Y1 this).1
 refine wp_cond (t:=v.toBool) he ?_
 cases hb:v.toBool with
 |true=>exact h1 hb Γ0 a w hat
 |false=>exact h2 hb Γ0 a w hat
end
end Go.E
namespace Go.E
open Go
mutual
def V.u1 (x:V):V→Prop
 | .d τ c=>(match x with
  | .nilc=>(∃eb e,τ= .slice eb e)∧c= .slice []
  |x=>s9 x=some c∧x.ty=τ)
 | .emp eb e=>x= .emp eb e∨x= .nilc
 | .agg τ ws=>(match x with
  | .agg τ' vs=>τ'=τ∧V.q0W vs ws
  |x=>x= .agg τ ws)
 | .any=>True
 |y=>x=y
def V.q0W:List V→List V→Prop
 | [],[]=>True
 |x::xs,y::ys=>V.u1 x y∧y.ty=x.ty∧V.q0W xs ys
 |_,_=>False
end
def O.u1:O→O→Prop
 | .box x,.box y=>V.u1 x y∧y.ty=x.ty∧y.plain=true∧y.v8=true
 | .map kτ vτ es,.map kτ' vτ' es'=>kτ=kτ'∧vτ=vτ'∧es=es'
 | .it l p,.it l' p'=>l=l'∧p=p'
 |o,.dead τ=>τ=o.ty
 |_,_=>False
def W5 (tk:List (Nat × Option Nat)) (t:Nat):Bool:=(look tk t).isSome
def c9 (L:List (Key × O)) (n:Nat):Bool:=(z6 L (.l n)).isSome
section
variable {Γ:G}
theorem V.q9m:∀{xs ys:List V},V.q0W xs ys→xs.length=ys.length
 | [],[],_=>rfl
 |x::xs,y::ys,h=>by simp only[V.q0W]at h;simp[V.q9m h.2.2]
 | [],_::_,h=>by simp[V.q0W]at h
 |_::_,[],h=>by simp[V.q0W]at h
mutual
theorem q8.u1 {hm:Option Key}:∀(y x:V) {p:List Nat} {vs:List Value},V.u1 x y→q8 Γ hm p x vs→q8 Γ hm p y vs∧(y≠.any→y.ty.isAgg=x.ty.isAgg∧(x≠.nilc→y.ty=x.ty))
 | .d τ c,x,p,vs,h,hr=>by
  cases x
  case nilc=>
   simp only[V.u1]at h
   obtain⟨⟨eb,e,rfl⟩,rfl⟩:=h
   simp only[q8]at hr ⊢
   subst hr
   exact⟨v7 rfl (Nat.le_refl _) (Nat.zero_le _) (by rw[Nat.zero_mul];exact Nat.zero_le _) (.inl rfl),fun _=>⟨rfl,fun h=>absurd rfl h⟩⟩
  all_goals
   simp only[V.u1]at h
   obtain⟨h1,h2⟩:=h
   have:=q0M _ hr h1
   rw[h2]at this
   exact⟨by simpa only[q8]using this,fun _=>⟨by simp only[V.ty]at h2 ⊢;rw[h2],fun _=>by simp only[V.ty]at h2 ⊢;rw[h2]⟩⟩
 | .emp eb e,x,p,vs,h,hr=>by
  simp only[V.u1]at h
  rcases h with rfl|rfl
  ·exact⟨hr,fun _=>⟨rfl,fun _=>rfl⟩⟩
  ·simp only[q8]at hr ⊢
   subst hr
   exact⟨⟨none,rfl⟩,fun _=>⟨rfl,fun h=>absurd rfl h⟩⟩
 | .agg τ ws,x,p,vs,h,hr=>by
  cases x
  case agg τ' us=>
   simp only[V.u1]at h
   obtain⟨rfl,h⟩:=h
   simp only[q8]at hr ⊢
   obtain⟨r1,r2,r3,r4,r5⟩:=hr
   exact⟨⟨r1,r2,by rw[←V.q9m h];exact r3,r4,y4.u1 ws us h r5⟩,fun _=>⟨rfl,fun _=>rfl⟩⟩
  all_goals (simp only[V.u1]at h;cases h)
 | .any,x,p,vs,_,_=>⟨by simp only[q8],fun h=>absurd rfl h⟩
 | .sl eb e cs t,x,p,vs,h,hr=>by simp only[V.u1]at h;subst h;exact⟨hr,fun _=>⟨rfl,fun _=>rfl⟩⟩
 | .ts eb e cs,x,p,vs,h,hr=>by simp only[V.u1]at h;subst h;exact⟨hr,fun _=>⟨rfl,fun _=>rfl⟩⟩
 | .nilc,x,p,vs,h,hr=>by simp only[V.u1]at h;subst h;exact⟨hr,fun _=>⟨rfl,fun _=>rfl⟩⟩
 | .ptr k q τ,x,p,vs,h,hr=>by simp only[V.u1]at h;subst h;exact⟨hr,fun _=>⟨rfl,fun _=>rfl⟩⟩
 | .cptr τ c,x,p,vs,h,hr=>by simp only[V.u1]at h;subst h;exact⟨hr,fun _=>⟨rfl,fun _=>rfl⟩⟩
 | .sr k q lo n cp eb e,x,p,vs,h,hr=>by simp only[V.u1]at h;subst h;exact⟨hr,fun _=>⟨rfl,fun _=>rfl⟩⟩
 | .mp k,x,p,vs,h,hr=>by simp only[V.u1]at h;subst h;exact⟨hr,fun _=>⟨rfl,fun _=>rfl⟩⟩
 | .fn f caps,x,p,vs,h,hr=>by simp only[V.u1]at h;subst h;exact⟨hr,fun _=>⟨rfl,fun _=>rfl⟩⟩
 | .tup us,x,p,vs,h,hr=>by simp only[V.u1]at h;subst h;exact⟨hr,fun _=>⟨rfl,fun _=>rfl⟩⟩
 | .top τ,x,p,vs,h,hr=>by simp only[V.u1]at h;subst h;exact⟨hr,fun _=>⟨rfl,fun _=>rfl⟩⟩
theorem y4.u1 {hm:Option Key}:∀(ys xs:List V) {p:List Nat} {i:Nat} {τ:Ty} {vs:List Value},V.q0W xs ys→y4 Γ hm p i τ xs vs→y4 Γ hm p i τ ys vs
 | [],[],_,_,_,_,_,h=>h
 |y::ys,x::xs,p,i,τ,vs,h,hr=>by
  simp only[V.q0W]at h
  simp only[y4]at hr ⊢
  obtain⟨⟨o,f,h1,h2,h3,h4⟩,h5⟩:=hr
  obtain⟨k1,k2⟩:=q8.u1 y x h.1 h4
  exact⟨⟨o,f,h1,h.2.1.trans h2,h3,k1⟩,y4.u1 ys xs h.2.2 h5⟩
 | [],_::_,_,_,_,_,h,_=>by simp[V.q0W]at h
 |_::_,[],_,_,_,_,h,_=>by simp[V.q0W]at h
end
mutual
theorem V.q7a {f g f' g':Nat→Bool} (hf:∀n,f n=true→f' n=true) (hg:∀n,g n=true→g' n=true):∀x:V,x.ok f g=true→x.ok f' g'=true
 | .ptr (.l k) _ _,h| .mp (.l k),h| .sr (.l k) _ _ _ _ _ _,h=>by simp only[V.ok]at h ⊢;exact hf _ h
 | .sl _ _ _ t,h=>by simp only[V.ok]at h ⊢;exact hg _ h
 | .agg _ vs,h| .fn _ vs,h| .tup vs,h=>by simp only[V.ok]at h ⊢;exact V.z6a hf hg vs h
 | .ptr (.g _) _ _,_| .mp (.g _),_| .sr (.g _) _ _ _ _ _ _,_| .d _ _,_| .ts _ _ _,_| .emp _ _,_| .nilc,_| .cptr _ _,_| .top _,_| .any,_=>by simp[V.ok]
theorem V.z6a {f g f' g':Nat→Bool} (hf:∀n,f n=true→f' n=true) (hg:∀n,g n=true→g' n=true):∀xs:List V,V.oks f g xs=true→V.oks f' g' xs=true
 | [],_=>rfl
 |x::xs,h=>by simp only[V.oks,Bool.and_eq_true]at h ⊢;exact⟨V.q7a hf hg x h.1,V.z6a hf hg xs h.2⟩
end
theorem V.z30 {f g f' g':Nat→Bool} (hf:∀n,f n=true→f' n=true) (hg:∀n,g n=true→g' n=true):∀xs:List (C × V),V.q0m f g xs=true→V.q0m f' g' xs=true
 | [],_=>rfl
 |x::xs,h=>by simp only[V.q0m,Bool.and_eq_true]at h ⊢;exact⟨V.q7a hf hg x.2 h.1,V.z30 hf hg xs h.2⟩
theorem O.q7a {f g f' g':Nat→Bool} (hf:∀n,f n=true→f' n=true) (hg:∀n,g n=true→g' n=true) (o:O) (h:o.ok f g=true):o.ok f' g'=true:=by
 cases o with
 |box x=>exact V.q7a hf hg x h
 |map=>exact V.z30 hf hg _ h
 |it=>rfl
 |dead=>rfl
structure Sub (Γ Γ':G) (f g:Nat→Bool):Prop where
 oo:Γ'.oo=Γ.oo
 σ:Γ'.σ=Γ.σ
 H:Γ'.H=Γ.H
 Z:Γ'.Z=Γ.Z
 gl:Γ'.gl=Γ.gl
 ιg:∀k,Γ'.ι (.g k)=Γ.ι (.g k)
 ιl:∀n,f n=true→Γ'.ι (.l n)=Γ.ι (.l n)
 τ:∀t,g t=true→Γ'.τ t=Γ.τ t
 κ:∀b k p sz,Γ.κ b=some (.home k p,sz)→Γ'.κ b=Γ.κ b
variable {Γ':G} {f g:Nat→Bool}
mutual
theorem q8.sub (hs:Sub Γ Γ' f g) {hm:Option Key}:∀(x:V) {p:List Nat} {vs:List Value},x.ok f g=true→q8 Γ hm p x vs→q8 Γ' hm p x vs
 | .d _ _,_,_,_,h=>by simp only[q8]at h ⊢;rw[hs.H];exact h
 | .sl eb e cs t,_,_,ho,h=>by
  simp only[q8]at h ⊢
  obtain⟨a,n,cap,h1,h2,x,L,h3,h4⟩:=h
  exact⟨a,n,cap,h1,by rw[hs.H];exact h2,x,L,by rw[hs.τ t (by simpa[V.ok]using ho)];exact h3,h4⟩
 | .ts eb e cs,_,_,_,h=>by
  simp only[q8]at h ⊢
  obtain⟨a,n,cap,k,h0,h1,h2,h3⟩:=h
  refine⟨a,n,cap,k,h0,h1,by rw[hs.H];exact h2,?_⟩
  rcases h3 with h3|⟨b,l,sz,a1,a2,a3,a4,a5⟩
  ·exact .inl h3
  ·exact .inr ⟨b,l,sz,a1,by rw[hs.H];exact a2,a3,by rw[hs.κ b k _ sz a4];exact a4,a5⟩
 | .emp _ _,_,_,_,h=>by simpa only[q8]using h
 | .nilc,_,_,_,h=>by simpa only[q8]using h
 | .ptr (.l k) q τ,_,_,ho,h=>by
  simp only[q8]at h ⊢
  rw[hs.ιl k (by simpa[V.ok]using ho)];exact h
 | .ptr (.g k) q τ,_,_,_,h=>by
  simp only[q8]at h ⊢
  rw[hs.ιg];exact h
 | .cptr τ c,_,_,_,h=>by
  simp only[q8]at h ⊢
  rw[hs.H];exact h
 | .sr (.l k) _ _ _ _ _ _,_,_,ho,h=>by
  simp only[q8]at h ⊢
  rw[hs.ιl k (by simpa[V.ok]using ho),hs.σ];exact h
 | .sr (.g k) _ _ _ _ _ _,_,_,_,h=>by
  simp only[q8]at h ⊢
  rw[hs.ιg,hs.σ];exact h
 | .mp (.l k),_,_,ho,h=>by
  simp only[q8]at h ⊢
  rw[hs.ιl k (by simpa[V.ok]using ho)];exact h
 | .mp (.g k),_,_,_,h=>by
  simp only[q8]at h ⊢
  rw[hs.ιg];exact h
 | .agg τ xs,_,_,ho,h=>by
  simp only[q8]at h ⊢
  exact⟨h.1,h.2.1,h.2.2.1,h.2.2.2.1,y4.sub hs xs (by simpa[V.ok]using ho) h.2.2.2.2⟩
 | .fn _ caps,_,_,ho,h=>by
  simp only[q8]at h ⊢
  obtain⟨cv,h1,h2⟩:=h
  exact⟨cv,h1,y9.sub hs caps (by simpa[V.ok]using ho) h2⟩
 | .tup _,_,_,_,h=>by simp only[q8]at h
 | .top _,_,_,_,h=>by simpa only[q8]using h
 | .any,_,_,_,_=>by simp only[q8]
theorem y4.sub (hs:Sub Γ Γ' f g) {hm:Option Key}:∀(xs:List V) {p:List Nat} {i:Nat} {τ:Ty} {vs:List Value},V.oks f g xs=true→y4 Γ hm p i τ xs vs→y4 Γ' hm p i τ xs vs
 | [],_,_,_,_,_,_=>by simp only[y4]
 |x::xs,_,_,_,_,ho,h=>by
  simp only[y4]at h ⊢
  simp only[V.oks,Bool.and_eq_true]at ho
  obtain⟨⟨o,ff,h1,h2,h3,h4⟩,h5⟩:=h
  exact⟨⟨o,ff,h1,h2,h3,q8.sub hs x ho.1 h4⟩,y4.sub hs xs ho.2 h5⟩
theorem y9.sub (hs:Sub Γ Γ' f g):∀(xs:List V) {vs:List Value},V.oks f g xs=true→y9 Γ xs vs→y9 Γ' xs vs
 | [],_,_,h=>by simpa only[y9]using h
 |x::xs,_,ho,h=>by
  simp only[y9]at h ⊢
  simp only[V.oks,Bool.and_eq_true]at ho
  obtain⟨v,vs',h1,h2,h3,h4⟩:=h
  exact⟨v,vs',h1,q8.sub hs x ho.1 h2,h3,y9.sub hs xs ho.2 h4⟩
end
theorem q9.sub (hs:Sub Γ Γ' f g) {x:V} {v:Value} (ho:x.ok f g=true) (h:q9 Γ x v):q9 Γ' x v:=by
 cases x
 case any=>trivial
 case tup us=>obtain⟨vs,h1,h2⟩:=h;exact⟨vs,h1,y9.sub hs _ (by simpa[V.ok]using ho) h2⟩
 all_goals exact⟨q8.sub hs _ ho h.1,h.2⟩
theorem z6c {f g:Nat→Bool}:∀{es:List (C × V)} {i:Nat} {c:C × V},V.q0m f g es=true→es[i]? =some c→c.2.ok f g=true
 | [],_,_,_,h=>by simp at h
 |x::xs,0,c,h,hc=>by simp[V.q0m]at h;simp at hc;subst hc;exact h.1
 |x::xs,i+1,c,h,hc=>by simp[V.q0m]at h;exact z6c h.2 (by simpa using hc)
theorem z0z:∀{l:List Ty} {i:Nat} {t:Ty},Ty.q67 l=true→l[i]? =some t→t.X2=true
 | [],_,_,_,h=>by cases h
 |x::l,0,t,h,hi=>by
  simp only[Ty.q67,Bool.and_eq_true]at h
  simp at hi;subst hi;exact h.1
 |x::l,i+1,t,h,hi=>by
  simp only[Ty.q67,Bool.and_eq_true]at h
  exact z0z h.2 (by simpa using hi)
theorem z5Z {τ f:Ty} {i o:Nat} (h:τ.X2=true) (hc:τ.child i=some (o,f)):f.X2=true:=by
 cases τ with
 |struct sz os fs=>
  simp only[Ty.child]at hc
  split at hc
  ·rename_i o' f' h1 h2
   cases hc
   exact z0z (by simpa only[Ty.X2]using h) h2
  ·cases hc
 |arr n e=>
  simp only[Ty.child]at hc
  split at hc
  ·cases hc;simpa only[Ty.X2]using h
  ·cases hc
 |_=>cases hc
mutual
theorem q8.plain (hH:Γ'.H=Γ.H) {hm:Option Key}:∀(x:V) {p:List Nat} {vs:List Value},x.ty.X2=true→q8 Γ hm p x vs→q8 Γ' hm p x vs
 | .d _ _,_,_,_,h=>by simp only[q8]at h ⊢;rw[hH];exact h
 | .top _,_,_,_,h=>by simpa only[q8]using h
 | .agg τ xs,p,vs,ht,h=>by
  simp only[q8]at h ⊢
  exact⟨h.1,h.2.1,h.2.2.1,h.2.2.2.1,y4.plain hH xs ht h.2.2.2.2⟩
 | .sl ..,_,_,ht,_=>by simp[V.ty,Ty.X2]at ht
 | .ts ..,_,_,ht,_=>by simp[V.ty,Ty.X2]at ht
 | .emp ..,_,_,ht,_=>by simp[V.ty,Ty.X2]at ht
 | .nilc,_,_,ht,_=>by simp[V.ty,Ty.X2]at ht
 | .ptr ..,_,_,ht,_=>by simp[V.ty,Ty.X2]at ht
 | .cptr ..,_,_,ht,_=>by simp[V.ty,Ty.X2]at ht
 | .sr ..,_,_,ht,_=>by simp[V.ty,Ty.X2]at ht
 | .mp ..,_,_,ht,_=>by simp[V.ty,Ty.X2]at ht
 | .fn ..,_,_,ht,_=>by simp[V.ty,Ty.X2]at ht
 | .tup ..,_,_,ht,_=>by simp[V.ty,Ty.X2]at ht
 | .any,_,_,ht,_=>by simp[V.ty,Ty.X2]at ht
theorem y4.plain (hH:Γ'.H=Γ.H) {hm:Option Key} {p:List Nat}:∀(xs:List V) {i:Nat} {τ:Ty} {vs:List Value},τ.X2=true→y4 Γ hm p i τ xs vs→y4 Γ' hm p i τ xs vs
 | [],_,_,_,_,_=>by simp[y4]
 |x::xs,i,τ,vs,ht,h=>by
  simp only[y4]at h ⊢
  obtain⟨⟨o,f,h1,h2,h3,h4⟩,h5⟩:=h
  exact⟨⟨o,f,h1,h2,h3,q8.plain hH x (by rw[h2];exact z5Z ht h1) h4⟩,y4.plain hH xs ht h5⟩
end
def O.okP (f g:Nat→Bool):O→Bool
 | .map _ vτ es=>vτ.X2||V.q0m f g es
 |o=>o.ok f g
theorem O.y4F {f g:Nat→Bool} {o:O} (h:o.ok f g=true):o.okP f g=true:=by
 cases o with
 |map=>exact Bool.or_eq_true_iff.2 (.inr h)
 |_=>exact h
theorem Own.sub (hs:Sub Γ Γ' f g) {w:World} {k:Key} {o:O} (hk:Γ'.ι k=Γ.ι k) (ho:o.okP f g=true) (h:Own Γ w k o):Own Γ' w k o:=by
 cases o with
 |box x=>
  obtain⟨b,cells,T,h1,h2,h3,h4,h5,h6,h7⟩:=h
  exact⟨b,cells,T,by rw[hk];exact h1,by rw[hs.H];exact h2,by rw[hs.Z];exact h3,h4,h5,q8.sub hs x ho h6,h7⟩
 |map kτ vτ es=>
  obtain⟨b,ms,clock,h1,h2,h3,h4,h5,h6,h7⟩:=h
  refine⟨b,ms,clock,by rw[hk];exact h1,by rw[hs.H];exact h2,by rw[hs.Z];exact h3,h4,h5,fun i m c hm hc=>?_,h7⟩
  obtain⟨a1,a2,a3,a4⟩:=h6 i m c hm hc
  simp only[O.okP,Bool.or_eq_true]at ho
  rcases ho with ho|ho
  ·exact⟨by rw[hs.H];exact a1,a2,q8.plain hs.H _ (by rw[a4.2.1];exact ho) a3,a4⟩
  ·exact⟨by rw[hs.H];exact a1,a2,q8.sub hs _ (z6c ho hc) a3,a4⟩
 |it l pos=>
  obtain⟨b,adr,v,h1,h2,h3,h4,h5,h6,h7⟩:=h
  refine⟨b,adr,v,by rw[hk];exact h1,by rw[hs.H];exact h2,by rw[hs.Z];exact h3,h4,h5,h6,?_⟩
  rcases h7 with h7|⟨g,cap,g1,g2,g3,g4⟩
  ·exact .inl h7
  ·exact .inr ⟨g,cap,g1,by rw[hs.H];exact g2,by rw[hs.κ g _ _ _ g3];exact g3,g4⟩
 |dead τ=>
  obtain⟨b,h1,h4⟩:=h
  exact⟨b,by rw[hk];exact h1,h4⟩
theorem Own.u1 {w:World} {k:Key} {o o':O} (hi:O.u1 o o') (h:Own Γ w k o):Own Γ w k o':=by
 cases o' with
 |dead τ=>
  have e:τ=o.ty:=by cases o <;> exact hi
  obtain⟨b,τ',h1,_,h4,h5⟩:=h.block
  exact⟨b,by rw[e,←h5];exact h1,h4⟩
 |box y=>cases o with
  |box x=>
   obtain⟨b,cells,T,h1,h2,h3,h4,h5,h6,h7,h8⟩:=h
   obtain⟨i1,ht,i2,i3⟩:=hi
   obtain⟨r1,_⟩:=q8.u1 y x i1 h6
   exact⟨b,cells,T,by rw[ht];exact h1,h2,h3,h4,by rw[ht];exact h5,by rw[ht];exact r1,i2,i3⟩
  |_=>exact hi.elim
 |map kτ vτ es=>cases o with
  |map=>obtain⟨rfl,rfl,rfl⟩:=hi;exact h
  |_=>exact hi.elim
 |it l p=>cases o with
  |it=>obtain⟨rfl,rfl⟩:=hi;exact h
  |_=>exact hi.elim
theorem O.y0Y {o o':O} (hi:O.u1 o o') (h:o.q6B):o'.q6B:=by
 cases o' with
 |dead=>trivial
 |box y=>cases o with
  |box x=>
   obtain⟨e,rfl⟩:=h
   obtain⟨i1,_,i2,_⟩:=hi
   cases y <;> simp only[V.u1,V.plain,reduceCtorEq,or_self,Bool.false_eq_true]at i1 i2
   obtain⟨h1,rfl⟩:=i1
   simp only[s9,Option.some.injEq]at h1
   subst h1
   exact⟨e,rfl⟩
  |_=>exact hi.elim
 |map kτ vτ es=>cases o with
  |map=>exact h.elim
  |_=>exact hi.elim
 |it l p=>cases o with
  |it=>exact h.elim
  |_=>exact hi.elim
theorem O.z4g {o o':O} (hi:O.u1 o o') (h:o.X3=true):o'.X3=true:=by
 cases o <;> simp[O.X3]at h
 cases o' <;> first|rfl|exact hi.elim
end
end Go.E
