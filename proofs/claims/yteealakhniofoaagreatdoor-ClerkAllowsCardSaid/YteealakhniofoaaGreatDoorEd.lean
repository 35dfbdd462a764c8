/-
 A framework for runs of Go code over abstract data: what it needs, and that it is sound, part 4.
 Conditions: none.
-/
import Derived.Test.YteealakhniofoaaGreatDoorEc
set_option linter.all false
noncomputable section
set_option maxRecDepth 100000
set_option maxHeartbeats 4000000
open Array renaming eq_empty_of_size_eq_zero->gr,getD_eq_getD_getElem?->ib,getElem?_eq_getElem->dw,getElem?_map->vb,length_toList->ic,mem_append_right->jd,mem_toList_iff->kf
open Bool renaming and_eq_true->bg
open ByteArray renaming data_extract->sb,size->iw
open Go.Act renaming put->sq
open Go.Builtin renaming append_->nv,copy_->vw,firstCells->fx,zeroCells->fm
open Go.Call renaming operands->du
open Go.Deferred renaming ofValue->uv
open Go.E.C renaming elems->ax,int->bc
open Go.E.Ext renaming alloc->uj,drew->xq
open Go.E.S renaming obj->jt
open Go.E.Ty renaming int->bm,isAgg->ja,size->gu
open Go.E.Ty.arr renaming injEq->qj
open Go.E.V renaming ty->qk
open Go.IntKind renaming u8->cq
open Go.Op renaming equal->kl,operands->cm
open Go.Program renaming cellsOf->iv
open Go.Region renaming wanted->jj
open Go.Result renaming andThen_ok->cu
open Go.Result.ok renaming injEq->uy
open Go.Sem renaming run_bind->cz,run_pure->ej
open Go.Value renaming cells->ek,int->kx
open Go.World renaming cell?->mu
open Int renaming toNat_of_nonneg->ji
open List renaming append_assoc->gd,drop_zero->jf,eq_nil_of_length_eq_zero->fl,ext_getElem?->fb,getElem?_append_left->ft,getElem?_append_right->gh,getElem?_drop->iz,getElem?_eq_some_iff->cd,getElem?_map->db,getElem?_take->fh,length_append->br,length_map->fg,length_take->jh,mem_append->eh,mem_cons->ij,mem_map->lu,mem_of_getElem?->fa,mem_singleton->fj,mem_toArray->qw,replicate->bp,size_toArray->iq,take_left'->se,toList_toArray->py
open Nat renaming add_mul->da,eq_zero_or_pos->oy,le_refl->bx,min_eq_left->sj,mul_le_mul_right->cf,mul_one->rh,zero_add->bf,zero_le->dr,zero_mul->gq
open Option.some renaming injEq->ee
open Prod.mk renaming injEq->fw
namespace Go.E
open Go
section
section
variable {P:Program} {Γ:G} {w w':World} {s:S}
theorem q8t (w:World) (t tx ty e:TypeId) (i:TypeInfo) (ht:P.underlying t=some (.slice e)) (hi:P.info? e=some i) (base:Option Addr) (z9j z9k:Nat) (hle:z9j<=z9k) (x:Value) (hs:Src P i.size tx x 0 [] w):
  (nv #[t,tx] ty #[.slice base z9j z9k,x]).run P w= .ok (.slice base z9j z9k) w:=by
 have h0:=hs.cells;rcases hs.kind with⟨e',hk⟩|hk <;> cases base <;> simp[nv,run_underlying ht,run_underlying hk,sizeOf,typeInfo,hi,hs.len,hle,h0,storeCells]
theorem AY.gJ (c:AY Γ w s) {t:Nat} {e:Ty} (ht:s.obj (.l t)=none):AY Γ w {s with loc:=(.l t,.box (.d (.arr 0 e) (.agg [])))::s.loc}:=by refine⟨c.hH,c.hZ,c.hκ,fun j o hj=>?_,fun j hj=>?_,c.KI (fun j hj=>?_),c.tok,c.yu,c.hgl,c.hoo,c.hσ⟩;{rw[DZ]at hj;split at hj;{rename_i e1;subst e1;cases hj;exact .inl ⟨c.Qd ht,e,rfl⟩};{exact c.obj j o hj}};{rw[DZ];split;{simp};{exact c.dom j hj}};{unfold S.CY at hj ⊢;rw[DZ];split;{rename_i e1;subst e1;rw[ht]at hj;cases hj};{exact hj}}
theorem q0K (hP:BS P=true) (c:AY Γ w s) {o:Oper} {a:Act} {x y:Operand} {t t':TypeId} {d:Nat} {k:Key} {n M:Nat} {cc:C} {Y:V} {ys:List C} {eb:Nat} {e:Ty} (ho:OI o x y t t')
  (ht:ty P t= .slice eb e) (hz:Cb P (BK P t)=true) (hd:s.obj (.l d)=none) (yi:s.obj k=some (.box (.d (.arr M e) cc)))
  (hx:AK Γ (.sr k [] 0 n none eb e) (a.eval x)) (hy:AK Γ Y (a.eval y)) (hel:Ki P s t' eb e Y ys) (hlen:(n+ys.length)*eb<=140737488355328) (z8V:n+ys.length<=maxLen):
  BU P o a w (BX Γ w {s with loc:=(.l d,.box (.d (.arr (n+ys.length) e) (.agg (cc.elems.take n++ys))))::(k,.dead (.arr M e))::s.loc} (.sr (.l d) [] 0 (n+ys.length) none eb e)):=by
 obtain⟨hu,he,heb,hE⟩:=MD hP ht;obtain⟨m,news,hs,r1,r2,r3,r4⟩:=TS c hy hel;have y0x:FC s (.sr k [] 0 n none eb e)=some (eb,e,cc.elems.take n):=by simp[FC,yi,V.at]
 obtain⟨n',olds,hso,o1,o2,o3,o4⟩:=XB (P:=P) (tx:=t) c hx y0x hu;have hlc:(cc.elems.take n).length=n:=by rcases Hx hx with⟨_,rfl,_⟩|⟨b,τ0,o0,M',cap,aa,a1,a2,a3,_⟩;{simp};{obtain⟨b',cells,T,g1,g2,g3,g4,g5,g6,g7,_⟩:=c.own a1 yi;obtain⟨fr0,g4,zb⟩:=g4;rw[a1]at g1;cases g1;simp only[qk,Ty.walk,ee,fw,qj]at a2;obtain⟨rfl,rfl,_⟩:=a2;simp only[qk,AA,AU]at g6;obtain⟨cs,rfl,q1,_⟩:=g6;simp only[ax,jh];omega}
 have hn:n'=n:=by rw[<-o1];exact hlc
 subst hn;obtain⟨i,z,hi,hzz,hzo,z8s⟩:=MJ hz;have hcz:=Nt hzo;have hsz:i.size=e.size:=by have:=Dq hP 11 (BK P t);rw[he,this];simp[iv,hi]
 have hby:i.bytes=eb:=by rw[heb];simp[Program.bytesOf,hi]
 have hzc:z.cells.size=e.size:=by have h1:=Dq hP 11 (BK P t);have h2:=Nn hP (BK P t);rw[he,h1,<-h2,<-hcz];simp
 rw[<-hsz]at hs hso;have hnl:news.length=m*e.size:=by rw[hs.newsLen,hsz]
 have hol:olds.length=n'*e.size:=by rw[hso.newsLen,hsz]
 have zg:((n'+m:Nat):Int)<=9223372036854775807:=by unfold maxLen at z8V;omega
 have hbb:(n'+m)*eb<=140737488355328:=by rw[<-r1];exact hlen
 have z9O:(cc.elems.take n'++ys).length=n'+ys.length:=by simp[o1]
 have z88:∀{Γ':G},Bg Γ Γ'->∀olds:List Value,olds.length=n'*e.size->(∀i c',(cc.elems.take n')[i]? =some c'->AU Γ.H e (chunk olds (i*e.size) e.size) c')->∀vs:List Value,vs.length=(n'+ys.length)*e.size->vs=olds++news->AA Γ' none [] (.d (.arr (n'+ys.length) e) (.agg (cc.elems.take n'++ys))) vs:=by
  intro Γ' hp olds hol o4 vs hvl hvs;subst hvs;have yq:∀j c',(cc.elems.take n'++ys)[j]? =some c'->AU Γ'.H e (chunk (olds++news) (j*e.size) e.size) c':=by intro j c' hj;have:=ZQ (H:=Γ'.H) (rest:=[]) o1 r1 hol hnl (fun i c' hi=>(o4 i c' hi).mono hp.H) (fun i c' hi=>(r4 i c' hi).mono hp.H) j c' hj;simpa using this
  simp only[AA,AU];exact⟨_,rfl,z9O,hvl,Ph z9O hvl yq,yq⟩
 have hkd:k≠.l d:=fun h=>by rw[h,hd]at yi;cases yi
 have z9P:∀(aa:Option Addr) (cap:Nat),a.eval x= .slice aa n' cap->cap<=maxLen->¬n'+m<=cap->BU P o a w (BX Γ w {s with loc:=(.l d,.box (.d (.arr (n'+ys.length) e) (.agg (cc.elems.take n'++ys))))::(k,.dead (.arr M e))::s.loc} (.sr (.l d) [] 0 (n'+ys.length) none eb e)):=by
  intro aa cap hv a6 zu;have hge:=grownCap_ge w (n'+m) cap (BK P t);have hcm:=grownCap_le_maxLen w (n'+m) cap (BK P t) (by omega);have z8X:(fx i.size n' (.slice aa n' cap)).run P w.drew= .ok olds.toArray w.drew:=by rw[<-hv];exact hso.cellsD
  have run:=run_append_grow_src (P:=P) w t t' o.type _ i z hu hi hzz aa n' cap olds z8X (a.eval y) m news hs (by omega) zg (by
   rw[hby];exact growslice_fits (by omega) hbb)
  rw[<-hv]at run;have z8h:Ext w (w.drew.alloc (.cells ((olds++news).toArray++fm z.cells (grownCap w (n'+m) cap (BK P t)-(n'+m))) (BK P t))):=(xq w).trans (uj _ _);have yo:=heap_alloc_new w.drew (.cells ((olds++news).toArray++fm z.cells (grownCap w (n'+m) cap (BK P t)-(n'+m))) (BK P t));have zo:((olds++news).toArray++fm z.cells (grownCap w (n'+m) cap (BK P t)-(n'+m))).size=grownCap w (n'+m) cap (BK P t)*e.size:=by simp only[Array.size_append,iq,br,size_zeroCells,hzc,hnl,hol,<-da];congr 1;omega
  have hll:(olds++news).length=(n'+ys.length)*e.size:=by rw[br,hol,hnl,da,r1]
  have z8o:chunk ((olds++news).toArray++fm z.cells (grownCap w (n'+m) cap (BK P t)-(n'+m))).toList 0 ((n'+ys.length)*e.size)=olds++news:=by unfold chunk;rw[jf,Array.toList_append,py];exact se hll
  have ck:=c.kill yi
  obtain⟨h1,h2,h3⟩:=ck.addKey (k:=.l d) (by rw[DZ,if_neg hkd];exact hd) z8h (τ:=.arr (n'+ys.length) e) (o:=.box (.d (.arr (n'+ys.length) e) (.agg (cc.elems.take n'++ys)))) fun Γ' hpr _ hι hH hZ=>
   ⟨_,_,BK P t,hι,hH,hZ,⟨(0,0),yo,.inl (bx _)⟩,by simp only[qk,gu];rw[zo,r1];exact cf _ hge,by
    simp only[qk,gu];rw[z8o];exact(z88 hpr _ hol o4 _ hll rfl).EZ,rfl,rfl⟩
  obtain⟨k1,k2,k3⟩:=h1.HK (show _=_ from yo);refine BU.val (Kd ho run) ⟨_,h3.trans k3,h2.trans k2,k1,(Ch rfl rfl).2 ⟨?_,rfl⟩⟩;simp only[AA];refine .inr ⟨w.heap.size,.arr (n'+ys.length) e,0,n'+ys.length,grownCap w (n'+m) cap (BK P t),by simp[G.HK,G.addKey,EW],rfl,by omega,⟨some ⟨w.heap.size,0,none⟩,by rw[r1],.inr (by simp)⟩,by rw[r1];exact hge,hcm,hlen,(fun c h=>by cases h),fun _=>.inr ⟨_,Dc _ _ _,?_⟩⟩;rw[zo,bf,bf];exact bx _
 have CQ:∀aa:Option Addr,a.eval x= .slice aa 0 0->n'=0->m=0->BU P o a w (BX Γ w {s with loc:=(.l d,.box (.d (.arr (n'+ys.length) e) (.agg (cc.elems.take n'++ys))))::(k,.dead (.arr M e))::s.loc} (.sr (.l d) [] 0 (n'+ys.length) none eb e)):=by intro aa hv hn0 hm0;subst hn0;subst hm0;have hy0:ys=[]:=fl r1;subst hy0;have hw0:news=[]:=fl (by rw[hnl,gq]);subst hw0;have run:=q8t (P:=P) w t t' o.type _ i hu hi aa 0 0 (bx _) (a.eval y) hs;rw[<-hv]at run;have ck:=(c.kill yi).gJ (t:=d) (e:=e) (by rw[DZ,if_neg hkd];exact hd);refine BU.val (Kd ho run) ⟨Γ,.refl Γ,.refl Γ,ck,(Ch rfl rfl).2 ⟨?_,by rw[hv];rfl⟩⟩;simp only[AA];exact .inl ⟨trivial,rfl,aa,by rw[hv]⟩
 rcases Hx hx with⟨_,h0,aa,hv⟩|⟨b,τ0,o0,M',cap,aa,a1,a2,a3,hv,a4,a5,a6,a7,_,a9⟩;{subst h0;by_cases hm0:m=0;{exact CQ aa hv rfl hm0};{exact z9P aa 0 hv (dr _) (by omega)}};obtain⟨b',cells,T,g1,g2,g3,g4,g5,g6,g7,_⟩:=c.own a1 yi;obtain⟨fr0,g4,zb⟩:=g4;rw[a1]at g1;cases g1;simp only[qk,Ty.walk,ee,fw,qj]at a2;obtain⟨rfl,rfl,_⟩:=a2;simp only[qk,AA,AU]at g6;obtain⟨cs,rfl,q1,q2,q3,q4⟩:=g6;simp only[ax]at*;by_cases zu:n'+m<=cap
 · -- in the room behind
  by_cases hc0:cap=0
  ·subst hc0;have hn0:n'=0:=by omega
   exact CQ aa (by rw[hv,hn0]) hn0 (by omega)
  have haa:aa=some ⟨b,0,none⟩:=by rcases a4 with a4|a4;{exact absurd a4 hc0};{rw[a4];simp}
  subst haa;obtain⟨sz,s1,s2⟩:∃sz,Γ.σ b=some sz/\0+(0+cap)*e.size<=sz:=by rcases a9 trivial with a9|a9;{omega};{exact a9}
  obtain⟨arr,T',fr,s3,s4⟩:=c.hσ b sz s1;rw[g4]at s3;cases s3;have z8m:n'*e.size+m*e.size<=cells.size:=by rw[s4,<-da];rw[bf,bf]at s2;exact Nat.le_trans (cf _ zu) s2
  have run:=run_append_room_src (P:=P) w t t' o.type _ i hu hi b 0 n' cap (a.eval y) m news hs zu
   (fun j hj=>by
    rw[hnl]at hj;simp[mu,g4];rw[hsz];omega)
   (fun j hj=>by
    rw[hnl]at hj;simp only[World.frozen?,g4,Bool.and_eq_false_iff,decide_eq_false_iff_not];rw[hsz];omega)
  rw[<-hv]at run;rw[bf,hsz]at run;obtain⟨ze,hw',z8y⟩:=eO b news (n'*e.size) w cells T fr0 g4 (by rw[hnl];exact z8m);have z9l:ze.size=cells.size:=by rw[<-ic,<-ic,z8y,Ia (by rw[hnl];simpa using z8m)]
  have hMl:n'*e.size<=M*e.size:=cf _ (by omega);have hMc:M*e.size<=cells.size:=g5;have z9Q:(chunk cells.toList 0 (n'*e.size)).length=n'*e.size:=Ek _ _ _ (by simp;omega);have o42:∀i c',(cs.take n')[i]? =some c'->AU Γ.H e (chunk (chunk cells.toList 0 (n'*e.size)) (i*e.size) e.size) c':=by intro i c' hi;rw[fh]at hi;split at hi;{rename_i hin;have:=q4 i c' hi;have hle:(i+1)*e.size<=n'*e.size:=cf _ hin;rw[da]at hle;simp only[gu]at this;rw[FB _ _ _ _ _ (by omega)]at this;rw[FB _ _ _ _ _ (by omega)];exact this};{cases hi}
  have hll:(chunk cells.toList 0 (n'*e.size)++news).length=(n'+ys.length)*e.size:=by rw[br,z9Q,hnl,da,r1]
  have z8o:chunk ze.toList 0 ((n'+ys.length)*e.size)=chunk cells.toList 0 (n'*e.size)++news:=by rw[z8y];unfold chunk Bx;rw[jf,jf];refine se ?_;rw[br,hnl,jh,da,r1];simp;omega
  obtain⟨h1,h2,h3⟩:=c.wS (w':=w.setCells b (n'*e.size) news) (j:=.l d) (x':=.d (.arr (n'+ys.length) e) (.agg (cs.take n'++ys))) yi rfl a1 hd hw' (by rw[z9l];exact zb)
   (fun b' hb'=>eP b news _ w b' hb') (by unfold oof;rw[World.os_setCells,World.output_setCells]) rfl
   (by simp only[qk,gu];rw[z9l,da,r1];exact z8m) (by
    simp only[qk,gu];rw[z8o];exact z88 (Bg.refl Γ) _ z9Q o42 _ hll rfl) rfl rfl (fun arr T fr h=>by rw[g4]at h;cases h;exact z9l)
  refine BU.val (Kd ho run) ⟨_,h3,h2,h1,(Ch rfl rfl).2 ⟨?_,rfl⟩⟩;simp only[AA];refine .inr ⟨b,.arr (n'+ys.length) e,0,n'+ys.length,cap,by simp[G.addKey,EW],rfl,by omega,⟨some ⟨b,0,none⟩,by rw[r1],.inr (by simp)⟩,by rw[r1];exact zu,a6,hlen,(fun c h=>by cases h),fun _=>.inr ⟨sz,s1,?_⟩⟩;exact s2
 ·exact z9P aa cap hv a6 zu
end
end
section
section
variable {P:Program} {Γ:G} {w w':World} {s:S}
theorem Zz (a:Addr):∀(n i:Nat) (acc arr:Array Value) (w':World),(loadCellsFrom a i n acc).run P w= .ok arr w'->∀k,k<=n->
  ∃l r:List Value,arr=acc++(l++r).toArray/\l.length=k/\(loadCellsFrom a i k acc).run P w= .ok (acc++l.toArray) w
 |0,i,acc,arr,w',h,k,hk=>by
  have:k=0:=by omega
  subst this;simp[loadCellsFrom]at h;exact⟨[],[],by simp[h.1],rfl,by simp[loadCellsFrom]⟩
 |n+1,i,acc,arr,w',h,k,hk=>by
  have step:∀(m:Nat),(loadCellsFrom a i (m+1) acc).run P w=((load (a.add i)).run P w).andThen fun v w1=>(loadCellsFrom a (i+1) m (acc.push v)).run P w1:=by
   intro m
   conv=>lhs;unfold loadCellsFrom
   rw[cz]
  rw[step]at h;have hl:∃v,(load (a.add i)).run P w= .ok v w:=by
   rw[run_load]at h ⊢;cases hc:w.cell? (a.add i)with
   |some v=>exact⟨v,rfl⟩|none=>
    rw[hc]at h;dsimp only at h ⊢;cases hf:w.farLoad P (a.add i) (Mode.plain== .atomic)with
    |ok x=>obtain⟨v,y⟩:=x;exact⟨v,rfl⟩
    |error e=>rw[hf]at h;cases h
  obtain⟨v,hv⟩:=hl;rw[hv]at h;simp only[cu]at h;cases k with
  |zero=>
   obtain⟨l,r,h1,h2,_⟩:=Zz a n (i+1) (acc.push v) arr w' h 0 (dr _);have:l=[]:=fl h2;subst this;exact⟨[],v::r,by simp[h1],rfl,by simp[loadCellsFrom]⟩
  |succ k=>
   obtain⟨l,r,h1,h2,h3⟩:=Zz a n (i+1) (acc.push v) arr w' h k (by omega);refine⟨v::l,r,by simp[h1],by simp[h2],?_⟩;rw[step,hv];simp only[cu,h3];simp
theorem q12 {sz n k:Nat} {x:Value} {news:List Value} (h:(fx sz n x).run P w= .ok news.toArray w) (hl:news.length=n*sz) (hk:k<=n) (hlen:∀s,x= .string s->n<=s.size/\sz=1):(fx sz k x).run P w= .ok (news.take (k*sz)).toArray w:=by
 cases x <;> (try (simp[fx]at h;done))
 case slice a len cap=>
  cases a with
  |none=>
   simp only[fx,ej,uy]at h ⊢;have:news=[]:=by have:=h.1;cases news <;> simp at this ⊢
   subst this;simp
  |some ad=>
   simp only[fx,loadCells]at h ⊢;obtain⟨l,r,h1,h2,h3⟩:=Zz ad (n*sz) 0 #[] _ _ h (k*sz) (cf _ hk);rw[h3];have h1':news=l++r:=by simpa using h1
   simp[h1',<-h2]
 case string s=>
  obtain⟨h1,rfl⟩:=hlen s rfl;simp only[fx,ej,uy,and_true]at h ⊢;have e:news=(s.extract 0 n).data.toList.map fun b=>kx .u8 b.toNat:=by have:=congrArg Array.toList h;simpa using this.symm
  subst e;apply Array.toList_inj.1;simp only[Array.toList_map,py,rh,<-List.map_take];congr 1;rw[sb,sb];simp[Array.toList_extract,List.extract_eq_take_drop,List.take_take,sj hk]
def Dk (cs:List C) (lo n:Nat) (ys:List C):List C:=cs.take lo++ys.take n++cs.drop (lo+min ys.length n)
theorem UM {cs:List C} {lo n:Nat} {ys:List C} (h:lo+n<=cs.length):(Dk cs lo n ys).length=cs.length:=by simp[Dk];omega
theorem q0V (hP:BS P=true) (c:AY Γ w s) {o:Oper} {a:Act} {x y:Operand} {t t':TypeId} {k:Key} {q:List Nat} {lo n cp m:Nat} {X Y:V} {cc:C} {ys:List C} {eb:Nat} {e:Ty}
  (ho:o.op= .call {callee:=.builtin .copy,args:=#[x,y],argTypes:=#[t,t']}) (ht:ty P t= .slice eb e)
  (yi:s.obj k=some (.box X)) (hX:X.at q= .d (.arr m e) cc) (hd:X.ty.CP=true) (h0:0<n) (hz:Cb P (BK P t)=true)
  (hx:AK Γ (.sr k q lo n (some cp) eb e) (a.eval x)) (hy:AK Γ Y (a.eval y)) (hel:Ki P s t' eb e Y ys):
  BU P o a w (BX Γ w {s with loc:=(k,.box (X.setAt q (.d (.arr m e) (.agg (Dk cc.elems lo n ys)))))::s.loc} (.d (.int .i64) (.int (min ys.length n:Nat)))):=by
 obtain⟨hu,he,heb,hE⟩:=MD hP ht;obtain⟨m',news,hs,r1,r2,r3,r4⟩:=TS c hy hel;rcases Hx hx with⟨h1,_⟩|⟨b,τ0,o0,M,cap,aa,a1,a2,a3,hv,a4,a5,a6,a7,a8,_⟩;{cases h1};obtain⟨b2,cells,E,e1,e2,e3,e4,e5,e6,e7,e8⟩:=c.own a1 yi;obtain⟨fr0,e4,zb⟩:=e4;rw[a1]at e1;cases e1;obtain⟨g1,g2,g3⟩:=e6.at_ a2 (by rw[hX];simp) e7;have hcl:(chunk cells.toList 0 X.ty.size).length=X.ty.size:=Ek _ _ _ (by simpa using e5);rw[hcl]at g2;rw[hX]at g1 g3;simp only[qk,qj]at g1;obtain⟨rfl,_⟩:=g1;rw[FB _ _ _ _ _ g2,bf]at g3;simp only[AA,AU]at g3;obtain⟨cs,rfl,q1,q2,q3,q4⟩:=g3;simp only[ax,gu]at*;obtain⟨i,z,hi,hzz,hzo,z8s⟩:=MJ hz;have hsz:i.size=e.size:=by have:=Dq hP 11 (BK P t);rw[he,this];simp[iv,hi]
 have haa:aa=some ⟨b,o0+lo*e.size,none⟩:=by rcases a4 with a4|a4;{omega};{exact a4}
 subst haa;have hnl:news.length=m'*e.size:=hs.newsLen;have hk1:min m' n<=m':=Nat.min_le_left _ _;have hk2:min m' n<=n:=Nat.min_le_right _ _
 have hft:=q12 (k:=min m' n) hs.cells hnl hk1 (fun st hst=>by
  rcases hel with⟨_,h2|⟨rfl,_⟩⟩|⟨_,hYs,h3,h4,h5⟩
  · -- a slice is no string
   exfalso;obtain⟨_,_,_,h6⟩:=yL hy h2;rw[hst]at h6;cases h6
  ·rw[GM hy]at hst;cases hst
  ·obtain⟨c0,rfl⟩:=V.Mv hYs;obtain⟨h6,_,h7⟩:=IQ hy;rw[h6]at hst;cases hst;have:m'=c0.toStr.length:=by rw[<-r1,h5];simp[V.toStr]
   refine⟨by rw[this];simp[iw],by rw[h3];rfl⟩)
 have htl:(news.take (min m' n*e.size)).length=min m' n*e.size:=by have:=cf e.size hk1;simp;omega
 have hMs:(lo+n)*e.size<=m*e.size:=cf _ a3;have hks:min m' n*e.size<=n*e.size:=cf _ hk2;rw[da]at hMs;have z8m:o0+lo*e.size+0+(news.take (min m' n*e.size)).length<=cells.size:=by rw[htl];omega
 have hst:=eI P b (o0+lo*e.size) E fr0 (news.take (min m' n*e.size)) 0 cells w e4 zb z8m (fun v hv=>hs.one v (List.mem_of_mem_take hv));have zc:(vw #[t,t'] o.type #[.slice (some ⟨b,o0+lo*e.size,none⟩) n cap,a.eval y]).run P w= .ok (goInt ((min m' n:Nat):Int)) (w.setRow b (Bx cells.toList (o0+lo*e.size) (news.take (min m' n*e.size))).toArray):=by
  simp only[Nat.add_zero]at hst;simp[vw,run_underlying hu,hs.len,sizeOf,typeInfo,hi,hsz,hft,hst,Bx]
  try (exact congrArg goInt (by rw[show m'.min n=min m' n from rfl];omega))
 -- the array anew
 have hl0:o0+lo*e.size+(news.take (min m' n*e.size)).length<=cells.toList.length:=by rw[htl];simp;omega
 have hs2:(Bx cells.toList (o0+lo*e.size) (news.take (min m' n*e.size))).toArray.size=cells.size:=by simp only[iq,Ia hl0];simp
 have yo:chunk (Bx cells.toList (o0+lo*e.size) (news.take (min m' n*e.size))) o0 (m*e.size)=Bx (chunk cells.toList o0 (m*e.size)) (lo*e.size) (news.take (min m' n*e.size)):=
  W1 (by simp;omega) (by rw[htl];omega) rfl
 have hsl:(Bx (chunk cells.toList o0 (m*e.size)) (lo*e.size) (news.take (min m' n*e.size))).length=m*e.size:=by rw[Ia (by rw[q2,htl];omega),q2]
 have hcs:(Dk cs lo n ys).length=m:=by rw[UM (by omega),q1]
 have z9A:∀j c',(Dk cs lo n ys)[j]? =some c'->AU Γ.H e (chunk (Bx (chunk cells.toList o0 (m*e.size)) (lo*e.size) (news.take (min m' n*e.size))) (j*e.size) e.size) c':=by
  intro j c' hj;have hjl:j<m:=by rw[<-hcs];exact(cd.1 hj).1
  have hjm:(j+1)*e.size<=m*e.size:=cf _ hjl;rw[da]at hjm;have hlo:lo<=cs.length:=by omega
  unfold Dk at hj;by_cases h1:j<lo;{rw[gd,ft (by simp;omega),fh,if_pos h1]at hj;have y0y:(j+1)*e.size<=lo*e.size:=cf _ h1;rw[da]at y0y;rw[Qo (by rw[q2,htl];omega) (.inl (by omega))];exact q4 j c' hj}
  ·by_cases h2:j<lo+min ys.length n
   ·rw[gd,gh (by simp;omega),ft (by simp;omega)]at hj;simp only[jh,sj hlo]at hj;rw[fh]at hj;split at hj
    ·rename_i hjn;have h3:=r4 _ _ hj;have hjk:j-lo<min m' n:=by rw[r1]at h2;omega
     have y0z:(j-lo+1)*e.size<=min m' n*e.size:=cf _ hjk;rw[da]at y0z;have e9:j*e.size=lo*e.size+(j-lo)*e.size:=by rw[<-da];congr 1;omega
     have e10:chunk (Bx (chunk cells.toList o0 (m*e.size)) (lo*e.size) (news.take (min m' n*e.size))) (j*e.size) e.size=chunk news ((j-lo)*e.size) e.size:=by apply fb;intro u;rw[EP,EP];split;{rename_i hu2;rw[Gi (by rw[q2,htl];omega),if_pos (by rw[htl];omega),fh,if_pos (by omega)];congr 1;omega};{rfl}
     rw[e10];exact h3
    ·cases hj
   ·rw[gh (by simp;omega),iz]at hj;simp only[br,jh,sj hlo]at hj;have hj2:cs[j]? =some c':=by rw[<-hj];congr 1;have:min n ys.length=min ys.length n:=Nat.min_comm _ _;omega
    have h5:min m' n*e.size+lo*e.size<=j*e.size:=by rw[<-da];refine cf _ ?_;rw[r1]at h2;omega
    rw[Qo (by rw[q2,htl];omega) (.inr (by rw[htl];omega))];exact q4 j c' hj2
 have hY:AA Γ (some k) q (.d (.arr m e) (.agg (Dk cs lo n ys))) (Bx (chunk cells.toList o0 (m*e.size)) (lo*e.size) (news.take (min m' n*e.size))):=by simp only[AA,AU];exact⟨_,rfl,hcs,hsl,Ph hcs hsl z9A,z9A⟩
 obtain⟨s1,s2,s3⟩:=AA.setAt (q:=q) (p:=[]) (y:=.d (.arr m e) (.agg (Dk cs lo n ys))) e6 e7 hd a2 (by rw[hX];simp) (by simpa using hY) rfl;have hsp:Bx cells.toList (o0+lo*e.size) (news.take (min m' n*e.size))=Bx cells.toList o0 (Bx (chunk cells.toList o0 (m*e.size)) (lo*e.size) (news.take (min m' n*e.size))):=by apply fb;intro u;rw[Gi hl0,Gi (by rw[hsl];simp;omega),hsl,htl];by_cases hu1:o0<=u/\u<o0+m*e.size;{rw[if_pos hu1,Gi (by rw[q2,htl];omega),htl];by_cases hu2:o0+lo*e.size<=u/\u<o0+lo*e.size+min m' n*e.size;{rw[if_pos hu2,if_pos (by omega)];congr 1;omega};{rw[if_neg hu2,if_neg (by omega),EP,if_pos (by omega)];congr 1;omega}};{rw[if_neg hu1,if_neg (by omega)]}
 have c':=c.write (x':=X.setAt q (.d (.arr m e) (.agg (Dk cs lo n ys)))) (ym:=(Bx cells.toList (o0+lo*e.size) (news.take (min m' n*e.size))).toArray) (w':=w.setRow b (Bx cells.toList (o0+lo*e.size) (news.take (min m' n*e.size))).toArray) yi a1
  (setRow_heap w b cells _ E fr0 e4) (by rw[hs2];exact zb) (fun b' hb'=>setRow_other w b b' _ hb') rfl (by rw[s2,hs2];exact e5)
  (by rw[s2,py,hsp,yR _ _ (by rw[hsl];exact g2) (by simpa using e5)];exact s1) s2 s3 (V.Vt q X _ e8 rfl) (fun arr T fr h=>by rw[e4]at h;cases h;exact hs2)
 refine BU.val (v:=goInt ((min m' n:Nat):Int)) (w':=w.setRow b (Bx cells.toList (o0+lo*e.size) (news.take (min m' n*e.size))).toArray) ?_ ⟨_,GLe.refl _,Bg.refl _,c',?_⟩;{unfold execOp;simp[ho,resolve,invoke,builtin,hv,zc]}
 ·rw[r1];show AK _ _ (.int .i64 ((min m' n:Nat):Int))
  exact EB (by have e1:IntKind.i64.min= -9223372036854775808:=by decide
               omega) (by have e1:IntKind.i64.max=9223372036854775807:=by decide
                          unfold maxLen at r2;omega)
end
end
section
section
variable {Γ:G} {w:World} {s:S}
theorem AY.freeze (c:AY Γ w s) {b:Nat} {cells:Array Value} {T:TypeId} {fr:Nat × Nat} (hw:w.heap[b]? =some (.cells cells T fr)) (hH:Γ.H b=none) (hι:∀k τ o,Γ.ι k=some (b,τ)->s.obj k=some o->o.FL=true):
  AY (Γ.Ej b cells.toList) w s/\Bg Γ (Γ.Ej b cells.toList)/\Γ.H.le (Γ.Ej b cells.toList).H:=by
 have oH:∀b',b'≠b->(Γ.Ej b cells.toList).H b'=Γ.H b':=fun b' hb=>Fj _ _ hb;have nb:∀b',Γ.H b'≠none->b'≠b:=fun b' h e=>h (e ▸ hH);have hle:Γ.H.le (Γ.Ej b cells.toList).H:=fun b' l' h=>⟨[],by rw[oH b' (nb b' (by rw[h];simp)),h];simp⟩;have hp:Bg Γ (Γ.Ej b cells.toList):=⟨hle,fun _ _ h=>h,fun t x L h=>⟨x,L,h,bx _,fun _=>rfl⟩,fun _ _ h=>h⟩;refine⟨?_,hp,hle⟩;refine c.change hp rfl rfl rfl rfl (fun b' l' h=>?_) (fun _ _=>rfl) (fun b' o sz h=>?_) (fun k o h=>?_) (fun _ h _=>h) c.dom c.hσ c.inj (fun t L h=>?_) c.yu (bx _);{by_cases hb:b'=b;{subst hb;simp[G.Ej,CT]at h;subst h;exact⟨cells,T,fr,[],hw,by simp⟩};{rw[oH b' hb]at h;exact c.hH b' l' h}};{have h':Γ.κ b'=some (o,sz):=h;obtain⟨a1,a2,a3⟩:=c.hκ b' o sz h';exact⟨a1,by rw[oH b' (nb b' a2)];exact a2,a3⟩};{refine .inl ⟨h,fun hd=>⟨fun b' p sz hb=>⟨rfl,?_⟩,fun b' τ hb=>⟨rfl,?_⟩⟩⟩;{exact oH b' (nb b' (c.hκ b' _ sz hb).2.1)};{obtain⟨a1,_⟩:=c.FR hb h hd;rw[oH b' (fun e=>by have:=hι k τ o (e ▸ hb) h;rw[this]at hd;cases hd)];exact a1}};{obtain⟨x,h1,h2⟩:=c.tok t L h;refine⟨x,h1,fun b' pos sz hx=>?_⟩;obtain⟨⟨l,a1,a2⟩,a3⟩:=h2 b' pos sz hx;exact⟨⟨l,by rw[oH b' (nb b' (by rw[a1];simp))];exact a1,a2⟩,a3⟩}
theorem AY.qS (c:AY Γ w s) {k:Key} {M:Nat} {e:Ty} {cc:C} (ho:s.obj k=some (.box (.d (.arr M e) cc))):
  ∃Γ',GLe Γ Γ'/\Bg Γ Γ'/\AY Γ' w {s with loc:=(k,.dead (.arr M e))::s.loc}/\
   ∀{lo n:Nat} {cp:Option Nat} {eb:Nat} {v:Value},AK Γ (.sr k [] lo n cp eb e) v->AK Γ' (.d (.slice eb e) (.slice ((cc.elems.drop lo).take n))) v:=by
 have ck:=c.kill ho;have nul:∀{Γ':G} {lo n:Nat} {cp:Option Nat} {eb:Nat} {v:Value},(cp=none/\n=0/\∃a,v= .slice a 0 0)->AK Γ' (.d (.slice eb e) (.slice ((cc.elems.drop lo).take n))) v:=by intro Γ' lo n cp eb v h;obtain⟨_,rfl,a,rfl⟩:=h;refine(Ch rfl rfl).2 ⟨?_,rfl⟩;simp only[AA];exact Eg (by simp) (bx _) (dr _) (by rw[gq];exact dr _) (.inl rfl)
 rcases c.obj k _ ho with⟨hn,_⟩|yp;{refine⟨Γ,.refl Γ,.refl Γ,ck,fun hr=>?_⟩;rcases Hx hr with h|⟨b,τ0,o,m,cap,a,h1,_⟩;{exact nul h};{rw[hn]at h1;cases h1}}
 ·obtain⟨b,cells,T,h1,h2,h3,⟨fr0,h4,zb⟩,h5,h6,h7,h8⟩:=yp;have hdk:s.CY k=false:=by rw[FV ho];rfl
  obtain⟨q1,q2,q3⟩:=ck.freeze h4 h2 (fun k' τ o hk' ho'=>by
   rcases c.inj k' k b _ _ hk' h1 with e1|⟨e1|e1,_⟩;{subst e1;rw[DZ,if_pos rfl]at ho';cases ho';rfl};{rw[DZ]at ho';split at ho';{cases ho';rfl};{rw[FV ho']at e1;exact e1}}
   ·rw[hdk]at e1;cases e1)
  refine⟨_,⟨q3,rfl,fun b' hb'=>Fj _ _ fun e=>(by subst e;exact hb' h3),fun _ _ h=>h,rfl,rfl,fun _ _ h=>h,fun _ h=>h⟩,q2,q1,fun{lo n cp eb v} hr=>?_⟩;rcases Hx hr with h|⟨b',τ0,o,m,cap,a,a1,a2,a3,hv,a4,a5,a6,a7,_,_⟩;{exact nul h};rw[h1]at a1;cases a1;simp only[qk,Ty.walk,ee,fw,qj]at a2;obtain⟨rfl,rfl,_⟩:=a2;simp only[qk,AA,AU]at h6;obtain⟨cs,rfl,r1,r2,r3,r4⟩:=h6;simp only[ax,gu]at*;have hl:((cs.drop lo).take n).length=n:=by simp;omega
  have hmul:(lo+n)*e.size<=M*e.size:=cf _ a3;rw[da]at hmul;subst hv;refine(Ch rfl rfl).2 ⟨?_,rfl⟩;simp only[AA];refine Eg hl a5 a6 a7 ?_;by_cases hn:n=0;{exact .inl hn};{refine .inr ⟨b,lo*e.size,cells.toList,?_,Dc _ _ _,by simp;simp[qk,gu]at h5;omega,fun i c' hi=>?_⟩;{rcases a4 with a4|a4;{omega};{rw[a4,bf]}};{rw[fh]at hi;split at hi;{rename_i hin;rw[iz]at hi;have h9:=r4 _ _ hi;have hle:(lo+i+1)*e.size<=M*e.size:=cf _ (by omega);rw[da,da]at hle;rw[da]at h9;rw[FB _ _ _ _ _ (by omega),bf]at h9;exact h9.mono q3};{cases hi}}}
def De (s:S) (x:V):V:=
 match x with
 | .sr (.l j) q lo n cp eb e=>(match q with| []=>(match s.obj (.l j)with|some (.box (.d τ cc))=>(match τ with| .arr M e'=>if e'=e then .d (.slice eb e) (.slice ((cc.elems.drop lo).take n))else x|_=>x)|_=>x)|_=>x)|x=>x
def GY:V->List Nat
 | .sr (.l j) [] _ _ _ _ _=>[j]|_=>[]
def Gx:List V->List Nat
 | []=>[]|x::xs=>GY x++Gx xs
def Ec:List Nat->S->S
 | [],s=>s|j::l,s=>Ec l (match s.obj (.l j)with|some (.box (.d τ _))=>(match τ with| .arr M e=>{s with loc:=(.l j,.dead (.arr M e))::s.loc}|_=>s)|_=>s)
theorem qX {s:S} {x:V} (h:∀j,j∈GY x->False):De s x=x:=by unfold De;split;{split;{rename_i j _ _ _ _ _ _;exact(h j (fj.2 rfl)).elim};{rfl}};{rfl}
theorem VU:∀(js:List Nat) (s:S) {Γ:G},AY Γ w s->∃Γ',GLe Γ Γ'/\Bg Γ Γ'/\AY Γ' w (Ec js s)/\∀(x:V) (v:Value),AK Γ x v->(∀j∈GY x,j∈js)->AK Γ' (De s x) v
 | [],s,Γ,c=>⟨Γ,.refl Γ,.refl Γ,c,fun x v hr hx=>by rw[qX (fun j hj=>by simpa using hx j hj)];exact hr⟩|j::l,s,Γ,c=>by
  have skip:(∀x:V,GY x=[j]->De s x=x)->∃Γ',GLe Γ Γ'/\Bg Γ Γ'/\AY Γ' w (Ec l s)/\∀(x:V) (v:Value),AK Γ x v->(∀i∈GY x,i∈j::l)->AK Γ' (De s x) v:=by intro hs;obtain⟨Γ',g,p,c',h⟩:=VU l s c;refine⟨Γ',g,p,c',fun x v hr hx=>?_⟩;by_cases hj:GY x=[j];{rw[hs x hj];exact hr.Bn p};{refine h x v hr fun i hi=>?_;have:=hx i hi;simp only[ij]at this;rcases this with rfl|h2;{exfalso;apply hj;unfold GY at hi ⊢;split at hi;{simp at hi;subst hi;rfl};{simp at hi}};{exact h2}}
  have inv:∀x:V,GY x=[j]->∃lo n cp eb e,x= .sr (.l j) [] lo n cp eb e:=by intro x hx;unfold GY at hx;split at hx;{simp at hx;subst hx;exact⟨_,_,_,_,_,rfl⟩};{cases hx}
  simp only[Ec];split
  ·rename_i τ cc ho;split
   ·rename_i M e;obtain⟨Γ1,g1,p1,c1,h1⟩:=c.qS ho;obtain⟨Γ',g,p,c',h⟩:=VU l _ c1;refine⟨Γ',g1.trans g,p1.trans p,c',fun x v hr hx=>?_⟩;by_cases hj:GY x=[j];{obtain⟨lo,n,cp,eb,e',rfl⟩:=inv x hj;simp only[De,ho];by_cases he:e=e';{rw[if_pos he];subst he;exact(h1 hr).Bn p};{rw[if_neg he];exact hr.Bn (p1.trans p)}}
    ·have h2:=h x v (hr.Bn p1) fun i hi=>by have:=hx i hi;simp only[ij]at this;rcases this with rfl|h2;{exfalso;apply hj;unfold GY at hi ⊢;split at hi;{simp at hi;subst hi;rfl};{simp at hi}};{exact h2}
     have:De {s with loc:=(Key.l j,O.dead (.arr M e))::s.loc} x=De s x:=by
      cases x <;> (try rfl);rename_i k q lo n cp eb e2;cases k with
      |g k=>rfl|l i=>
       cases q with
       |cons a q=>rfl|nil=>
        have hij:j≠i:=fun e=>hj (by subst e;rfl);simp only[De];rw[DZ,if_neg (by intro e;cases e;exact hij rfl)]
     rw[<-this];exact h2
   ·exact skip fun x hx=>by obtain⟨lo,n,cp,eb,e,rfl⟩:=inv x hx;simp only[De,ho]
  ·exact skip fun x hx=>by obtain⟨lo,n,cp,eb,e,rfl⟩:=inv x hx;simp only[De]
end
end
section
mutual
def Ty.ER:Ty->Bool
 | .int _| .bool| .str=>true| .arr _ e=>e.ER| .struct _ _ fs=>Ty.Vs fs|_=>false
def Ty.Vs:List Ty->Bool
 | []=>true|t::ts=>t.ER&&Ty.Vs ts
end
mutual
theorem AU.ER {H H':Hp}:∀{τ:Ty} {vs:List Value} {c:C},τ.ER=true->AU H τ vs c->AU H' τ vs c
 | .int _,_,_,_,r=>by simpa[AU]using r
 | .bool,_,_,_,r=>by simpa[AU]using r
 | .str,_,_,_,r=>by simpa[AU]using r
 | .arr n e,vs,c,h,r=>by simp only[AU]at r ⊢;obtain⟨cs,rfl,h1,h2,h4,h3⟩:=r;exact⟨cs,rfl,h1,h2,h4,fun i c hi=>AU.ER (by simpa[Ty.ER]using h) (h3 i c hi)⟩
 | .struct sz os fs,vs,c,h,r=>by simp only[AU]at r ⊢;obtain⟨cs,rfl,h1,h4,h2⟩:=r;exact⟨cs,rfl,h1,h4,CN.ER (by simpa[Ty.ER]using h) h2⟩
 | .slice _ _,_,_,h,_| .ptr,_,_,h,_| .map,_,_,h,_| .func,_,_,h,_| .iface,_,_,h,_| .opq _,_,_,h,_=>by simp[Ty.ER]at h
theorem CN.ER {H H':Hp}:∀{fs:List Ty} {os:List Nat} {vs:List Value} {cs:List C},Ty.Vs fs=true->CN H fs os vs cs->CN H' fs os vs cs
 | [],_,_,_,_,r=>by simpa[CN]using r
 |f::fs,o::os,vs,cs,h,r=>by simp only[Ty.Vs,bg]at h;simp only[CN]at r ⊢;obtain⟨c,cs',rfl,h1,h2,h3⟩:=r;exact⟨c,cs',rfl,h1,AU.ER h.1 h2,CN.ER h.2 h3⟩
 |_::_,[],_,_,_,r=>by simp[CN]at r
end
def V.Pe:List V->Bool
 | []=>true|x::xs=>(match x with| .d τ _=>τ.ER|_=>false)&&V.Pe xs
def V.ER:V->Bool
 | .d τ _=>τ.ER| .tup vs=>V.Pe vs|_=>false
theorem wY {Γ Γ':G}:∀{xs:List V} {vs:List Value},V.Pe xs=true->Bb Γ xs vs->Bb Γ' xs vs
 | [],vs,_,h=>by simpa[Bb]using h
 |x::xs,vs,hx,h=>by simp only[V.Pe,bg]at hx;simp only[Bb]at h ⊢;obtain⟨v,vs',rfl,h1,h2,h3⟩:=h;refine⟨v,vs',rfl,?_,h2,wY hx.2 h3⟩;cases x <;> simp at hx;simp only[AA]at h1 ⊢;exact h1.ER hx.1
theorem q77 {Γ Γ':G} {x:V} {v:Value} (hx:x.ER=true) (h:AK Γ x v):AK Γ' x v:=by cases x <;> simp[V.ER]at hx;{rw[EA]at h ⊢;exact⟨h.1.ER hx,h.2⟩};{simp only[AK]at h ⊢;obtain⟨vs,rfl,h⟩:=h;exact⟨vs,rfl,wY hx h⟩}
theorem q85 {x:V} (hx:x.ER=true) (n:Nat):x.Da n=x:=by
 cases x <;> simp[V.ER]at hx;{rfl}
 ·rename_i vs;simp only[V.Da];congr 1;have:∀(l:List V) (n:Nat),V.Pe l=true->Db n l=l:=by
   intro l
   induction l with
   |nil=>intros;rfl|cons x xs ih=>
    intro n h;simp only[V.Pe,bg]at h;simp only[Db];rw[ih _ h.2];cases x <;> simp at h <;> rfl
  exact this vs n hx
def G.Hh (w:World) (gl:Nat->Option (Ty × C)):G where
 H b:=match w.heap[b]? with|some (.cells arr _ _)=>some arr.toList|_=>none
 Z b:=w.heap[b]?
 ι _:=none
 τ _:=none
 κ _:=none
 gl:=gl
 oo:=oof w
 σ _:=none
def GP:Nat->S->V->V
 |0,_,_=>.any|f+1,s,x=>match x with| .sr k q lo n _ eb e=>(match s.obj k with|some (.box y)=>(match GP f s (y.at q)with| .d _ c=>.d (.slice eb e) (.slice ((c.elems.drop lo).take n))|_=>.any)|_=>.any)| .agg τ vs=>(match Eo (vs.map (GP f s))with|some cs=>.d τ (.agg cs)|none=>.any)|x=>bif x.plain then(match Cl x with|some c=>.d x.ty c|none=>.any)else .any
def Gh (s:S) (x:V):V:=GP 5 s x
theorem yP (s:S) (f:Nat) (x:V):GP f s x= .any\/∃τ c,GP f s x= .d τ c:=by
 cases f with
 |zero=>exact .inl rfl|succ f=>
  have other:∀x:V,(bif x.plain then(match Cl x with
   |some c=>V.d x.ty c|none=>.any)else .any)= .any\/∃τ c,(bif x.plain then(match Cl x with
   |some c=>V.d x.ty c|none=>.any)else .any)= .d τ c:=by
   intro x;cases x.plain with
   |false=>exact .inl rfl|true=>
    simp only[cond_true];split;{exact .inr ⟨_,_,rfl⟩};{exact .inl rfl}
  cases x <;> first
   |exact other _
   |(simp only[GP]
     repeat' split
     all_goals first|exact .inl rfl|exact .inr ⟨_,_,rfl⟩)
def Gn:List V->Bool
 | []=>true|x::xs=>(match x with| .d _ _=>true|_=>false)&&Gn xs
section
variable {P:Program} {Γ:G} {w:World} {s:S}
theorem ZJ (c:AY Γ w s) (gl:Nat->Option (Ty × C)):Γ.H.le (G.Hh w gl).H:=by intro b l h;obtain⟨arr,T,fr,r,h1,h2⟩:=c.hH b l h;exact⟨r,by simp only[G.Hh,h1,h2]⟩
theorem Ag.snap {Γ':G} {hm:Option Key} {g:V->V} (hg:∀(x:V) (p:List Nat) (vs:List Value) τ cc,AA Γ hm p x vs->g x= .d τ cc->x.ty=τ/\AU Γ'.H τ vs cc) (hd:∀x,g x= .any\/∃τ c,g x= .d τ c):
  ∀(xs:List V) (p:List Nat) (i:Nat) (τ:Ty) (vs:List Value) (cs:List C),Ag Γ hm p i τ xs vs->Eo (xs.map g)=some cs->Ag Γ' hm p i τ (xs.map g) vs
 | [],_,_,_,_,_,_,_=>by simp only[List.map_nil,Ag]
 |x::xs,p,i,τ,vs,cs,h,hc=>by
  simp only[Ag,List.map_cons,Eo]at h hc ⊢;obtain⟨⟨o,f,h1,h2,h3,h4⟩,h5⟩:=h;rcases hd x with e|⟨τ',c,e⟩;{rw[e]at hc;simp[Cl]at hc}
  ·cases e2:Eo (xs.map g)with
   |none=>rw[e,e2]at hc;simp[Cl]at hc|some cs'=>
    obtain⟨rfl,q2⟩:=hg x _ _ _ _ h4 e;refine⟨⟨o,f,h1,by rw[e];exact h2,h3,?_⟩,Ag.snap hg hd xs p (i+1) τ vs cs' h5 e2⟩;rw[e,<-h2]at*;simpa only[AA]using q2
theorem fD {s0:S} (c:AY Γ w s) (hs:∀k o,Γ.ι k≠none->s0.obj k=some o->s.obj k=some o) (gl:Nat->Option (Ty × C)) {hm:Option Key}:∀(f:Nat) (x:V) (p:List Nat) (vs:List Value) (τ:Ty) (cc:C),AA Γ hm p x vs->GP f s0 x= .d τ cc->x.ty=τ/\AU (G.Hh w gl).H τ vs cc
 |0,_,_,_,_,_,_,h=>by cases h
 |f+1,x,p,vs,τ,cc,hr,h=>by
  have hle:=ZJ c gl
  have other:(bif x.plain then(match Cl x with
   |some c=>V.d x.ty c|none=>.any)else .any)= .d τ cc->x.ty=τ/\AU (G.Hh w gl).H τ vs cc:=by
   intro h;cases hp:x.plain with
   |false=>rw[hp]at h;cases h
   |true=>
    rw[hp]at h;simp only[cond_true]at h;split at h;{rename_i c0 hc0;cases h;exact⟨rfl,(LC x hr hc0).mono hle⟩};{cases h}
  cases x <;> (try exact other h)
  case agg τ0 xs=>
   simp only[GP]at h;split at h
   ·rename_i cs hcs;cases h;refine⟨rfl,?_⟩;simp only[AA]at hr;obtain⟨a1,a2,a3,a4,a5⟩:=hr;have:AA (G.Hh w gl) hm p (.agg τ (xs.map (GP f s0))) vs:=by simp only[AA];exact⟨a1,a2,by rw[fg];exact a3,a4,a5.snap (fun x p vs τ cc=>fD c hs gl f x p vs τ cc) (yP s0 f) xs p 0 τ vs cs hcs⟩
    exact LC _ this (by simp only[Cl,hcs,Option.map_some])
   ·cases h
  case sr k q lo n cp eb e=>
   simp only[GP]at h;split at h
   ·rename_i y ho0;split at h
    ·rename_i τ1 c1 hy;cases h;refine⟨rfl,?_⟩;simp only[AA]at hr;rcases hr with⟨_,rfl,a,rfl⟩|⟨b,τ0,o0,m,cap,a1,a2,a3,⟨a,rfl,a4⟩,a5,a6,a7,_⟩;{exact Eg (by simp) (bx _) (dr _) (by rw[gq];exact dr _) (.inl rfl)};obtain⟨b',cells,T,g1,g2,g3,g4,g5,g6,g7,_⟩:=c.own a1 (hs k _ (by rw[a1];simp) ho0);obtain⟨fr0,g4,zb⟩:=g4;rw[a1]at g1;cases g1;obtain⟨q1,q2,q3⟩:=g6.at_ a2 (by intro e1;rw[e1]at hy;cases f <;> cases hy) g7;obtain⟨rfl,q3⟩:=fD c hs gl f _ _ _ _ _ q3 hy;rw[q1]at q3;simp only[AU]at q3;obtain⟨cs,rfl,r1,r2,r3,r4⟩:=q3;simp only[ax];rw[Ek _ _ _ (by simpa using g5)]at q2;have hlen:((cs.drop lo).take n).length=n:=by simp;omega
     have hmul:(lo+n)*e.size<=m*e.size:=cf _ a3;rw[da]at hmul;simp only[gu]at q2 r2 r4;have yq:o0+lo*e.size+n*e.size<=cells.toList.length:=by simp;omega
     refine Eg hlen a5 a6 a7 ?_;rcases oy n with h0|h0;{exact .inl h0};{have ha:a=some ⟨b,o0+lo*e.size,none⟩:=a4.resolve_left (by omega);refine .inr ⟨b,o0+lo*e.size,cells.toList,ha,by simp only[G.Hh,g4],yq,fun i c' hi=>?_⟩;rw[fh]at hi;split at hi;{rename_i hin;rw[iz]at hi;have:=r4 _ _ hi;have z9e:(lo+i+1)*e.size<=m*e.size:=cf _ (by omega);rw[da,da]at z9e;rw[da]at this;rw[FB _ _ _ _ _ (by omega),FB _ _ _ _ _ (by omega)]at this;rw[show 0+(o0+(lo*e.size+i*e.size))=o0+lo*e.size+i*e.size by omega]at this;exact this};{cases hi}}
    ·cases h
   ·cases h
theorem q89 {s0:S} (c:AY Γ w s) (hs:∀k o,Γ.ι k≠none->s0.obj k=some o->s.obj k=some o) (gl:Nat->Option (Ty × C)) {x:V} {v:Value} {τ:Ty} {cc:C} (hr:AK Γ x v) (h:Gh s0 x= .d τ cc):AK (G.Hh w gl) (.d τ cc) v:=by
 have hp:x.plain=true:=by cases x <;> first|rfl|cases h
 obtain⟨h1,h2⟩:=(Ca hp).1 hr;obtain⟨rfl,h3⟩:=fD c hs gl _ _ _ _ _ _ h1 h;exact EA.2 ⟨h3,h2⟩
theorem q2a (hgl:∃gl0,Γ.gl=gl0) (c:AY Γ w s) {xs:List V} (hx:Gn xs=true):AY (G.Hh w Γ.gl) w (S.start xs fun _=>none):=by
 have htk:∀(l:List V) (n:Nat),Gn l=true->Gk n l=[]:=by
  intro l
  induction l with
  |nil=>intros;rfl|cons x xs ih=>
   intro n h;simp only[Gn,bg]at h;simp only[Gk];rw[ih _ h.2];cases x <;> simp at h <;> rfl
 refine⟨fun b l h=>?_,fun b o h=>h,fun b o sz h=>(by cases h),fun k o h=>?_,fun k h=>absurd rfl h,fun k k' b τ τ' h _=>(by cases h),fun t L h=>?_,fun t h=>absurd rfl h,fun g τ cc h=>?_,rfl,fun b sz h=>(by cases h)⟩;{simp only[G.Hh]at h;split at h;{rename_i arr T fr hw;cases h;exact⟨arr,T,fr,[],hw,by simp⟩};{cases h}};{exfalso;cases k <;> simp[S.start,jt,Cs,AZ]at h};{exfalso;simp[S.start,S.live,Ed,htk xs 1000 hx,look]at h};{obtain⟨l,h1,h2,h3⟩:=c.hgl g τ cc h;obtain⟨r,hr⟩:=ZJ c Γ.gl g l h1;refine⟨l++r,hr,by simp;omega,?_⟩;rw[OU _ _ _ _ (by omega)];exact h3.mono (ZJ c Γ.gl)}
theorem c9:AOk fun _=>none:=fun _ _ h=>by cases h
theorem q2b {w':World} {gl:Nat->Option (Ty × C)} {Γ':G} {s':S} (gle:GLe (G.Hh w gl) Γ') (c':AY Γ' w' s'):Ext w w':=by
 have old:∀b,b<w.heap.size->w'.heap[b]? =w.heap[b]?:=fun b hb=>by have h1:w.heap[b]? =some w.heap[b]:=dw hb;rw[h1];exact c'.hZ b _ (by rw[gle.Z];exact h1)
 refine⟨?_,old,?_⟩;{rcases oy w.heap.size with h|h;{omega};{have h1:=old (w.heap.size-1) (by omega);rw[dw (show w.heap.size-1<w.heap.size by omega)]at h1;have:=IK h1;omega}};{rw[c'.hoo,gle.oo];rfl}
theorem q02 {X:Cx} (hgl:Γ.gl=X.gl) (c:AY Γ w s) {o:Oper} {a:Act} {fo:Operand} {f:FuncId} {as:Array Operand} {ts:Array TypeId} {xs:List V} {v:V}
  (ho:o.op= .call {callee:=.value fo,args:=as,argTypes:=ts}) (z9i:JR X.P f=true) (hf:AK Γ (.fn f []) (a.eval fo))
  (hlen:xs.length=as.toList.length) (hr:∀(i:Nat) x y,xs[i]? =some x->as.toList[i]? =some y->AK (G.Hh w Γ.gl) x (a.eval y)) (hx:Gn xs=true) (D:Cc X f xs (fun _=>none) v []) (hv:v.ER=true):
  BU X.P o a w (BX Γ w s v):=by
 obtain⟨cv,hfv,hcl,_⟩:=Wh hf;have hcv:cv=#[]:=by apply gr;simpa using hcl.symm
 subst hcv;have run:(execOp a.eval o).run X.P w= .ok (.enter f (as.map a.eval)) w:=by unfold execOp;simp[ho,resolve,hfv,uv,invoke,xP z9i]
 have hsl:∀(l:List V) (n:Nat),Gn l=true->Db n l=l:=by
  intro l
  induction l with
  |nil=>intros;rfl|cons x xs ih=>
   intro n h;simp only[Gn,bg]at h;simp only[Db];rw[ih _ h.2];cases x <;> simp at h <;> rfl
 refine BU.enter run ?_;refine(D (fun _=>none) (G.Hh w Γ.gl) w (as.map a.eval) (fun _ _ h=>h) hgl ⟨q2a ⟨_,rfl⟩ c hx,c9⟩ (by simpa using hlen) fun i x u hx' hu=>?_).mono ?_
 ·rw[hsl xs 1000 hx]at hx';rw[vb]at hu;cases hy:as[i]? with
  |none=>rw[hy]at hu;cases hu
  |some y=>
   rw[hy]at hu;cases hu;exact hr i x y hx' (by simpa using hy)
 ·rintro e w' ⟨u,Γ',rfl,gle,c',hv'⟩;rw[q85 hv]at hv';exact⟨u,rfl,BX.ext c (q2b gle c') (q77 hv hv')⟩
end
end
section
def YN:Value->V
 | .int k n=>.d (.int k) (.int n)| .bool b=>.d .bool (.bool b)| .string s=>.d .str (.str s.data.toList)| .pointer none=>.d .ptr .nil| .slice none 0 0=>.ye| .map none=>.d .map .nil| .nilFunc=>.d .func .nil| .nilIface=>.d .iface .nil|_=>.any
def YM:Value->Bool
 | .int k n=>decide (k.min<=n/\n<=k.max)| .string s=>decide (s.data.toList.length<=140737488355328)|_=>true
def WB:Operand->Bool
 | .const v=>YM v|_=>true
def IP (n:Nat) (o:Oper):Bool:=
 o.op.operands.all WB&&(match o.dst with|some d=>decide (d<n)|none=>true)
def BL (gl:Nat->Option (Ty × C)) (s:S):Operand->V
 | .tmp t=>s.get t| .const v=>YN v| .global g=>match gl g with|some (τ,c)=>.yf τ c|none=>.any
 | .func f=>.fn f []
def Ck (md:List (Nat × Nat)) (d:Nat):Nat:=(look md d).getD 0
def S.add (s:S) (lo:List (Key × O)) (tn:List (Nat × Option Nat)):S:={s with loc:=lo++s.loc,tk:=tn++s.tk}
def Hw:List (Key × O)->Bool
 | []=>true|(.l _,_)::l=>Hw l|(.g _,_)::_=>false
def Ib (P:Program) (s:S) (t':TypeId) (eb:Nat) (e:Ty) (Y:V) (K:List C->Prop):Prop:=
 match ty P t' with
 | .slice _ _=>(match Y with| .ye=>K []|Y=>match FC s Y with|some (eb',e',ys)=>eb'=eb/\e'=e/\K ys|none=>False)| .str=>e= .int .u8/\eb=1/\Y.isStr/\K (Y.toStr.map fun b=>bc b.toNat)|_=>False
theorem TR {P:Program} (hP:BS P=true) {s:S} {t':TypeId} {eb:Nat} {e:Ty} {Y:V} {K:List C->Prop} (h:Ib P s t' eb e Y K):∃ys,K ys/\Ki P s t' eb e Y ys:=by unfold Ib at h;split at h;{rename_i eb0 e0 ht;obtain⟨E,hu,_⟩:=Ie hP ht;split at h;{exact⟨[],h,.inl ⟨⟨E,hu⟩,.inr ⟨rfl,rfl⟩⟩⟩};{split at h;{rename_i eb' e' ys he;obtain⟨rfl,rfl,hK⟩:=h;exact⟨ys,hK,.inl ⟨⟨E,hu⟩,.inl he⟩⟩};{exact h.elim}}};{rename_i ht;obtain⟨h1,h2,h3,hK⟩:=h;exact⟨_,hK,.inr ⟨Kk ht,h3,h1,h2,rfl⟩⟩};{exact h.elim}
def Ny (X:Cx) (f:FuncId) (xs:List V) (v:V):Prop:=
 ∀(Γ:G) (w:World) (args:Array Value),xs.length=args.size->(∀(i:Nat) x u,xs[i]? =some x->args[i]? =some u->AK Γ x u)->∃u,(callFunc f args).run X.P w= .ok (.value u) w/\AK Γ v u
mutual
def V.pks:V->List Key
 | .ptr k _ _| .mp k=>[k]| .sr k _ _ _ (some _) _ _=>[k]| .agg _ vs=>V.HU vs|_=>[]
def V.HU:List V->List Key
 | []=>[]|x::xs=>x.pks++V.HU xs
end
def Jk:Nat->List (Key × O)->List Key->List (Key × O)
 |0,_,_=>[]|n+1,loc,ks=>ks.flatMap fun k=>match AZ loc k with|some o=>(k,o)::(match o with| .box x=>Jk n loc x.pks|_=>[])|none=>[]
def S.see (base s:S) (xs:List V):S:={base with loc:=Jk 3 s.loc (V.HU xs)++base.loc}
def fF (y:V) (q:List Nat) (t τ:Ty) (K:V->Prop):Prop:=
 match y,t with
 | .d (.arr M e) c,.arr m e'=>q≠[]/\e'=e/\τ=e/\(Ty.arr m e).known=true/\q.getLastD 0+m<=M/\K (.d (.arr m e) (.agg ((c.elems.drop (q.getLastD 0)).take m)))|_,_=>False
def iop (X:Cx) (md:List (Nat × Nat)) (base:S) (dst:Nat) (o:Oper) (ρ:Operand->V) (s:S) (K:V->List (Key × O)->List (Nat × Option Nat)->Prop):Prop:=
 match o.op with
 | .load T x=>if Ck md dst=18 then(match ρ x with| .ptr k q τ=>(match s.obj k with|some (.box y)=>fF (y.at q.dropLast) q (ty X.P T) τ fun v=>K v [] []|_=>False)|_=>False)
  else(match ρ x with| .ptr k q τ=>(match s.obj k with|some (.box y)=>y.at q≠.any/\τ=ty X.P T/\τ.known=true/\K (view (y.at q)) [] []|_=>False)| .yf τ c=>τ=ty X.P T/\τ.known=true/\K (.d τ c) [] []|_=>False)
 | .alloc T=>Cb X.P T=true/\K (.ptr (.l dst) [] (ty X.P T)) [(.l dst,SS (ty X.P T) T)] []
 | .box _ x=>if Ck md dst=5 then(ρ x).plain=true/\(match Cl (ρ x)with|some cc=>K (.yf (ρ x).ty cc) [] []|none=>False)
   else(ρ x).plain=true/\(ρ x).BW=true/\K (.ptr (.l dst) [] (ρ x).ty) [(.l dst,.box (ρ x))] []
 | .buildSlice t len parts=>(match ty X.P t with
   | .slice eb e=>(match len with
    |0=>parts.toList.length=0/\K (.emp eb e) [] []
    |len+1=>Cb X.P (BK X.P t)=true/\e.size≠0/\(len+1)*e.size<=16777216/\(len+1)*eb<=140737488355328/\parts.toList.map (·.1)=List.range (len+1)/\
      (if Ck md dst=20 then(∀x∈parts.toList.map (fun x=>ρ x.2),x.ty=e/\x.plain=true)/\V.DB (parts.toList.map fun x=>ρ x.2)=true/\K (.sr (.l dst) [] 0 (len+1) (some (len+1)) eb e) [(.l dst,.box (.agg (.arr (len+1) e) (parts.toList.map fun x=>ρ x.2)))] []else match Eo (parts.toList.map fun x=>ρ x.2)with|some cs=>(∀x∈parts.toList.map (fun x=>ρ x.2),x.ty=e/\x.plain=true)/\(if Ck md dst=4 then K (.sl eb e cs dst) [] [(dst,some cs.length)]else K (.d (.slice eb e) (.slice cs)) [] [])|none=>False))
   |_=>False)
 | .build T parts=>Cb X.P T=true/\(ty X.P T).CP=true/\(ty X.P T).isAgg=true/\MV (ty X.P T) (BI (ty X.P T)) (parts.toList.map fun p=>(p.1,ρ p.2))/\
   K (Js (ty X.P T) (BI (ty X.P T)) (parts.toList.map fun p=>(p.1,ρ p.2))) [] []
 | .makeSlice t l c=>(match ty X.P t with
   | .slice eb e=>Cb X.P (BK X.P t)=true/\(ρ l).Fv/\(ρ c).Fv/\0<=(ρ l).toInt/\(ρ l).toInt<=(ρ c).toInt/\(ρ c).toInt<=9223372036854775807/\(ρ c).toInt.toNat*eb<=140737488355328/\e.size≠0/\
     K (.sr (.l dst) [] 0 (ρ l).toInt.toNat (if Ck md dst=9 then none else some (ρ c).toInt.toNat) eb e) [(.l dst,.box (.d (.arr (ρ l).toInt.toNat e) (.agg (bp (ρ l).toInt.toNat (AI e)))))] []
   |_=>False)
 | .makeMap T r=>(match r,Ht X.P T with|none,some (kt,et)=>K (.mp (.l dst)) [(.l dst,.map (ty X.P kt) (ty X.P et) [])] []|_,_=>False)
 | .lookup T x i ok=>(match Ht X.P T,ρ x with
   |some (kt,et),.mp k=>(match s.obj k with
     |some (.map kτ _ es)=>kτ=ty X.P kt/\Cr X.P kt=true/\Cb X.P et=true/\(ρ i).Dr kτ/\
       K (if ok then .tup [Hr X.P et es (ρ i).toC,.d .bool (.bool (Fz es (ρ i).toC).isSome)]else Hr X.P et es (ρ i).toC) [] []
     |_=>False)
   |_,_=>False)
 | .call c=>(match c.callee with
   | .value fo=>(match ρ fo with
     | .fn f yg=>(JR X.P f=true/\c.argTypes.toList.length=c.args.toList.length/\
      ∃b v L,(b=base\/b=base.see s (FA (c.args.toList.map ρ) yg))/\Cc X f (DU X.P false s (Ju c.argTypes.toList yg) (FA (c.args.toList.map ρ) yg)) b.up v L/\Hw L=true/\
       K ((v.Da 2000).ren (dn dst) (rk dst)) (dnL dst L) (dnT dst (v.tkR 2000)))\/
      (yg=[]/\∃v,Ny X f (c.args.toList.map ρ) v/\K v [] [])\/
      (yg=[]/\JR X.P f=true/\∃v,Gn (c.args.toList.map fun y=>Gh s (ρ y))=true/\Cc X f (c.args.toList.map fun y=>Gh s (ρ y)) (fun _=>none) v []/\v.ER=true/\K v [] [])
     |_=>False)
   | .builtin .append=>(match c.args.toList,c.argTypes.toList with| [x,y],[t,t']=>Cb X.P (BK X.P t)=true/\(match ty X.P t,ρ x with| .slice eb e,.emp _ _=>Ib X.P s t' eb e (ρ y) fun ys=>if Ck md dst=3 then ys≠[]/\K (.sr (.l dst) [] 0 ys.length none eb e) [(.l dst,.box (.d (.arr ys.length e) (.agg ys)))] []else K (.sl eb e ys dst) [] [(dst,some ys.length)]| .slice eb e,.ye=>Ib X.P s t' eb e (ρ y) fun ys=>if Ck md dst=3 then ys≠[]/\K (.sr (.l dst) [] 0 ys.length none eb e) [(.l dst,.box (.d (.arr ys.length e) (.agg ys)))] []else K (.sl eb e ys dst) [] [(dst,some ys.length)]|_,_=>False)|_,_=>False)| .builtin .len=>(match c.args.toList,c.argTypes.toList with| [x],[T]=>(match ρ x with| .mp k=>(match Ht X.P T,s.obj k with|some _,some (.map _ _ es)=>es.length<=9223372036854775807/\K (.d (.int .i64) (.int es.length)) [] []|_,_=>False)|_=>pv X.P o.op ρ fun y=>K y [] [])|_,_=>pv X.P o.op ρ fun y=>K y [] [])|_=>pv X.P o.op ρ fun y=>K y [] [])
 | .convert src z8k x=>(match strOf X.P s src z8k (ρ x)with|some ys=>K (.d .str (.str (ys.map Kz))) [] []|none=>pv X.P o.op ρ fun y=>K y [] [])|_=>pv X.P o.op ρ fun y=>K y [] []
structure Compat (s' s base:S):Prop where
 obj:∀k o,s.obj k=some o->s'.obj k≠none->s'.obj k=some o
 base:∀k o,base.obj k=some o->s'.obj k=some o
structure Tm (s:S) (lo:List (Key × O)) (tn:List (Nat × Option Nat)):Prop where
 l:∀k o,AZ lo k=some o->s.obj k=none
 t:∀t x,look tn t=some x->s.known t=false
section
variable {X:Cx} {Γ:G} {w:World} {s:S}
theorem Compat.getObj {s' base:S} (h:Compat s' s base) (c:AY Γ w s') {k:Key} {o:O} (hι:Γ.ι k≠none) (ho:s.obj k=some o):s'.obj k=some o:=h.obj k o ho (c.dom k hι)
theorem lY {s' base:S} (h:Compat s' s base) (c:AY Γ w s') {x:V} {v:Value} {r:Nat × Ty × List C} (hr:AK Γ x v) (he:FC s x=some r):∃x',AK Γ x' v/\(x'= .ye->x= .ye)/\FC s' x'=some r:=by
 cases x <;> (try exact⟨_,hr,id,he⟩)
 case sr k q lo n cp eb e=>
  rcases Hx hr with⟨_,rfl,a,rfl⟩|⟨b,τ0,o,m,cap,a,hι,_⟩;{refine⟨.emp eb e,QJ,(fun h=>by cases h),?_⟩;simp only[FC]at he;split at he;{split at he;{rw[<-he];simp[FC,V.Fk]};{cases he}};{cases he}}
  ·refine⟨_,hr,id,?_⟩;simp only[FC]at he ⊢;cases ho:s.obj k with
   |none=>simp[ho]at he|some o=>
    rw[h.getObj c (by rw[hι];simp) ho];rw[ho]at he;exact he
theorem q9g {P:Program} {s' base:S} (h:Compat s' s base) (c:AY Γ w s') {src dst:TypeId} {Y:V} {v:Value} {ys:List C} (hr:AK Γ Y v) (he:strOf P s src dst Y=some ys):∃Y',AK Γ Y' v/\strOf P s' src dst Y'=some ys:=by
 cases hel:FC s Y with
 |some r=>
  obtain⟨Y',h1,h2,h3⟩:=lY h c hr hel;by_cases hY:Y= .ye;{subst hY;exact⟨_,hr,he⟩};refine⟨Y',h1,?_⟩;rw[<-he];unfold strOf;have hY':Y'≠.ye:=fun e=>hY (h2 e);rw[hel,h3];cases Y <;> first|exact absurd rfl hY|(cases Y' <;> first|exact absurd rfl hY'|rfl)
 |none=>
  refine⟨_,hr,?_⟩;unfold strOf at he ⊢;rw[hel]at he;split at he;{split at he;{rename_i h0;rw[if_pos h0];split at he;{exact he};{cases he}};{cases he}};{cases he}
theorem XA {P:Program} {s' base:S} (h:Compat s' s base) (c:AY Γ w s') {t':TypeId} {eb:Nat} {e:Ty} {Y:V} {v:Value} {ys:List C} (hr:AK Γ Y v) (he:Ki P s t' eb e Y ys):∃Y',AK Γ Y' v/\Ki P s' t' eb e Y' ys:=by rcases he with⟨h1,h2|h2⟩|h1;{obtain⟨Y',a,_,b⟩:=lY h c hr h2;exact⟨Y',a,.inl ⟨h1,.inl b⟩⟩};{exact⟨_,hr,.inl ⟨h1,.inr h2⟩⟩};{exact⟨_,hr,.inr h1⟩}
theorem Q2 {P:Program} (s s':S) (T:TypeId) (x:V):EO P false s T x=EO P false s' T x:=by cases x <;> simp[EO]
theorem Tz {P:Program} (s s':S):∀(Ts:List TypeId) (xs:List V),DU P false s Ts xs=DU P false s' Ts xs
 | [],_=>rfl|_::_,[]=>rfl|T::Ts,x::xs=>by simp only[DU,Q2 s s',Tz s s' Ts xs]
theorem WH (s:S):∀(xs:List V),DQ false s xs=[]
 | []=>rfl|x::xs=>by
  have:DD false s x=none:=by cases x <;> simp[DD]
  simp[DQ,this,WH s xs]
theorem tU:∀{L:List (Key × O)} {k:Key} {o:O},Hw L=true->AZ L (.g k)=some o->False
 | [],_,_,_,h=>by simp[AZ]at h
 |(.l n,_)::L,k,o,hl,h=>by simp[AZ]at h;exact tU (L:=L) (by simpa[Hw]using hl) h
 |(.g _,_)::_,_,_,hl,_=>by simp[Hw]at hl
theorem tT (d:Nat):∀{L:List (Key × O)} {j:Nat} {o:O},Hw L=true->AZ L (.l j)=some o->AZ (dnL d L) (.l (rk d j))=some (o.ren (dn d))
 | [],_,_,_,h=>by simp[AZ]at h
 |(.l n,o')::L,j,o,hl,h=>by
  simp only[AZ]at h;simp only[dnL,AZ,dn];by_cases e:n=j;{subst e;simp at h;subst h;simp}
  ·have e1:Key.l n≠.l j:=by intro h;cases h;exact e rfl
   have e2:Key.l (rk d n)≠.l (rk d j):=by intro h;simp[rk]at h;exact e h
   rw[if_neg e1]at h;rw[if_neg e2];exact tT d (L:=L) (by simpa[Hw]using hl) h
 |(.g _,_)::_,_,_,hl,_=>by simp[Hw]at hl
theorem q4b (d:Nat) (l:List (Nat × Option Nat)) (m:Nat):look (dnT d l) (rk d m)=look l m:=by rw[VZ,QP]
def Xc (X:Cx) (base:S) (o:Oper) (ρ:Operand->V) (s:S) (v:V) (lo:List (Key × O)) (tn:List (Nat × Option Nat)):Prop:=
 ∀(Γ:G) (w:World) (a:Act) (s':S),Γ.gl=X.gl->AY Γ w s'->Compat s' s base->Tm s' lo tn->(∀y∈o.op.operands,AK Γ (ρ y) (a.eval y))->BU X.P o a w (BX Γ w (s'.add lo tn) v)
theorem q06 (hP:BS X.P=true) {o:Oper} {ρa:Operand->V} {K:V->Prop} (h:pv X.P o.op ρa K):
  ∃v,K v/\∀(Γ:G) (w:World) (a:Act) (s':S),AY Γ w s'->(∀y∈o.op.operands,AK Γ (ρa y) (a.eval y))->BU X.P o a w (BX Γ w s' v):=by
 obtain⟨v,hK,hs⟩:=q6u hP h;refine⟨v,hK,fun Γ w a s' c hr=>?_⟩;obtain⟨u,h1,h2⟩:=hs Γ w a.eval hr;exact BU.val h1 (BX.same c h2)
mutual
theorem cI {Γ:G}:∀{x:V} {hm:Option Key} {p:List Nat} {vs:List Value},AA Γ hm p x vs->∀k∈x.pks,Γ.ι k≠none
 | .ptr k0 q τ,_,_,_,h,k,hk=>by simp only[V.pks,fj]at hk;subst hk;simp only[AA]at h;obtain⟨b,τ0,o,h1,_⟩:=h;rw[h1];simp
 | .mp k0,_,_,_,h,k,hk=>by simp only[V.pks,fj]at hk;subst hk;simp only[AA]at h;obtain⟨b,h1,_⟩:=h;rw[h1];simp
 | .sr k0 q lo n (some c) eb e,_,_,_,h,k,hk=>by simp only[V.pks,fj]at hk;subst hk;simp only[AA]at h;rcases h with⟨h,_⟩|⟨b,τ0,o,m,cap,h1,_⟩;{cases h};{rw[h1];simp}
 | .agg τ xs,_,_,_,h,k,hk=>by simp only[V.pks]at hk;simp only[AA]at h;exact uW h.2.2.2.2 k hk
 | .sr _ _ _ _ none _ _,_,_,_,_,k,hk| .d _ _,_,_,_,_,k,hk| .sl _ _ _ _,_,_,_,_,k,hk| .ts _ _ _,_,_,_,_,k,hk| .emp _ _,_,_,_,_,k,hk| .ye,_,_,_,_,k,hk| .yf _ _,_,_,_,_,k,hk| .fn _ _,_,_,_,_,k,hk| .tup _,_,_,_,_,k,hk| .top _,_,_,_,_,k,hk| .any,_,_,_,_,k,hk=>by simp[V.pks]at hk
theorem uW {Γ:G}:∀{xs:List V} {hm:Option Key} {p:List Nat} {i:Nat} {τ:Ty} {vs:List Value},Ag Γ hm p i τ xs vs->∀k∈V.HU xs,Γ.ι k≠none
 | [],_,_,_,_,_,_,k,hk=>by simp[V.HU]at hk
 |x::xs,_,_,_,_,_,h,k,hk=>by simp only[V.HU,eh]at hk;simp only[Ag]at h;obtain⟨⟨o,f,_,_,_,h1⟩,h2⟩:=h;rcases hk with hk|hk;{exact cI h1 k hk};{exact uW h2 k hk}
end
theorem q57 {Γ:G} {x:V} {v:Value} (h:AK Γ x v):∀k∈x.pks,Γ.ι k≠none:=by
 cases x with
 |any=>intro k hk;simp[V.pks]at hk|tup=>intro k hk;simp[V.pks]at hk|_=>exact cI h.1
theorem uV:∀{xs:List V} {k:Key},k∈V.HU xs->∃x∈xs,k∈x.pks
 | [],_,h=>by simp[V.HU]at h
 |x::xs,k,h=>by simp only[V.HU,eh]at h;rcases h with h|h;{exact⟨x,by simp,h⟩};{obtain⟨y,h1,h2⟩:=uV h;exact⟨y,by simp[h1],h2⟩}
theorem rL {s:S} {k:Key} {o:O} (h:AZ s.loc k=some o):s.obj k=some o:=by unfold jt Cs;rw[h]
theorem aF:∀{l:List (Key × O)} {k:Key} {o:O},AZ l k=some o->(k,o)∈l
 | [],_,_,h=>by simp[AZ]at h
 |(j,x)::l,k,o,h=>by simp only[AZ]at h;split at h;{rename_i e;subst e;cases h;exact List.mem_cons_self ..};{exact List.mem_cons_of_mem _ (aF h)}
theorem vL {s' base:S} (hc:Compat s' s base) (c:AY Γ w s'):∀(n:Nat) (ks:List Key),(∀k∈ks,Γ.ι k≠none)->∀p∈Jk n s.loc ks,s'.obj p.1=some p.2
 |0,_,_,p,hp=>by simp[Jk]at hp
 |n+1,ks,hk,p,hp=>by
  simp only[Jk,List.mem_flatMap]at hp;obtain⟨k,h1,hp⟩:=hp;split at hp
  ·rename_i o ho;have hs:s'.obj k=some o:=hc.getObj c (hk k h1) (rL ho);rcases ij.1 hp with rfl|hp;{exact hs}
   ·cases o with
    |box x=>
     have hks:∀k∈x.pks,Γ.ι k≠none:=by rcases c.obj k _ hs with⟨_,e,hv⟩|⟨b,cells,T,_,_,_,_,_,hr,_⟩;{subst hv;intro k hk;simp[V.pks]at hk};{exact cI hr}
     exact vL hc c n x.pks hks p hp
    |_=>simp at hp
  ·simp at hp
theorem q8G {s' base:S} (hc:Compat s' s base) (c:AY Γ w s') {xs:List V} (hx:∀x∈xs,∃v,AK Γ x v) {k:Key} {o:O} (h:(base.see s xs).obj k=some o):s'.obj k=some o:=by
 unfold jt S.see Cs at h;simp only[LZ]at h;cases hl:AZ (Jk 3 s.loc (V.HU xs)) k with
 |some o'=>
  rw[hl]at h;cases h;refine vL hc c 3 (V.HU xs) (fun k hk=>?_) (k,o) (aF hl);obtain⟨x,h1,h2⟩:=uV hk;obtain⟨v,hv⟩:=hx x h1;exact q57 hv k h2
 |none=>
  rw[hl]at h;exact hc.base k o h
theorem iH:∀{l:List V} {i:Nat} {x:V},Gn l=true->l[i]? =some x->∃τ c,x= .d τ c
 | [],i,x,_,h=>by simp at h
 |y::l,0,x,hl,h=>by simp only[Gn,bg]at hl;simp at h;subst h;cases y <;> simp at hl;exact⟨_,_,rfl⟩
 |y::l,i+1,x,hl,h=>by simp only[Gn,bg]at hl;exact iH hl.2 (by simpa using h)
theorem q88 {s' base:S} (hc:Compat s' s base) (c:AY Γ w s') {gl:Nat->Option (Ty × C)} {x:V} {v:Value} (hr:AK Γ x v) (hd:∃τ cc,Gh s x= .d τ cc):AK (G.Hh w gl) (Gh s x) v:=by obtain⟨τ,cc,hd⟩:=hd;rw[hd];exact q89 c (fun k o hι ho=>hc.getObj c hι ho) gl hr hd
theorem Mt (hP:BS X.P=true) {md:List (Nat × Nat)} {base:S} {dst:Nat} {o:Oper} {ρa:Operand->V} {K:V->List (Key × O)->List (Nat × Option Nat)->Prop} (h:iop X md base dst o ρa s K):
  ∃v lo tn,K v lo tn/\Xc X base o ρa s v lo tn:=by
 have z8A:(pv X.P o.op ρa fun y=>K y [] [])->∃v lo tn,K v lo tn/\Xc X base o ρa s v lo tn:=by intro h;obtain⟨v,hK,hd⟩:=q06 hP h;exact⟨v,[],[],hK,fun Γ w a s' _ c _ _ hr=>hd Γ w a s' c hr⟩
 unfold iop at h;split at h
 · -- load
  rename_i T x ho;split at h
  ·split at h
   ·rename_i k q τ hx;split at h
    ·rename_i y yi;unfold fF at h;split at h
     ·rename_i y0 t0 M e cc m e' hat ht;obtain⟨hq,rfl,rfl,hk,hlo,hK⟩:=h;refine⟨_,_,_,hK,fun Γ w a s' _ c hc _ hr=>?_⟩;have hxr:=hr x (by rw[ho];simp[cm]);rw[hx]at hxr;obtain⟨b,τ0,o0,hι,_⟩:=HF hxr;have hq2:q=q.dropLast++[q.getLastD 0]:=by rw[List.getLastD_eq_getLast?,List.getLast?_eq_some_getLast hq,Option.getD_some];exact(List.dropLast_concat_getLast hq).symm
      rw[hq2]at hxr;obtain⟨u,r1,r2⟩:=q35 (T:=T) hP c hxr (hc.getObj c (by rw[hι];simp) yi) hat ht hk hlo;exact BU.val (by unfold execOp;simp[ho,r1]) (BX.same c r2)
     ·exact h.elim
    ·exact h.elim
   ·exact h.elim
  split at h;{rename_i k q τ hx;split at h;{rename_i y yi;obtain⟨h1,h2,h3,hK⟩:=h;refine⟨_,_,_,hK,fun Γ w a s' _ c hc _ hr=>?_⟩;have hxr:=hr x (by rw[ho];simp[cm]);rw[hx]at hxr;obtain⟨b,τ0,o0,hι,_⟩:=HF hxr;obtain⟨u,r1,r2⟩:=aA (T:=T) hP c hxr (hc.getObj c (by rw[hι];simp) yi) h1 h2 h3;exact BU.val (by unfold execOp;simp[ho,r1]) (BX.same c r2)};{exact h.elim}};{rename_i τ cc hx;obtain⟨h2,h3,hK⟩:=h;refine⟨_,_,_,hK,fun Γ w a s' _ c hc _ hr=>?_⟩;have hxr:=hr x (by rw[ho];simp[cm]);rw[hx]at hxr;obtain⟨u,r1,r2⟩:=q34 (T:=T) hP c hxr h2 h3;exact BU.val (by unfold execOp;simp[ho,r1]) (BX.same c r2)};{exact h.elim}
 ·rename_i T ho;obtain⟨h1,hK⟩:=h;exact⟨_,_,_,hK,fun Γ w a s' _ c _ hf _=>q0I c ho (hf.l _ _ (NF _ _ _)) h1⟩
 ·rename_i T x ho;split at h;{obtain⟨h1,h⟩:=h;split at h;{rename_i cc hcc;exact⟨_,_,_,h,fun Γ w a s' _ c _ hf hr=>q0M c ho (hr x (by rw[ho];simp[cm])) h1 hcc⟩};{exact h.elim}};{obtain⟨h1,h2,hK⟩:=h;exact⟨_,_,_,hK,fun Γ w a s' _ c _ hf hr=>q0L c ho (hf.l _ _ (NF _ _ _)) (hr x (by rw[ho];simp[cm])) h1 h2⟩}
 · -- buildSlice
  rename_i t len parts ho;split at h
  ·rename_i eb e ht;split at h
   ·obtain⟨h1,hK⟩:=h;have hp0:parts=#[]:=by apply gr;simpa using h1
    subst hp0;exact⟨_,_,_,hK,fun Γ w a s' _ c _ _ _=>q0Q hP c ho ht⟩
   ·rename_i len;obtain⟨h1,h2,h3,h4,h5,h⟩:=h;split at h;{obtain⟨h6,h7,hK⟩:=h;refine⟨_,_,_,hK,fun Γ w a s' _ c _ hf hr=>q0R hP c (hf.l _ _ (NF _ _ _)) ho ht h1 (by omega) h2 h3 h4 h5 (by have:=congrArg List.length h5;simpa using this) (fun i x y hx hy=>?_) h6 h7⟩;rw[db,hx]at hy;cases hy;exact hr x.2 (by rw[ho];simp only[cm];exact qw.2 (lu.2 ⟨x,fa hx,rfl⟩))};split at h
    ·rename_i cs hcs;obtain⟨h6,hK⟩:=h;obtain⟨l1,l2⟩:=YI hcs;have hl:cs.length=len+1:=by rw[l1];have:=congrArg List.length h5;simpa using this
     have key:∀(Γ:G) (w:World) (a:Act) (s':S),Γ.gl=X.gl->AY Γ w s'->(∀y∈o.op.operands,AK Γ (ρa y) (a.eval y))->∀(i:Nat) (x:Nat × Operand) (cc:C),parts.toList[i]? =some x->cs[i]? =some cc->AK Γ (.d e cc) (a.eval x.2):=by
      intro Γ w a s' _ c hr i x cc hx hcc;have hxm:(parts.toList.map fun x=>ρa x.2)[i]? =some (ρa x.2):=by simp only[db,hx];rfl
      obtain⟨t1,t2⟩:=h6 _ (fa hxm);have z9m:x∈parts.toList:=fa hx;have hrx:=hr x.2 (by rw[ho];simp only[cm];exact qw.2 (lu.2 ⟨x,z9m,rfl⟩));obtain⟨q1,q2⟩:=(Ca t2).1 hrx;have:=LC _ q1 (l2 i _ cc hxm hcc);rw[t1]at this q2;exact EA.2 ⟨this,q2⟩
     split at hK;{exact⟨_,_,_,hK,fun Γ w a s' hg c _ hf hr=>q0S hP c (hf.t _ _ (VX _ _ _)) ho ht h1 (by omega) h2 h3 h4 h5 hl (key Γ w a s' hg c hr)⟩};{exact⟨_,_,_,hK,fun Γ w a s' hg c _ _ hr=>q0P hP c ho ht h1 (by omega) h2 h3 h4 h5 hl (key Γ w a s' hg c hr)⟩}
    ·exact h.elim
  ·exact h.elim
 · -- build
  rename_i T parts ho;obtain⟨h1,h2,h3,h4,hK⟩:=h;refine⟨_,_,_,hK,fun Γ w a s' _ c _ _ hr=>?_⟩;obtain⟨u,r1,r2⟩:=q0O (Γ:=Γ) (w:=w) (ev:=a.eval) hP h1 h2 h3 (fun p hp=>hr p.2 (by rw[ho];simp only[cm];exact qw.2 (lu.2 ⟨p,hp,rfl⟩))) h4;refine BU.val (v:=u) (w':=w) ?_ (BX.same c r2);unfold execOp;simp only[ho,cz,r1,cu,ej]
 · -- makeSlice
  rename_i t l cp ho;split at h;{rename_i eb e ht;obtain⟨h1,h2,h3,h4,h5,h6,h7,h8,hK⟩:=h;refine⟨_,_,_,hK,fun Γ w a s' _ c _ hf hr=>?_⟩;obtain⟨k1,e1⟩:=Qk h2 (hr l (by rw[ho];simp[cm]));obtain⟨k2,e2⟩:=Qk h3 (hr cp (by rw[ho];simp[cm]));exact q0Z (L:=ρa l) (Cp:=ρa cp) (k1:=k1) (k2:=k2) (nl:=(ρa l).toInt.toNat) (nc:=(ρa cp).toInt.toNat) hP c ho ht h1 (hf.l _ _ (NF _ _ _)) (by rw[e1,ji h4]) (by rw[e2,ji (by omega)]) (by omega) (by unfold maxLen;omega) h7 h8 (fun c h=>by split at h <;> cases h;rfl)};{exact h.elim}
 · -- makeMap
  rename_i T r ho;split at h;{rename_i kt et hT;exact⟨_,_,_,h,fun Γ w a s' _ c _ hf _=>q0Y c ho (hf.l _ _ (NF _ _ _))⟩};{exact h.elim}
 · -- lookup
  rename_i T x i ok ho;split at h
  ·rename_i kt et k hT hx;split at h
   ·rename_i kτ vτ es yi;obtain⟨rfl,h1,h2,h3,hK⟩:=h;refine⟨_,_,_,hK,fun Γ w a s' _ c hc _ hr=>?_⟩;have hxr:=hr x (by rw[ho];simp[cm]);rw[hx]at hxr;obtain⟨b,hι,_⟩:=TF hxr;have hir:=hr i (by rw[ho];simp[cm]);have hd:ρa i= .d (ty X.P kt) (ρa i).toC:=by cases hi:ρa i <;> simp[hi,V.Dr]at h3;subst h3;rfl
    rw[hd]at hir;have:=q0X hP c ho hT hxr hir (hc.getObj c (by rw[hι];simp) yi) h1 h2;exact this
   ·exact h.elim
  ·exact h.elim
 · -- calls
  rename_i cl ho;obtain⟨callee,args,ts⟩:=cl;split at h
  ·rename_i fo hfo;simp only at hfo h;subst hfo;split at h
   ·rename_i f yg hf;rcases h with⟨h1,h2,b,v,L,hB,D,hL,hK⟩|⟨rfl,v,E,hK⟩|⟨rfl,h1,v,hx,D,hv,hK⟩
    rotate_left
    ·refine⟨_,_,_,hK,fun Γ w a s' hgl c hc hfr hr=>?_⟩;have hrf:=hr fo (by rw[ho];simp[cm,du]);rw[hf]at hrf;obtain⟨cv,hfv,hcl,_⟩:=Wh hrf;have hcv:cv=#[]:=by apply gr;simpa using hcl.symm
     subst hcv;obtain⟨u,e1,e2⟩:=E Γ w (args.map a.eval) (by simp) fun i x u hx hu=>by
      simp only[db,vb]at hx hu;cases hy:args[i]? with
      |none=>rw[hy]at hu;cases hu
      |some y=>
       have hy':args.toList[i]? =some y:=by simpa using hy
       rw[hy]at hu;rw[hy']at hx;cases hu;cases hx;exact hr y (by rw[ho];simp only[cm,du];exact jd _ (Array.mem_of_getElem? hy))
     refine BU.val (v:=u) (w':=w) ?_ (BX.same c e2);unfold execOp;simp[ho,resolve,hfv,uv,invoke,e1]
    ·refine⟨_,_,_,hK,fun Γ w a s' hgl c hc hfr hr=>?_⟩;have hrf:=hr fo (by rw[ho];simp[cm,du]);rw[hf]at hrf;refine q02 hgl c ho h1 hrf (by simp) (fun i x y hx' hy=>?_) hx D hv;simp only[db]at hx';have hx2:=hx';rw[hy]at hx';cases hx';refine q88 hc c (hr y (by rw[ho];simp only[cm,du];exact jd _ (kf.1 (fa hy)))) (iH hx (i:=i) ?_);simp only[db];exact hx2
    refine⟨_,_,_,hK,fun Γ w a s' hgl c hc hfr hr=>?_⟩;have hrf:=hr fo (by rw[ho];simp[cm,du]);rw[hf]at hrf;rw[Tz s s']at D;have hbb:∀k o,b.obj k=some o->s'.obj k=some o:=by
     intro k ob hk;rcases hB with rfl|rfl;{exact hc.base k ob hk}
     ·refine q8G hc c (fun x hx=>?_) hk;simp only[FA,eh,lu]at hx;rcases hx with⟨y,hy,rfl⟩|hx;{exact⟨_,hr y (by rw[ho];simp only[cm,du];exact jd _ (kf.1 hy))⟩}
      ·obtain⟨cv,_,q1,q2⟩:=Wh hrf;obtain⟨i,hi⟩:=List.mem_iff_getElem?.1 hx;have hlt:i<cv.toList.length:=by rw[<-q1];exact(cd.1 hi).1
       exact⟨_,q2 i x _ hi (List.getElem?_eq_getElem hlt)⟩
    have:=lJ (tip:=false) (A:=b.up) (d:=dst) rfl hgl c ho h1 h2 hrf (fun y hy=>hr y (by rw[ho];simp only[cm,du];exact jd _ (kf.1 hy))) (by rw[WH];rfl) D
     (fun k o hk=>by
      simp only[S.up]at hk ⊢;cases hb:b.obj k with
      |none=>simp[hb]at hk|some ob=>rw[hbb k ob hb];rw[hb]at hk;exact hk)
     (fun k o hk=>(tU hL hk).elim) (fun j o hj=>hfr.l _ _ (tT dst hL hj)) (fun m x hm=>hfr.t _ x (by rw[q4b];exact hm))
    have e:S.back s' false (FA (args.toList.map ρa) yg) dst v L=s'.add (dnL dst L) (dnT dst (v.tkR 2000)):=by simp[S.back,S.add,WH,Hc]
    rw[<-e];exact this
   ·exact h.elim
  ·rename_i hb;simp only at hb h;subst hb;split at h
   ·rename_i x y t t' yt hts;have z8d:args=#[x,y]:=by cases args;simpa using yt
    have z8u:ts=#[t,t']:=by cases ts;simpa using hts
    subst z8d;subst z8u;obtain⟨h1,h⟩:=h;split at h;{rename_i eb e eb0 e0 ht hx;obtain⟨ys,hK,hs⟩:=TR hP h;split at hK;{obtain⟨hne,hK⟩:=hK;refine⟨_,_,_,hK,fun Γ w a s' _ c hc hf hr=>?_⟩;have hyr:=hr y (by rw[ho];simp[cm,du]);have hxr:=hr x (by rw[ho];simp[cm,du]);obtain⟨Y',z8v,hs'⟩:=XA hc c hyr hs;exact lG hP c ho ht h1 (hf.l _ _ (NF _ _ _)) hxr (.inr ⟨_,_,hx⟩) z8v hs' hne};{refine⟨_,_,_,hK,fun Γ w a s' _ c hc hf hr=>?_⟩;have hyr:=hr y (by rw[ho];simp[cm,du]);have hxr:=hr x (by rw[ho];simp[cm,du]);obtain⟨Y',z8v,hs'⟩:=XA hc c hyr hs;exact lH hP c ho ht h1 (hf.t dst _ (VX _ _ _)) hxr (.inr ⟨_,_,hx⟩) z8v hs'}};{rename_i eb e ht hx;obtain⟨ys,hK,hs⟩:=TR hP h;split at hK;{obtain⟨hne,hK⟩:=hK;refine⟨_,_,_,hK,fun Γ w a s' _ c hc hf hr=>?_⟩;have hyr:=hr y (by rw[ho];simp[cm,du]);have hxr:=hr x (by rw[ho];simp[cm,du]);obtain⟨Y',z8v,hs'⟩:=XA hc c hyr hs;exact lG hP c ho ht h1 (hf.l _ _ (NF _ _ _)) hxr (.inl hx) z8v hs' hne};{refine⟨_,_,_,hK,fun Γ w a s' _ c hc hf hr=>?_⟩;have hyr:=hr y (by rw[ho];simp[cm,du]);have hxr:=hr x (by rw[ho];simp[cm,du]);obtain⟨Y',z8v,hs'⟩:=XA hc c hyr hs;exact lH hP c ho ht h1 (hf.t dst _ (VX _ _ _)) hxr (.inl hx) z8v hs'}};{exact h.elim}
   ·exact h.elim
  ·rename_i hb;simp only at hb h;subst hb;split at h
   ·rename_i x T yt hts;have z8d:args=#[x]:=by cases args;simpa using yt
    have z8u:ts=#[T]:=by cases ts;simpa using hts
    subst z8d;subst z8u;split at h;{rename_i k hx;split at h;{rename_i pr kτ vτ es hT yi;obtain⟨h1,hK⟩:=h;refine⟨_,_,_,hK,fun Γ w a s' _ c hc _ hr=>?_⟩;have hxr:=hr x (by rw[ho];simp[cm,du]);rw[hx]at hxr;obtain⟨b,hι,_⟩:=TF hxr;exact q0W c ho (kt:=pr.1) (et:=pr.2) hT hxr (hc.getObj c (by rw[hι];simp) yi) h1};{exact h.elim}};{exact z8A h}
   ·exact z8A h
  ·exact z8A h
 · -- a string of bytes
  rename_i src z8k x ho;split at h;{rename_i ys hys;refine⟨_,_,_,h,fun Γ w a s' _ c hc _ hr=>?_⟩;have hxr:=hr x (by rw[ho];simp[cm]);obtain⟨Y',y0A,y0B⟩:=q9g hc c hxr hys;exact q04 hP c ho y0B y0A};{exact z8A h}
 ·exact z8A h
end
end
section
def C.isNil:C->Bool
 | .nil=>true|_=>false
def LS:Operand->Bool
 | .const .nilIface=>true|_=>false
def Jt (P:Program) (src dst:TypeId) (x:V):Option (List C):=
 match ty P src,ty P dst with
 | .str,.slice eb e=>if e.Rl=true/\eb=1 then(match x with| .d .str c=>some (c.toStr.map fun b=>bc b.toNat)|_=>none)else none|_,_=>none
def Qt (P:Program) (T:TypeId):Bool:=
 match ty P T with
 | .iface| .opq _=>false|_=>true
def fop (X:Cx) (o:Oper) (ρ:Operand->V) (K:V->Prop):Prop:=
 match o.op with
 | .convert src dst x=>(match Jt X.P src dst (ρ x)with|some ys=>K (.d (.slice 1 (.int .u8)) (.slice ys))|none=>False)| .makeInterface T _=>Qt X.P T=true/\K (.d .iface (.bool true))| .binOp op T x y _=>LS y=true/\ty X.P T= .iface/\(match op,ρ x with| .eql,.d .iface c=>K (.d .bool (.bool c.isNil))| .neq,.d .iface c=>K (.d .bool (.bool (!c.isNil)))|_,_=>False)|_=>False
def sl3 (X:Cx) (md:List (Nat × Nat)) (dst:Nat) (o:Oper) (ρ:Operand->V) (s:S) (K:V->S->Prop):Prop:=
 match o.op with
 | .slice T x lo hi mx=>Ck md dst=4/\s.known dst=false/\hi.isSome=true/\mx.isSome=true/\(match ty X.P T with| .slice eb e=>(match(ρ x).Fk with|some (eb',e',cs)=>eb'=eb/\e'=e/\(match DA (lo.map ρ) 0,DA (hi.map ρ) 0,DA (mx.map ρ) 0 with|some l,some h,some m=>l=0/\0<=h/\h=m/\m<=cs.length/\K (.sl eb e (cs.take h.toNat) dst) {s with tk:=(dst,some (cs.take h.toNat).length)::s.tk}|_,_,_=>False)|none=>False)|_=>False)| .convert src z8k x=>Ck md dst=9/\s.obj (.l dst)=none/\(match Jt X.P src z8k (ρ x)with|some ys=>K (.sr (.l dst) [] 0 ys.length none 1 (.int .u8)) {s with loc:=(.l dst,.box (.d (.arr ys.length (.int .u8)) (.agg ys)))::s.loc}|none=>False)|_=>False
section
variable {X:Cx} {Γ:G} {w:World} {s:S}
theorem z0d {P:Program} {f:Nat} {T:TypeId} (h:tyF P (f+1) T= .iface):∃ms,P.underlying T=some (.interface ms):=by unfold tyF at h;split at h;{cases hu:P.underlying T with|none=>simp[hu]at h|some d=>cases d <;> simp[hu]at h ⊢};{cases h}
theorem z0c {P:Program} {T:TypeId} (h:Qt P T=true):∃d,P.underlying T=some d/\∀ms,d≠.interface ms:=by unfold Qt ty tyF at h;split at h;{cases h};{cases h};{rename_i h1 h2;split at h1;{cases hu:P.underlying T with|none=>simp[hu]at h2|some d=>exact⟨d,rfl,fun ms e=>by subst e;simp[hu]at h1⟩};{rename_i hn;simp[hn]at h2}}
theorem wZ {c:C} {v:Value} (h:AK Γ (.d .iface c) v):(c= .nil/\v= .nilIface)\/(c= .bool true/\∃t u,v= .iface t u):=by obtain⟨h1,h2⟩:=EA.1 h;rw[DX (by simpa[ja]using h2)]at h1;simp only[AU]at h1;rcases h1 with⟨rfl,h1⟩|⟨rfl,t,u,h1⟩;{simp at h1;exact .inl ⟨rfl,h1⟩};{simp at h1;exact .inr ⟨rfl,t,u,h1⟩}
theorem q8v {P:Program} {T:TypeId} {ms:Array (String × TypeId)} (hu:P.underlying T=some (.interface ms)) {v:Value} (hv:v= .nilIface\/∃t u,v= .iface t u) (w:World):
  (kl T v .nilIface).run P w= .ok (match v with| .nilIface=>true|_=>false) w:=by
 unfold kl Op.maxDepth;rw[show(10000:Nat)=9999+1 from rfl,Op.equalIn,cz,run_underlying hu];rcases hv with rfl|⟨t,u,rfl⟩ <;> rfl
theorem Wp {P:Program} {T:TypeId} {ms:Array (String × TypeId)} (hu:P.underlying T=some (.interface ms)) {x y:Operand} (hy:LS y=true) {v:Value} (hv:v= .nilIface\/∃t u,v= .iface t u) (w:World):
  ((do eqGuard .eql T x y v .nilIface;binOp .eql T v .nilIface):Sem Value).run P w= .ok (.bool (match v with| .nilIface=>true|_=>false)) w/\
  ((do eqGuard .neq T x y v .nilIface;binOp .neq T v .nilIface):Sem Value).run P w= .ok (.bool (!(match v with| .nilIface=>true|_=>false))) w:=by
 obtain⟨z,rfl⟩:∃z,y= .const z:=by
  cases y with
  |const z=>exact⟨z,rfl⟩|_=>simp[LS]at hy
 have he:=q8v hu hv w;rcases hv with rfl|⟨t,u,rfl⟩;{constructor;{rw[eqGuard_nil_constR];show(do pure (.bool (<-kl T .nilIface .nilIface)):Sem Value).run P w=_;rw[cz,he];rfl};{rw[eqGuard_nil_constR];show(do pure (.bool (!(<-kl T .nilIface .nilIface))):Sem Value).run P w=_;rw[cz,he];rfl}};{constructor;{show(do pure (.bool (<-kl T (.iface t u) .nilIface)):Sem Value).run P w=_;rw[cz,he];rfl};{show(do pure (.bool (!(<-kl T (.iface t u) .nilIface))):Sem Value).run P w=_;rw[cz,he];rfl}}
theorem q0U {P:Program} (hP:BS P=true) (c:AY Γ w s) {o:Oper} {a:Act} {src dst:TypeId} {x:Operand} (ho:o.op= .convert src dst x) {Y:V} {ys:List C} (h:Jt P src dst Y=some ys)
  (hr:AK Γ Y (a.eval x)):BU P o a w (BX Γ w s (.d (.slice 1 (.int .u8)) (.slice ys))):=by
 unfold Jt at h;split at h
 ·rename_i eb e hs ht;obtain⟨E,hu,hE,_,_⟩:=Ie hP ht;have hs':=Kk hs;split at h
  ·rename_i hc0;obtain⟨h0,rfl⟩:=hc0;obtain rfl:=Ty.VG h0;have hEu:P.underlying E=some (.int .u8):=gD hE.symm;split at h
   ·rename_i cc;cases h;obtain⟨hv,_,hl⟩:=IQ hr;have run:=run_bytes_of_string (P:=P) w src dst E ⟨cc.toStr.toArray⟩ hs' hu hEu;have hsz:(⟨cc.toStr.toArray⟩:ByteArray).size=cc.toStr.length:=by simp[iw]
    rw[hsz]at run;have hge:=grownCap_ge w cc.toStr.length 0 E;have hcm:=grownCap_le_maxLen w cc.toStr.length 0 E (by unfold maxLen;omega);generalize grownCap w cc.toStr.length 0 E=cap at run hge hcm;have z8Y:(bytesRow ⟨cc.toStr.toArray⟩ cap).toList=cc.toStr.map (fun b=>kx .u8 b.toNat)++(bp (cap-cc.toStr.length) (kx .u8 0)):=by simp[bytesRow,hsz]
    have z8h:Ext w (w.drew.alloc (.cells (bytesRow ⟨cc.toStr.toArray⟩ cap) E ((bytesRow ⟨cc.toStr.toArray⟩ cap).size,(bytesRow ⟨cc.toStr.toArray⟩ cap).size+1))):=(xq w).trans (uj _ _);have yo:=heap_alloc_new w.drew (.cells (bytesRow ⟨cc.toStr.toArray⟩ cap) E ((bytesRow ⟨cc.toStr.toArray⟩ cap).size,(bytesRow ⟨cc.toStr.toArray⟩ cap).size+1));obtain⟨c1,p1,g1⟩:=c.Ej z8h yo z8Y;refine BU.val (v:=.slice (some ⟨w.heap.size,0,none⟩) cc.toStr.length cap) (w':=w.drew.alloc (.cells (bytesRow ⟨cc.toStr.toArray⟩ cap) E ((bytesRow ⟨cc.toStr.toArray⟩ cap).size,(bytesRow ⟨cc.toStr.toArray⟩ cap).size+1))) ?_ ⟨_,g1,p1,c1,?_⟩;{unfold execOp;simp only[ho,hv,cz,run,cu,ej]}
    ·refine EA.2 ⟨Eg (by simp) hge hcm (by omega) (.inr ⟨w.heap.size,0,_,rfl,Dc _ _ _,by simp[gu],fun i c' hi=>?_⟩),rfl⟩;simp only[db]at hi;cases hb:cc.toStr[i]? with
     |none=>rw[hb]at hi;cases hi
     |some b=>
      rw[hb]at hi;cases hi;have:chunk (cc.toStr.map (fun b=>kx .u8 b.toNat)) (0+i*(bm cq).size) (bm cq).size=[.int .u8 b.toNat]:=by
       apply fb;intro j;rw[EP];by_cases hj:j<1
       ·have:j=0:=by omega
        subst this;simp[gu,hb]
       ·simp[gu,hj]
      rw[this];simp only[AU];refine⟨_,rfl,rfl,?_,?_⟩
      ·have:IntKind.u8.min=0:=by decide
       omega
      ·have:IntKind.u8.max=255:=by decide
       have:=b.toNat_lt;omega
   ·cases h
  ·cases h
 ·cases h
theorem q0T {P:Program} (hP:BS P=true) (c:AY Γ w s) {o:Oper} {a:Act} {src dst:TypeId} {x:Operand} {n:Nat} (ho:o.op= .convert src dst x) {Y:V} {ys:List C} (h:Jt P src dst Y=some ys)
  (hr:AK Γ Y (a.eval x)) (hn:s.obj (.l n)=none):BU P o a w (BX Γ w {s with loc:=(.l n,.box (.d (.arr ys.length (.int .u8)) (.agg ys)))::s.loc} (.sr (.l n) [] 0 ys.length none 1 (.int .u8))):=by
 unfold Jt at h;split at h
 ·rename_i eb e hs ht;obtain⟨E,hu,hE,_,_⟩:=Ie hP ht;have hs':=Kk hs;split at h
  ·rename_i hc0;obtain⟨h0,rfl⟩:=hc0;obtain rfl:=Ty.VG h0;have hEu:P.underlying E=some (.int .u8):=gD hE.symm;split at h
   ·rename_i cc;cases h;obtain⟨hv,_,hl⟩:=IQ hr;have run:=run_bytes_of_string (P:=P) w src dst E ⟨cc.toStr.toArray⟩ hs' hu hEu;have hsz:(⟨cc.toStr.toArray⟩:ByteArray).size=cc.toStr.length:=by simp[iw]
    rw[hsz]at run;have hge:=grownCap_ge w cc.toStr.length 0 E;have hcm:=grownCap_le_maxLen w cc.toStr.length 0 E (by unfold maxLen;omega);generalize grownCap w cc.toStr.length 0 E=cap at run hge hcm;have z8Y:(bytesRow ⟨cc.toStr.toArray⟩ cap).toList=cc.toStr.map (fun b=>kx .u8 b.toNat)++(bp (cap-cc.toStr.length) (kx .u8 0)):=by simp[bytesRow,hsz]
    have hrs:(bytesRow ⟨cc.toStr.toArray⟩ cap).size=cap:=by rw[<-ic,z8Y];simp;omega
    have z8h:Ext w (w.drew.alloc (.cells (bytesRow ⟨cc.toStr.toArray⟩ cap) E ((bytesRow ⟨cc.toStr.toArray⟩ cap).size,(bytesRow ⟨cc.toStr.toArray⟩ cap).size+1))):=(xq w).trans (uj _ _);have yo:=heap_alloc_new w.drew (.cells (bytesRow ⟨cc.toStr.toArray⟩ cap) E ((bytesRow ⟨cc.toStr.toArray⟩ cap).size,(bytesRow ⟨cc.toStr.toArray⟩ cap).size+1));have hch:chunk (bytesRow ⟨cc.toStr.toArray⟩ cap).toList 0 cc.toStr.length=cc.toStr.map (fun b=>kx .u8 b.toNat):=by rw[z8Y];unfold chunk;rw[jf];exact se (by simp)
    have hyl:(cc.toStr.map fun b=>bc b.toNat).length=cc.toStr.length:=by simp
    have yr:AA Γ none [] (.d (.arr (cc.toStr.map fun b=>bc b.toNat).length (.int .u8)) (.agg (cc.toStr.map fun b=>bc b.toNat))) (chunk (bytesRow ⟨cc.toStr.toArray⟩ cap).toList 0 (V.d (.arr (cc.toStr.map fun b=>bc b.toNat).length (.int .u8)) (.agg (cc.toStr.map fun b=>bc b.toNat))).ty.size):=by
     simp only[AA,qk,gu,rh,hyl,hch];have hel:∀i c',(cc.toStr.map fun b=>bc b.toNat)[i]? =some c'->AU Γ.H (.int .u8) (chunk (cc.toStr.map (fun b=>kx .u8 b.toNat)) (i*(bm cq).size) (bm cq).size) c':=by
      intro i c' hi;simp only[db]at hi;cases hb:cc.toStr[i]? with
      |none=>rw[hb]at hi;cases hi
      |some b=>
       rw[hb]at hi;cases hi;have:chunk (cc.toStr.map (fun b=>kx .u8 b.toNat)) (i*(bm cq).size) (bm cq).size=[.int .u8 b.toNat]:=by
        apply fb;intro j;rw[EP];by_cases hj:j<1
        ·have:j=0:=by omega
         subst this;simp[gu,hb]
        ·simp[gu,hj]
       rw[this];simp only[AU];refine⟨_,rfl,rfl,?_,?_⟩
       ·have:IntKind.u8.min=0:=by decide
        omega
       ·have:IntKind.u8.max=255:=by decide
        have:=b.toNat_lt;omega
     simp only[AU];exact⟨_,rfl,by simp,by rw[fg];show _=_*1;omega,fun v hv=>by obtain⟨b,_,rfl⟩:=lu.1 hv;rfl,hel⟩
    obtain⟨Γ',q1,q2,q3,q4⟩:=SI c hn (T:=E) z8h yo (by simp only[qk,gu,hrs,hyl,rh];exact hge) yr rfl rfl (.inr (bx _));obtain⟨y1,y2,y3⟩:=q3.HK yo;refine BU.val (v:=.slice (some ⟨w.heap.size,0,none⟩) cc.toStr.length cap) (w':=w.drew.alloc (.cells (bytesRow ⟨cc.toStr.toArray⟩ cap) E ((bytesRow ⟨cc.toStr.toArray⟩ cap).size,(bytesRow ⟨cc.toStr.toArray⟩ cap).size+1))) ?_ ⟨_,q1.trans y3,q2.trans y2,y1,?_⟩;{unfold execOp;simp only[ho,hv,cz,run,cu,ej]}
    ·obtain⟨b,τ0,o',r1,r2,r3⟩:=HF q4;simp at r3;obtain⟨rfl,rfl⟩:=r3;have y0C:(cc.toStr.map fun b=>bc b.toNat).length<=cap:=by rw[hyl];exact hge
     have:=TD (show(G.HK Γ' _ _).ι (.l n)=_ from r1) r2 (lo:=0) (n:=(cc.toStr.map fun b=>bc b.toNat).length) (cap:=cap) (eb:=1) (cp:=none) (a:=some ⟨w.heap.size,0,none⟩) (by omega) (.inr (by simp)) y0C hcm (by rw[hyl];omega) (fun _ h=>by cases h) (fun _=>.inr ⟨(bytesRow ⟨cc.toStr.toArray⟩ cap).size,Dc _ _ _,by rw[hrs];simp[gu]⟩);rw[<-hyl];exact this
   ·cases h
  ·cases h
 ·cases h
theorem ZB (hP:BS X.P=true) {o:Oper} {ρ:Operand->V} {K:V->Prop} (h:fop X o ρ K):
  ∃v,K v/\∀(Γ:G) (w:World) (a:Act) (s:S),AY Γ w s->(∀y∈o.op.operands,AK Γ (ρ y) (a.eval y))->BU X.P o a w (BX Γ w s v):=by
 unfold fop at h;split at h;{rename_i src dst x ho;split at h;{rename_i ys hys;exact⟨_,h,fun Γ w a s c hr=>q0U hP c ho hys (hr x (by rw[ho];simp[cm]))⟩};{exact h.elim}}
 ·rename_i T x ho;obtain⟨h1,hK⟩:=h;obtain⟨d,hd,hni⟩:=z0c h1;refine⟨_,hK,fun Γ w a s c hr=>BU.val (v:=.iface T (a.eval x)) (w':=w) ?_ (BX.same c (EA.2 ⟨?_,rfl⟩))⟩
  ·unfold execOp;simp only[ho,cz,Instr.makeInterface,run_underlying hd]
   cases d <;> first
    |exact absurd rfl (hni _)|simp[ej,Result.andThen]
  ·simp only[ek,AU];exact .inr ⟨trivial,_,_,rfl⟩
 ·rename_i op T x y yT ho;obtain⟨hy,hT,h⟩:=h;obtain⟨ms,hu⟩:=z0d (f:=11) hT;have hyv:∀a:Act,a.eval y= .nilIface:=fun a=>by
   cases y with
   |const z=>cases z <;> simp[LS]at hy;rfl
   |_=>simp[LS]at hy
  split at h;{rename_i cc hx;refine⟨_,h,fun Γ w a s c hr=>?_⟩;have hxr:=hr x (by rw[ho];simp[cm]);rw[hx]at hxr;rcases wZ hxr with⟨rfl,hv⟩|⟨rfl,t,u,hv⟩;{refine BU.val (v:=.bool true) (w':=w) ?_ (BX.same c (Dn));unfold execOp;simp only[ho,hyv,hv];have:=(Wp (P:=X.P) hu (x:=x) hy (v:=.nilIface) (.inl rfl) w).1;simp only[cz]at this ⊢;rw[this];rfl};{refine BU.val (v:=.bool false) (w':=w) ?_ (BX.same c (Dn));unfold execOp;simp only[ho,hyv,hv];have:=(Wp (P:=X.P) hu (x:=x) hy (v:=.iface t u) (.inr ⟨_,_,rfl⟩) w).1;simp only[cz]at this ⊢;rw[this];rfl}};{rename_i cc hx;refine⟨_,h,fun Γ w a s c hr=>?_⟩;have hxr:=hr x (by rw[ho];simp[cm]);rw[hx]at hxr;rcases wZ hxr with⟨rfl,hv⟩|⟨rfl,t,u,hv⟩;{refine BU.val (v:=.bool false) (w':=w) ?_ (BX.same c (Dn));unfold execOp;simp only[ho,hyv,hv];have:=(Wp (P:=X.P) hu (x:=x) hy (v:=.nilIface) (.inl rfl) w).2;simp only[cz]at this ⊢;rw[this];rfl};{refine BU.val (v:=.bool true) (w':=w) ?_ (BX.same c (Dn));unfold execOp;simp only[ho,hyv,hv];have:=(Wp (P:=X.P) hu (x:=x) hy (v:=.iface t u) (.inr ⟨_,_,rfl⟩) w).2;simp only[cz]at this ⊢;rw[this];rfl}};{exact h.elim}
 ·exact h.elim
theorem q8Y (hP:BS X.P=true) {md:List (Nat × Nat)} {dst:Nat} {o:Oper} {ρa:Operand->V} {K:V->S->Prop} (h:sl3 X md dst o ρa s K):
  ∃v s1,K v s1/\s1.A=s.A/\s1.env=s.env/\∀(Γ:G) (w:World) (a:Act),AY Γ w s->(∀y∈o.op.operands,AK Γ (ρa y) (a.eval y))->BU X.P o a w (BX Γ w s1 v):=by
 unfold sl3 at h;split at h
 ·rename_i T x lo hi mx ho;obtain⟨_,hn,hhs,hms,h⟩:=h;split at h
  ·rename_i eb e ht;obtain⟨E,hu,rfl,_,hE⟩:=Ie hP ht;split at h
   ·rename_i eb' e' cs hx;obtain⟨rfl,rfl,h⟩:=h;split at h
    ·rename_i l hh m hl hhi hm;obtain⟨rfl,h0,rfl,h2,hK⟩:=h;refine⟨_,_,hK,rfl,rfl,fun Γ w a c hr=>?_⟩;rw[ho]at hr;have r1:=hr x (by simp[cm]);have r2:∀y,lo=some y->AK Γ (ρa y) (a.eval y):=fun y e=>hr y (by subst e;simp[cm]);have r3:∀y,hi=some y->AK Γ (ρa y) (a.eval y):=fun y e=>hr y (by subst e;simp[cm]);have r4:∀y,mx=some y->AK Γ (ρa y) (a.eval y):=fun y e=>hr y (by subst e;simp[cm]);obtain⟨ad,n,cap,hv,hcs,hnc,z8W,hb,yr⟩:=Kb r1 hx;have hhn:hh.toNat<=n:=by omega
     have b1:lo.map a.eval=none/\(0:Nat)=0\/∃k,lo.map a.eval=some (.int k ((0:Nat):Int)):=by rcases OS hl r2 with⟨rfl,_⟩|⟨k,y,rfl,hy⟩;{exact .inl ⟨rfl,rfl⟩};{exact .inr ⟨k,hy⟩}
     have b2:∃k,hi.map a.eval=some (.int k (hh.toNat:Int)):=by rcases OS hhi r3 with⟨rfl,_⟩|⟨k,y,rfl,hy⟩;{cases hhs};{exact⟨k,by rw[hy,ji h0]⟩}
     have b3:∃k,mx.map a.eval=some (.int k (hh.toNat:Int)):=by rcases OS hm r4 with⟨rfl,_⟩|⟨k,y,rfl,hy⟩;{cases hms};{exact⟨k,by rw[hy,ji h0]⟩}
     obtain⟨km,b3⟩:=b3;obtain⟨c1,p1,g1⟩:=c.EE hn (x:=none) (L:=(cs.take hh.toNat).length) (fun _ _ _ h=>by cases h);have hlen:(cs.take hh.toNat).length=hh.toNat:=by simp;omega
     have hcut:=dT yr (dr hh.toNat) hhn;have z97:AU Γ.H (.slice eb' (tyF X.P 11 E)) [.slice (if hh.toNat=0 then ad else ad.map (·.add (0*(tyF X.P 11 E).size))) hh.toNat hh.toNat] (.slice (cs.take hh.toNat)):=by obtain⟨a',n',z8r,e1,_,e2,e3,e4,e5,e6⟩:=JC yr;simp at e1;obtain⟨rfl,rfl,rfl⟩:=e1;simp only[ax]at e2 e6;refine Eg hlen (bx _) (by omega) (Nat.le_trans (cf _ hhn) hb) ?_;by_cases hz:hh.toNat=0;{exact .inl hz};{rcases e6 with e6|⟨b,off,ll,rfl,hb',hs',hc⟩;{omega};{refine .inr ⟨b,off,ll,?_,hb',?_,fun i c' hi=>?_⟩;{rw[if_neg hz];simp[Addr.add]};{have:hh.toNat*(tyF X.P 11 E).size<=n*(tyF X.P 11 E).size:=cf _ hhn;omega};{rw[fh]at hi;split at hi;{exact hc _ _ hi};{cases hi}}}}
     refine BU.val (v:=.slice (if hh.toNat=0 then ad else ad.map (·.add (0*(tyF X.P 11 E).size))) hh.toNat hh.toNat) (w':=w) ?_ ⟨_,g1,p1,c1,(Ch rfl rfl).2 ⟨?_,rfl⟩⟩;{unfold execOp;simp only[ho,hv,Instr.sliceAt,cz,run_underlying hu,cu,Instr.slice,b3];rw[xY (n:=n) (l:=0) (h:=hh.toNat) (m:=hh.toNat) b1 b2 (dr _) (bx _) (by omega)];simp[JD (f:=11) hP (w:=w) hE]};{simp only[AA];refine⟨_,hh.toNat,hh.toNat,rfl,z97.mono p1.1,none,_,by simp[G.EE,CT],bx _,fun _=>rfl⟩}
    ·exact h.elim
   ·exact h.elim
  ·exact h.elim
 ·rename_i src z8k x ho;obtain⟨_,hn,h⟩:=h;split at h;{rename_i ys hys;exact⟨_,_,h,rfl,rfl,fun Γ w a c hr=>q0T hP c ho hys (hr x (by rw[ho];simp[cm])) hn⟩};{exact h.elim}
 ·exact h.elim
end
end
section
def LQ {α:Type}:List (Key × α)->Key->Bool
 | [],_=>false|(j,_)::l,k=>decide (j=k)||LQ l k
def TH {α:Type}:List (Key × α)->Key->α->List (Key × α)
 | [],_,_=>[]|(j,x)::l,k,y=>if j=k then(j,y)::l else(j,x)::TH l k y
def Se {α:Type} (l:List (Key × α)) (k:Key) (y:α):List (Key × α):=bif LQ l k then TH l k y else(k,y)::l
def LR {α:Type}:List (Nat × α)->Nat->Bool
 | [],_=>false|(j,_)::l,k=>decide (j=k)||LR l k
def Lv {α:Type}:List (Nat × α)->Nat->α->List (Nat × α)
 | [],_,_=>[]|(j,x)::l,k,y=>if j=k then(j,y)::l else(j,x)::Lv l k y
def NT {α:Type} (l:List (Nat × α)) (k:Nat) (y:α):List (Nat × α):=bif LR l k then Lv l k y else(k,y)::l
theorem rM {α:Type}:∀(l:List (Key × α)) (k:Key) (y:α) (j:Key),LQ l k=true->AZ (TH l k y) j=if k=j then some y else AZ l j
 | [],_,_,_,h=>by simp[LQ]at h
 |(i,x)::l,k,y,j,h=>by
  simp only[TH];by_cases e:i=k;{subst e;simp only[if_true,AZ];by_cases e2:i=j <;> simp[e2]}
  ·rw[if_neg e];simp only[AZ];have h':LQ l k=true:=by simpa[LQ,e]using h
   rw[rM l k y j h'];by_cases e2:i=j;{subst e2;simp[fun h:k=i=>e h.symm];intro h;exact absurd h.symm e};{simp[e2]}
theorem q4a {α:Type} (l:List (Key × α)) (k:Key) (y:α) (j:Key):AZ (Se l k y) j=if k=j then some y else AZ l j:=by
 unfold Se;cases h:LQ l k with
 |true=>exact rM l k y j h|false=>rfl
theorem rU {α:Type}:∀(l:List (Nat × α)) (k:Nat) (y:α) (j:Nat),LR l k=true->look (Lv l k y) j=if k=j then some y else look l j
 | [],_,_,_,h=>by simp[LR]at h
 |(i,x)::l,k,y,j,h=>by
  simp only[Lv];by_cases e:i=k;{subst e;simp only[if_true,look];by_cases e2:i=j <;> simp[e2]}
  ·rw[if_neg e];simp only[look];have h':LR l k=true:=by simpa[LR,e]using h
   rw[rU l k y j h'];by_cases e2:i=j;{subst e2;simp;intro h;exact absurd h.symm e};{simp[e2]}
theorem SB {α:Type} (l:List (Nat × α)) (k:Nat) (y:α) (j:Nat):look (NT l k y) j=if k=j then some y else look l j:=by
 unfold NT;cases h:LR l k with
 |true=>exact rU l k y j h|false=>rfl
def S.put (s:S) (k:Key) (o:O):S:={s with loc:=Se s.loc k o}
def S.tok (s:S) (t:Nat) (L:Option Nat):S:={s with tk:=NT s.tk t L}
def Ev:List (Nat × List Nat)->S->S
 | [],s=>s|(t,_)::σ,s=>Ev σ (s.tok t none)
theorem EG (s:S) (k j:Key) (o:O):(s.put k o).obj j=if k=j then some o else s.obj j:=by simp only[S.put,jt,Cs,q4a];by_cases h:k=j;{simp only[h,if_true]};{simp only[if_neg h]}
theorem Zy (s:S) (t u:Nat) (L:Option Nat):(s.tok t L).live u=if t=u then L else s.live u:=by simp only[S.tok,S.live,Ed,SB];by_cases h:t=u;{subst h;simp only[if_true];cases L <;> rfl};{simp[h]}
theorem VJ (s:S) (t u:Nat) (L:Option Nat):(s.tok t L).known u=(decide (t=u)||s.known u):=by simp only[S.tok,S.known,SB];by_cases h:t=u;{subst h;simp};{simp[h]}
theorem tB:∀(σ:List (Nat × List Nat)) (s:S) (k:Key),(Ev σ s).obj k=s.obj k
 | [],_,_=>rfl|(t,_)::σ,s,k=>by simp only[Ev,tB σ];rfl
theorem rD:∀(σ:List (Nat × List Nat)) (s:S) (u:Nat),(Ev σ s).live u=match look σ u with|some _=>none|none=>s.live u
 | [],_,_=>rfl|(t,p)::σ,s,u=>by simp only[Ev,rD σ,Zy,look];by_cases h:t=u;{subst h;simp;cases look σ t <;> rfl};{simp[h]}
theorem Ze:∀(σ:List (Nat × List Nat)) (s:S) (u:Nat),s.known u=true->(Ev σ s).known u=true
 | [],_,_,h=>h|(t,p)::σ,s,u,h=>by simp only[Ev];exact Ze σ _ u (by rw[VJ,h];simp)
theorem pR:∀(σ:List (Nat × List Nat)) (s:S) (u:Nat),look σ u≠none->(Ev σ s).known u=true
 | [],_,_,h=>by simp[look]at h
 |(t,p)::σ,s,u,h=>by simp only[Ev];by_cases e:t=u;{subst e;exact Ze σ _ t (by rw[VJ];simp)};{exact pR σ _ u (by simpa[look,e]using h)}
def Gd (d:Nat):List (Key × O)->S->S
 | [],s=>s|(k,o)::L,s=>(Gd d L s).put (dn d k) (o.ren (dn d))
def HV (d:Nat):List (Nat × Option Nat)->S->S
 | [],s=>s|(m,x)::l,s=>(HV d l s).tok (rk d m) x
def Gr:List Nat->S->S
 | [],s=>s|t::l,s=>(Gr l s).tok t none
theorem tC (d:Nat):∀(L:List (Key × O)) (s:S) (k:Key),(Gd d L s).obj k=match AZ (dnL d L) k with|some o=>some o|none=>s.obj k
 | [],_,_=>rfl|(j,o)::L,s,k=>by simp only[Gd,EG,dnL,AZ,tC d L s k];split <;> rfl
theorem zO (d:Nat):∀(L:List (Key × O)) (s:S),(Gd d L s).tk=s.tk
 | [],_=>rfl|(j,o)::L,s=>by simp only[Gd,S.put,zO d L s]
theorem rS (d:Nat):∀(l:List (Nat × Option Nat)) (s:S) (t:Nat),look (HV d l s).tk t=match look (dnT d l) t with|some x=>some x|none=>look s.tk t
 | [],_,_=>rfl|(m,x)::l,s,t=>by simp only[HV,S.tok,SB,dnT,look,rS d l s t];split <;> rfl
theorem aE (d:Nat):∀(l:List (Nat × Option Nat)) (s:S),(HV d l s).loc=s.loc/\(HV d l s).A=s.A
 | [],_=>⟨rfl,rfl⟩|(m,x)::l,s=>by simp only[HV,S.tok];exact aE d l s
theorem rO:∀(l:List Nat) (s:S) (t:Nat),look (Gr l s).tk t=match look (Hc l) t with|some x=>some x|none=>look s.tk t
 | [],_,_=>rfl|m::l,s,t=>by simp only[Gr,S.tok,SB,Hc,look,rO l s t];split <;> rfl
theorem aC:∀(l:List Nat) (s:S),(Gr l s).loc=s.loc/\(Gr l s).A=s.A
 | [],_=>⟨rfl,rfl⟩|m::l,s=>by simp only[Gr,S.tok];exact aC l s
def S.ret (s:S) (tip:Bool) (ys:List V) (d:Nat) (v:V) (L:List (Key × O)):S:=HV d (v.tkR 2000) (Gr (DQ tip s ys) (Gd d L s))
theorem xH (s:S) (tip:Bool) (ys:List V) (d:Nat) (v:V) (L:List (Key × O)) (k:Key):(s.ret tip ys d v L).obj k=(s.back tip ys d v L).obj k:=by have h1:=aE d (v.tkR 2000) (Gr (DQ tip s ys) (Gd d L s));have h2:=aC (DQ tip s ys) (Gd d L s);have h3:=tC d L s k;unfold jt at h3 ⊢;simp only[S.ret,h1.1,h1.2,h2.1,h2.2,h3];unfold Cs S.back;simp only[LZ];cases AZ (dnL d L) k <;> rfl
theorem xI (s:S) (tip:Bool) (ys:List V) (d:Nat) (v:V) (L:List (Key × O)) (t:Nat):look (s.ret tip ys d v L).tk t=look (s.back tip ys d v L).tk t:=by simp only[S.ret,rS,rO,zO,S.back,NG];cases look (dnT d (v.tkR 2000)) t <;> cases look (Hc (DQ tip s ys)) t <;> rfl
def gOk (s:S) (d:Nat):List (Key × O)->Prop
 | []=>True|(.g k,_)::L=>(s.obj k).isSome=true/\gOk s d L|(.l j,_)::L=>s.obj (.l (rk d j))=none/\gOk s d L
def tOk (s:S) (d:Nat):List (Nat × Option Nat)->Prop
 | []=>True|(m,_)::l=>s.known (rk d m)=false/\tOk s d l
theorem ZM {s:S} {d:Nat}:∀{L:List (Key × O)} {k:Key} {o:O},gOk s d L->AZ L (.g k)=some o->s.obj k≠none
 | [],_,_,_,h=>by simp[AZ]at h
 |(.g j,o')::L,k,o,hg,h=>by simp only[AZ]at h;split at h;{rename_i e;cases e;have:=hg.1;intro h';rw[h']at this;cases this};{exact ZM hg.2 h}
 |(.l j,o')::L,k,o,hg,h=>by simp[AZ]at h;exact ZM hg.2 h
theorem ZN {s:S} {d:Nat}:∀{L:List (Key × O)} {j:Nat} {o:O},gOk s d L->AZ L (.l j)=some o->s.obj (.l (rk d j))=none
 | [],_,_,_,h=>by simp[AZ]at h
 |(.l i,o')::L,j,o,hg,h=>by simp only[AZ]at h;split at h;{rename_i e;cases e;exact hg.1};{exact ZN hg.2 h}
 |(.g i,o')::L,j,o,hg,h=>by simp[AZ]at h;exact ZN hg.2 h
theorem yV {s:S} {d:Nat}:∀{l:List (Nat × Option Nat)} {m:Nat} {x:Option Nat},tOk s d l->look l m=some x->s.known (rk d m)=false
 | [],_,_,_,h=>by simp[look]at h
 |(i,y)::l,m,x,hg,h=>by simp only[look]at h;split at h;{rename_i e;subst e;exact hg.1};{exact yV hg.2 h}
def top (X:Cx) (md:List (Nat × Nat)) (dst:Nat) (o:Oper) (ρ:Operand->V) (s:S) (K:V->S->Prop):Prop:=
 match o.op with
 | .store T p y=>(match ρ p with
   | .ptr k q τ=>(match s.obj k with
     |some (.box x)=>τ=ty X.P T/\τ.known=true/\(Cj τ (ρ y)).ty=τ/\(Cj τ (ρ y)).plain=true/\x.at q≠.any/\x.ty.CP=true/\(Cj τ (ρ y)).okH=true/\
       K .any (Ev ((Cj τ (ρ y)).sites s.live q) (s.put k (.box (x.setAt q ((Cj τ (ρ y)).Cf ((Cj τ (ρ y)).sites s.live q) s.live q)))))
     |_=>False)
   |_=>False)
 | .box _ x=>(ρ x).plain=true/\(ρ x).okH=true/\s.obj (.l dst)=none/\
   K (.ptr (.l dst) [] (ρ x).ty) (Ev ((ρ x).sites s.live []) (s.put (.l dst) (.box ((ρ x).Cf ((ρ x).sites s.live []) s.live []))))
 | .load T x=>(match ρ x with| .ptr k q τ=>(match s.obj k with|some (.box y)=>(match y.at q with| .ts eb e cs=>Ck md dst=1/\τ=ty X.P T/\τ= .slice eb e/\y.ty.CP=true/\s.known dst=false/\K (.sl eb e cs dst) ((s.put k (.box (y.setAt q (.d (.slice eb e) (.slice cs))))).tok dst (some cs.length))|_=>False)|_=>False)|_=>False)
 | .mapUpdate T x i y=>(match Ht X.P T,ρ x with
   |some (kt,et),.mp k=>(match s.obj k with
     |some (.map kτ vτ es)=>kτ=ty X.P kt/\vτ=ty X.P et/\Cr X.P kt=true/\kτ.flat=true/\(ρ i).Dr kτ/\(Cj vτ (ρ y).Cg).ty=vτ/\(Cj vτ (ρ y).Cg).plain=true/\(Cj vτ (ρ y).Cg).BW=true/\
       K .any (s.put k (.map kτ vτ (FF es (ρ i).toC (Cj vτ (ρ y).Cg))))
     |_=>False)
   |_,_=>False)
 | .call c=>(match c.callee with
   | .value fo=>(match ρ fo with
     | .fn f yg=>JR X.P f=true/\c.argTypes.toList.length=c.args.toList.length/\HB (DQ (Ck md dst==1) s (FA (c.args.toList.map ρ) yg))=true/\
      ∃v L,Cc X f (DU X.P (Ck md dst==1) s (Ju c.argTypes.toList yg) (FA (c.args.toList.map ρ) yg)) s.up v L/\gOk s dst L/\tOk s dst (v.tkR 2000)/\
       K ((v.Da 2000).ren (dn dst) (rk dst)) (s.ret (Ck md dst==1) (FA (c.args.toList.map ρ) yg) dst v L)
     |_=>False)
   | .builtin .append=>(match c.args.toList,c.argTypes.toList with
     | [x,y],[t,t']=>Cb X.P (BK X.P t)=true/\(match ty X.P t,ρ x with
       | .slice eb e,.sl eb' e' cs tk=>eb'=eb/\e'=e/\s.live tk=some cs.length/\
         Ib X.P s t' eb e (ρ y) fun ys=>(cs.length+ys.length)*eb<=140737488355328/\cs.length+ys.length<=maxLen/\K (.sl eb e (cs++ys) tk) (s.tok tk (some (cs.length+ys.length)))
       | .slice eb e,.sr k [] 0 n none eb' e'=>(match s.obj k with
         |some (.box (.d (.arr M e2) cc))=>eb'=eb/\e'=e/\e2=e/\∃d,s.obj (.l d)=none/\
           Ib X.P s t' eb e (ρ y) fun ys=>(n+ys.length)*eb<=140737488355328/\n+ys.length<=maxLen/\
            K (.sr (.l d) [] 0 (n+ys.length) none eb e) ((s.put k (.dead (.arr M e))).put (.l d) (.box (.d (.arr (n+ys.length) e) (.agg (cc.elems.take n++ys)))))
         |_=>False)
       |_,_=>False)
     |_,_=>False)
   | .builtin .copy=>(match c.args.toList,c.argTypes.toList with
     | [x,y],[t,t']=>Cb X.P (BK X.P t)=true/\(match ty X.P t,ρ x with
       | .slice eb e,.sr k q lo n (some _) eb' e'=>(match s.obj k with
         |some (.box Z)=>(match Z.at q with
          | .d (.arr m e2) cc=>eb'=eb/\e'=e/\e2=e/\Z.ty.CP=true/\0<n/\
            Ib X.P s t' eb e (ρ y) fun ys=>K (.d (.int .i64) (.int (min ys.length n:Nat))) (s.put k (.box (Z.setAt q (.d (.arr m e) (.agg (Dk cc.elems lo n ys))))))
          |_=>False)
         |_=>False)
       |_,_=>False)
     |_,_=>False)
   |_=>False)
 |_=>False
def gY (X:Cx) (o:Oper) (ρ:Operand->V) (s:S) (v:V) (s1:S):Prop:=
 s1.A=s.A/\s1.env=s.env/\∀(Γ:G) (w:World) (a:Act),Γ.gl=X.gl->AY Γ w s->(∀y∈o.op.operands,AK Γ (ρ y) (a.eval y))->BU X.P o a w (BX Γ w s1 v)
section
variable {X:Cx} {Γ:G} {w:World} {s:S}
theorem BX.congr {s1 s2:S} {x:V} {v:Value} {w':World} (h:BX Γ w s1 x v w') (h1:∀k,s2.obj k=s1.obj k) (h2:∀t,s2.live t=s1.live t) (h3:∀t,s1.known t=true->s2.known t=true):BX Γ w s2 x v w':=by obtain⟨Γ',a,b,c,d⟩:=h;exact⟨Γ',a,b,c.congr h1 h2 h3,d⟩
theorem RU:∀(σ:List (Nat × List Nat)) (s:S),(Ev σ s).env=s.env/\(Ev σ s).A=s.A
 | [],_=>⟨rfl,rfl⟩|(t,_)::σ,s=>by simp only[Ev];exact RU σ _
theorem Yn (d:Nat):∀(L:List (Key × O)) (s:S),(Gd d L s).env=s.env/\(Gd d L s).A=s.A
 | [],_=>⟨rfl,rfl⟩|_::L,s=>by simp only[Gd,S.put];exact Yn d L s
theorem mO (d:Nat):∀(l:List (Nat × Option Nat)) (s:S),(HV d l s).env=s.env
 | [],_=>rfl|_::l,s=>by simp only[HV,S.tok];exact mO d l s
theorem mN:∀(l:List Nat) (s:S),(Gr l s).env=s.env
 | [],_=>rfl|_::l,s=>by simp only[Gr,S.tok];exact mN l s
theorem xG (tip:Bool) (ys:List V) (d:Nat) (v:V) (L:List (Key × O)):(s.ret tip ys d v L).env=s.env/\(s.ret tip ys d v L).A=s.A:=by unfold S.ret;exact⟨by rw[mO,mN,(Yn d L s).1],by rw[(aE _ _ _).2,(aC _ _).2,(Yn d L s).2]⟩
theorem rF {s s':S} (h:∀t,look s.tk t=look s'.tk t) (t:Nat):s.live t=s'.live t:=by unfold S.live Ed;rw[h]
theorem pS {s s':S} (h:∀t,look s.tk t=look s'.tk t) (t:Nat):s.known t=s'.known t:=by unfold S.known;rw[h]
theorem pP {σ:List (Nat × List Nat)} {k:Key} {o:O} {x:V} {v:Value} {w':World} (h:BX Γ w {s with loc:=(k,o)::s.loc,tk:=Jy σ++s.tk} x v w'):BX Γ w (Ev σ (s.put k o)) x v w':=by refine h.congr (fun j=>?_) (fun t=>?_) (fun t ht=>?_);{rw[tB,EG];exact(DZ {s with tk:=Jy σ++s.tk} k j o).symm};{rw[rD];unfold S.live Ed;simp only[VY];cases look σ t <;> rfl};{unfold S.known at ht;simp only[VY]at ht;cases hs:look σ t with|none=>rw[hs]at ht;exact Ze σ _ t ht|some p=>exact pR σ _ t (by rw[hs];simp)}
theorem XJ (hP:BS X.P=true) {md:List (Nat × Nat)} {dst:Nat} {o:Oper} {ρ:Operand->V} {K:V->S->Prop} (h:top X md dst o ρ s K):∃v s1,K v s1/\gY X o ρ s v s1:=by
 unfold top at h;split at h;{rename_i T p y ho;split at h;{rename_i k q τ hp;split at h;{rename_i x yi;obtain⟨h1,h2,h3,h4,h5,h6,h7,hK⟩:=h;refine⟨_,_,hK,by rw[(RU _ _).2];rfl,by rw[(RU _ _).1];rfl,fun Γ w a _ c hr=>?_⟩;have hpr:=hr p (by rw[ho];simp[cm]);rw[hp]at hpr;have:=q03 (Y:=ρ y) hP c ho hpr (hr y (by rw[ho];simp[cm])) yi h1 h2 h3 h4 h5 h6 h7;exact this.mono fun v w' zf=>pP zf};{exact h.elim}};{exact h.elim}};{rename_i T x ho;obtain⟨h1,h2,h3,hK⟩:=h;refine⟨_,_,hK,by rw[(RU _ _).2];rfl,by rw[(RU _ _).1];rfl,fun Γ w a _ c hr=>?_⟩;exact(q0N c ho h3 (hr x (by rw[ho];simp[cm])) h1 h2).mono fun v w' zf=>pP zf}
 ·rename_i T x ho;split at h
  ·rename_i k q τ hx;split at h
   ·rename_i y yi;split at h
    ·rename_i eb e cs hat;obtain⟨_,h2,h3,h4,h5,hK⟩:=h;refine⟨_,_,hK,rfl,rfl,fun Γ w a _ c hr=>?_⟩;have hxr:=hr x (by rw[ho];simp[cm]);rw[hx]at hxr;obtain⟨b,τ0,o0,hι,hw,hv⟩:=HF hxr;obtain⟨u,r1,r2⟩:=aA (T:=T) hP c hxr yi (by rw[hat];simp) h2 (by rw[h3];rfl);rw[hat]at r2;simp only[view]at r2;obtain⟨aa,n,cap,e1,_⟩:=Kb (eb:=eb) (e:=e) (cs:=cs) r2 (by simp[V.Fk,ax]);subst e1;rw[h3]at hw;have zj:w.cell? ⟨b,o0,none⟩=some (.slice aa n cap):=by
      have r1':=r1;rw[hv]at r1';simp only[Instr.loadAt,Instr.sureAddr,cz,ej,cu]at r1';obtain⟨b2,cells,E,e1,_,_,e4,e5,e6,e7,_⟩:=c.own hι yi;obtain⟨fr0,e4,zb⟩:=e4;rw[hι]at e1;cases e1;obtain⟨g1,g2,g3⟩:=e6.at_ hw (by rw[hat];simp) e7;have hcl:(chunk cells.toList 0 y.ty.size).length=y.ty.size:=Ek _ _ _ (by simpa using e5);rw[hcl]at g2;simp only[gu]at g2
      obtain⟨u',q1,q2,q3⟩:=Wo (T:=T) (E:=E) (fr:=fr0) (off:=o0) hP (h2.symm.trans h3) rfl e4 (by simp only[gu];omega) (by
       have:=g3.one (by rw[hat];rfl);simp only[gu]at this ⊢
       rwa [FB _ _ _ _ _ (by omega),bf]at this)
      rw[r1']at q1;cases q1;simp only[ek,gu]at q2;have:(chunk cells.toList o0 1)[0]? =some (.slice aa n cap):=by rw[<-q2];rfl
      rw[EP]at this;simp at this;simp[mu,e4,this]
     obtain⟨Γ',t1,t2,t3,t4⟩:=c.take (t:=dst) yi hat h4 h5 hι hw zj;refine BU.val (v:=.slice aa n cap) (w':=w) (by unfold execOp;simp[ho,r1]) ⟨Γ',t1,t2,t3.congr (fun j=>?_) (fun t=>?_) (fun t ht=>?_),t4⟩;{refine(EG s k j _).trans ?_;exact(DZ {s with tk:=(dst,some cs.length)::s.tk} k j _).symm};{refine(Zy _ dst t _).trans ?_;exact(ND {s with loc:=(k,.box (y.setAt q (.d (.slice eb e) (.slice cs))))::s.loc} dst t (some cs.length)).symm};{rw[VJ];exact(Mw {s with loc:=(k,.box (y.setAt q (.d (.slice eb e) (.slice cs))))::s.loc} dst t (some cs.length)).symm.trans ht}
    ·exact h.elim
   ·exact h.elim
  ·exact h.elim
 ·rename_i T x i y ho;split at h
  ·rename_i kt et k hT hx;split at h
   ·rename_i kτ vτ es yi;obtain⟨rfl,rfl,h1,h2,h3,h4,h5,h6,hK⟩:=h;refine⟨_,_,hK,rfl,rfl,fun Γ w a _ c hr=>?_⟩;have hxr:=hr x (by rw[ho];simp[cm]);rw[hx]at hxr;have hir:=hr i (by rw[ho];simp[cm]);have hd:ρ i= .d (ty X.P kt) (ρ i).toC:=by cases hi:ρ i <;> simp[hi,V.Dr]at h3;subst h3;rfl
    rw[hd]at hir;exact(q00 hP c ho hT hxr hir (Xq (hr y (by rw[ho];simp[cm])).Cg) yi h1 h2 h4 h5 h6).mono fun v w' zf=>zf.congr (fun j=>(EG s k j _).trans (DZ s k j _).symm) (fun _=>rfl) (fun _ h=>h)
   ·exact h.elim
  ·exact h.elim
 ·rename_i cl ho;obtain⟨callee,args,ts⟩:=cl;split at h
  ·rename_i fo hfo;simp only at hfo h;subst hfo;split at h
   ·rename_i f yg hf;obtain⟨h1,h2,h3,v,L,D,hg,ht,hK⟩:=h;refine⟨_,_,hK,(xG ..).2,(xG ..).1,fun Γ w a hgl c hr=>?_⟩;have hrf:=hr fo (by rw[ho];simp[cm,du]);rw[hf]at hrf
    have:=lJ (A:=s.up) (d:=dst) rfl hgl c ho h1 h2 hrf (fun y hy=>hr y (by rw[ho];simp only[cm,du];exact jd _ (kf.1 hy))) h3 D (fun _ _ h=>h)
     (fun k o hk=>ZM hg hk) (fun j o hj=>ZN hg hj) (fun m x hm=>yV ht hm)
    exact this.mono fun v' w' zf=>zf.congr (fun k=>xH ..) (fun t=>rF (fun t=>xI ..) t) (fun t hk=>by rw[pS (fun t=>xI ..)];exact hk)
   ·exact h.elim
  ·rename_i hb;simp only at hb h;subst hb;split at h
   ·rename_i x y t t' yt hts;have z8d:args=#[x,y]:=by cases args;simpa using yt
    have z8u:ts=#[t,t']:=by cases ts;simpa using hts
    subst z8d;subst z8u;obtain⟨h1,h⟩:=h;split at h;{rename_i eb e eb' e' cs tk htt hx;obtain⟨rfl,rfl,hl,h⟩:=h;obtain⟨ys,⟨b1,b2,hK⟩,hs⟩:=TR hP h;refine⟨_,_,hK,rfl,rfl,fun Γ w a _ c hr=>?_⟩;have hyr:=hr y (by rw[ho];simp[cm,du]);have hxr:=hr x (by rw[ho];simp[cm,du]);rw[hx]at hxr;exact(q0J hP c ho htt h1 hl hxr hyr hs b1 b2).mono fun v w' zf=>zf.congr (fun _=>rfl) (fun u=>(Zy s tk u _).trans (ND s tk u _).symm) (fun u hu=>by rw[VJ];exact(Mw s tk u _).symm.trans hu)};{rename_i eb e k n eb' e' htt hx;split at h;{rename_i M e2 cc yi;obtain⟨rfl,rfl,rfl,d,hd,h⟩:=h;obtain⟨ys,⟨b1,b2,hK⟩,hs⟩:=TR hP h;refine⟨_,_,hK,rfl,rfl,fun Γ w a _ c hr=>?_⟩;have hyr:=hr y (by rw[ho];simp[cm,du]);have hxr:=hr x (by rw[ho];simp[cm,du]);rw[hx]at hxr;exact(q0K hP c ho htt h1 hd yi hxr hyr hs b1 b2).mono fun v w' zf=>zf.congr (fun j=>by rw[EG,EG];rw[show jt {s with loc:=(Key.l d,O.box (.d (.arr (n+ys.length) _) (.agg (cc.elems.take n++ys))))::(k,O.dead _)::s.loc} j=jt {({s with loc:=(k,O.dead _)::s.loc}:S)with loc:=(Key.l d,_)::({s with loc:=(k,O.dead _)::s.loc}:S).loc} j from rfl,DZ,DZ]) (fun u=>rfl) (fun u hu=>hu)};{exact h.elim}};{exact h.elim}
   ·exact h.elim
  ·rename_i hb;simp only at hb h;subst hb;split at h
   ·rename_i x y t t' yt hts;have z8d:args=#[x,y]:=by cases args;simpa using yt
    have z8u:ts=#[t,t']:=by cases ts;simpa using hts
    subst z8d;subst z8u;obtain⟨h1,h⟩:=h;split at h;{rename_i eb e k q lo n cp eb' e' htt hx;split at h;{rename_i Z yi;split at h;{rename_i m e2 cc hZ;obtain⟨rfl,rfl,rfl,hd,h0,h⟩:=h;obtain⟨ys,hK,hs⟩:=TR hP h;refine⟨_,_,hK,rfl,rfl,fun Γ w a _ c hr=>?_⟩;have hyr:=hr y (by rw[ho];simp[cm,du]);have hxr:=hr x (by rw[ho];simp[cm,du]);rw[hx]at hxr;exact(q0V hP c ho htt yi hZ hd h0 h1 hxr hyr hs).mono fun v w' zf=>zf.congr (fun j=>by rw[EG,DZ]) (fun u=>rfl) (fun u hu=>hu)};{exact h.elim}};{exact h.elim}};{exact h.elim}
   ·exact h.elim
  ·exact h.elim
 ·exact h.elim
end
end
section
def At (X:Cx) (n:Nat) (Γ0:G) (s:S) (a:Act) (w:World):Prop:=
 ∃Γ,GLe Γ0 Γ/\Γ.gl=X.gl/\AY Γ w s/\Gm Γ s a.tmps/\a.tmps.size=n/\a.defers=[]/\AOk s.A
def S.set (s:S) (d:Option Nat) (x:V):S:=
 match d with
 |some d=>{s with env:=NT s.env d x}|none=>s
def GD (s:S):List (Key × O)->Prop
 | []=>True|(k,_)::l=>s.obj k=none/\GD s l
def GG (s:S):List (Nat × Option Nat)->Prop
 | []=>True|(t,_)::l=>s.known t=false/\GG s l
theorem Ux {s:S} {lo:List (Key × O)} {tn:List (Nat × Option Nat)} (h:GD s lo) (h':GG s tn):Tm s lo tn:=by
 constructor
 ·induction lo with
  |nil=>intro k o hk;simp[AZ]at hk|cons x lo ih=>
   intro k o hk;simp only[AZ]at hk;split at hk;{rename_i e;rw[<-e];exact h.1};{exact ih h.2 k o hk}
 ·induction tn with
  |nil=>intro k o hk;simp[look]at hk|cons x tn ih=>
   intro k o hk;simp only[look]at hk;split at hk;{rename_i e;rw[<-e];exact h'.1};{exact ih h'.2 k o hk}
def rZ (X:Cx) (dst:Nat) (o:Oper) (s:S) (K:V->S->Prop):Prop:=
  (iop X [] (Ec (Gx (o.op.operands.toList.map (BL X.gl s))) s) dst o (fun y=>De s (BL X.gl s y)) (Ec (Gx (o.op.operands.toList.map (BL X.gl s))) s)
   (fun v lo tn=>GD (Ec (Gx (o.op.operands.toList.map (BL X.gl s))) s) lo/\GG (Ec (Gx (o.op.operands.toList.map (BL X.gl s))) s) tn/\K v ((Ec (Gx (o.op.operands.toList.map (BL X.gl s))) s).add lo tn))\/
  top X [] dst o (fun y=>De s (BL X.gl s y)) (Ec (Gx (o.op.operands.toList.map (BL X.gl s))) s) K)
def lop (X:Cx) (md:List (Nat × Nat)) (dst:Nat) (o:Oper) (s:S) (K:V->S->Prop):Prop:=Ck md dst=100/\rZ X dst o s K
theorem sA:∀{xs:List V} {x:V} {j:Nat},x∈xs->j∈GY x->j∈Gx xs
 |y::ys,x,j,hx,hj=>by simp only[Gx,eh];rcases ij.1 hx with rfl|hx;{exact .inl hj};{exact .inr (sA hx hj)}
theorem Rx:∀(js:List Nat) (s:S),(Ec js s).env=s.env/\(Ec js s).A=s.A
 | [],s=>⟨rfl,rfl⟩|j::l,s=>by simp only[Ec];have:=Rx l (match s.obj (.l j)with|some (.box (.d τ _))=>(match τ with| .arr M e=>{s with loc:=(.l j,.dead (.arr M e))::s.loc}|_=>s)|_=>s);refine⟨this.1.trans ?_,this.2.trans ?_⟩ <;> (split <;> (try rfl);split <;> rfl)
def sop (X:Cx) (md:List (Nat × Nat)) (dst:Nat) (o:Oper) (s:S) (K:V->S->Prop):Prop:=
 lop X md dst o s K\/(Ck md dst≠1/\iop X md s dst o (BL X.gl s) s (fun v lo tn=>GD s lo/\GG s tn/\K v (s.add lo tn)))\/top X md dst o (BL X.gl s) s K\/(fop X o (BL X.gl s) fun v=>K v s)\/sl3 X md dst o (BL X.gl s) s K
def Gw (ops:Array Oper) (j:Nat):Option Nat:=(ops[j]?).bind (·.dst)
def BH (o:Oper):Nat:=o.dst.getD 0
def gk (b want:Bool) (p q:Prop):Prop:=(b=want->p)/\(b≠want->q)
theorem Bm (p q:Prop):gk true true p q=p:=by simp[gk]
theorem Bj (p q:Prop):gk false false p q=p:=by simp[gk]
theorem Bl (p q:Prop):gk true false p q=q:=by simp[gk]
theorem Bk (p q:Prop):gk false true p q=q:=by simp[gk]
def gv (ops:Array Oper) (s:S) (j:Nat):V:=match Gw ops j with|none=>.any|some t=>s.get t
def gx (x:V) (want:Bool) (p q:Prop):Prop:=match x with| .d .bool c=>gk c.toBool want p q| .tup []=>q|_=>False
def vc (X:Cx) (md:List (Nat × Nat)) (ops:Array Oper) (Φ:S->Prop):List Oper->S->Prop
 | [],s=>Φ s|o::rest,s=>match o.guard with|none=>sop X md (BH o) o s fun v s'=>vc X md ops Φ rest (s'.set o.dst v)|some (j,want)=>gx (gv ops s j) want (sop X md (BH o) o s fun v s'=>vc X md ops Φ rest (s'.set o.dst v)) (vc X md ops Φ rest (s.set o.dst (.tup [])))
theorem xA {Γ:G}:AK Γ (.tup []) undef:=⟨#[],rfl,by simp[Bb]⟩
theorem KF (s:S) (d:Option Nat) (v:V) (t:Nat):(s.set d v).get t=if d=some t then v else s.get t:=by
 cases d with
 |none=>simp[S.set]|some d=>
  simp only[S.set,S.get,SB];by_cases h:d=t;{simp[h]}
  ·have:¬(some d=some t):=by intro e;cases e;exact h rfl
   simp[h]
section
variable {X:Cx} {n:Nat} {Γ0:G}
theorem q86 {Γ:G} {s:S} {a:Act} {d:Option Nat} {x:V} {v:Value} (hs:Gm Γ s a.tmps) (hd:∀t,d=some t->t<a.tmps.size) (hx:AK Γ x v):
  Gm Γ (s.set d x) (a.put d v).tmps:=by
 intro i;rw[KF];cases d with
 |none=>simpa[sq]using hs i|some t=>
  have:=hd t rfl;by_cases h:t=i;{subst h;simp only[sq,if_true];simp[this];exact hx}
  ·have h':¬(some t=some i):=by intro e;cases e;exact h rfl
   rw[if_neg h'];have:=hs i;simpa[sq,Array.getElem?_setIfInBounds_ne h]using this
theorem Qu {Γ:G} {w:World} {s:S} (c:AY Γ w s) (d:Option Nat) (x:V):AY Γ w (s.set d x):=by
 cases d with
 |none=>exact c|some t=>exact c.env _
theorem Uk {Γ:G} {w:World} {s s':S} {a:Act} (hgl:Γ.gl=X.gl) (c:AY Γ w s') (hs:∀t,AK Γ (s.get t) (a.tmps.getD t undef)) {y:Operand} (hy:WB y=true):AK Γ (BL X.gl s y) (a.eval y):=by
 cases y with
 |tmp t=>exact hs t|func f=>
  show AK Γ (.fn f []) (.func (.func f) #[] #[]);exact(Ca rfl).2 ⟨by simp[AA,Bb,ek],by simp[qk,ja,Bi]⟩
 |global g=>
  simp only[BL];cases hg:X.gl g with
  |none=>simp[AK]|some x=>
   obtain⟨τ,cc⟩:=x;obtain⟨l,h1,h2,h3⟩:=c.hgl g τ cc (by rw[hgl];exact hg);exact Nc h1 (by simpa using h2) h3
 |const v=>
  simp only[BL,Act.eval];unfold YN;simp only[WB]at hy;split;{simp[YM]at hy;exact EB hy.1 hy.2};{exact Dn};{simp[YM]at hy;rename_i str;exact TE (l:=str.data.toList) (by simpa using hy)};{exact(Ca rfl).2 ⟨by simp[AA,AU,ek],by simp[qk,ja,Bi]⟩};{exact(Ca rfl).2 ⟨by simp[AA,ek],by simp[qk,ja,Bi]⟩};{exact(Ca rfl).2 ⟨by simp[AA,AU,ek],by simp[qk,ja,Bi]⟩};{exact(Ca rfl).2 ⟨by simp[AA,AU,ek],by simp[qk,ja,Bi]⟩};{exact(Ca rfl).2 ⟨by simp[AA,AU,ek],by simp[qk,ja,Bi]⟩};{simp[AK]}
theorem MR {s:S} {a:Act} {w:World} {d:Option Nat} {x:V} (hd:match d with|some d=>decide (d<n)=true|none=>True) {Γ:G} (h1:GLe Γ0 Γ) (h3:Γ.gl=X.gl) (c:AY Γ w s) (hs:Gm Γ s a.tmps) (hn:a.tmps.size=n) (hf:a.defers=[]/\AOk s.A) {v:Value} (hx:AK Γ x v):
  At X n Γ0 (s.set d x) (a.put d v) w:=by
 refine⟨Γ,h1,h3,Qu c d x,q86 hs (fun t ht=>?_) hx,?_,?_,?_⟩;{subst ht;simp at hd;omega};{cases d <;> simp[sq,hn]};{cases d <;> simp[sq,hf.1]};{cases d <;> exact hf.2}
theorem Lz {Γ:G} {s s':S} {t:Array Value} (h:s'.env=s.env) (hs:Gm Γ s t):Gm Γ s' t:=fun i=>by have:=hs i;simp only[S.get]at this ⊢;rw[h];exact this
theorem q9a (hP:BS X.P=true) {md:List (Nat × Nat)} {o:Oper} {s:S} {K:V->S->Prop} (hok:IP n o=true) (h:sop X md (BH o) o s K) {a:Act} {w:World} (hat:At X n Γ0 s a w):
  BU X.P o a w fun u w'=>∃v s',K v s'/\At X n Γ0 (s'.set o.dst v) (a.put o.dst u) w':=by
 obtain⟨Γ,g1,g3,c,hs,hn,hf⟩:=hat;simp only[IP,bg,Array.all_eq_true']at hok;have hd:match o.dst with|some d=>decide (d<n)=true|none=>True:=by
  cases ho:o.dst with
  |none=>trivial|some d=>have:=hok.2;rw[ho]at this;exact this
 have za:∀y∈o.op.operands,AK Γ (BL X.gl s y) (a.eval y):=fun y hy=>Uk g3 c hs (hok.1 y hy);rcases h with⟨_,h⟩|⟨_,h⟩|h|h|h
 ·obtain⟨Γ1,gl1,p1,c1,hcv⟩:=VU (Gx (o.op.operands.toList.map (BL X.gl s))) s c
  have z9B:∀y∈o.op.operands,AK Γ1 (De s (BL X.gl s y)) (a.eval y):=fun y hy=>
   hcv _ _ (za y hy) fun j hj=>sA (List.mem_map_of_mem (by simpa using hy)) hj
  have zk:=Rx (Gx (o.op.operands.toList.map (BL X.gl s))) s;have hs1:Gm Γ1 (Ec (Gx (o.op.operands.toList.map (BL X.gl s))) s) a.tmps:=Lz zk.1 (hs.Bn p1);have g31:Γ1.gl=X.gl:=gl1.gl.trans g3;rcases h with h|h;{obtain⟨v,lo,tn,⟨hf1,hf2,hK⟩,hI⟩:=Mt hP h;refine(hI Γ1 w a _ g31 c1 ⟨fun _ _ h _=>h,fun _ _ h=>h⟩ (Ux hf1 hf2) z9B).mono ?_;rintro u w' ⟨Γ',gle,hp,c',hv⟩;exact⟨_,_,hK,MR hd ((g1.trans gl1).trans gle) (gle.gl.trans g31) c' (Lz (s:=Ec (Gx (o.op.operands.toList.map (BL X.gl s))) s) rfl (hs1.Bn hp)) hn ⟨hf.1,by show AOk (Ec _ s).A;rw[zk.2];exact hf.2⟩ hv⟩};{obtain⟨v,s1,hK,hsA,he,hT⟩:=XJ hP h;refine(hT Γ1 w a g31 c1 z9B).mono ?_;rintro u w' ⟨Γ',gle,hp,c',hv⟩;exact⟨_,_,hK,MR hd ((g1.trans gl1).trans gle) (gle.gl.trans g31) c' (Lz he (hs1.Bn hp)) hn ⟨hf.1,by rw[hsA,zk.2];exact hf.2⟩ hv⟩}
 ·obtain⟨v,lo,tn,⟨hf1,hf2,hK⟩,hI⟩:=Mt hP h;refine(hI Γ w a s g3 c ⟨fun _ _ h _=>h,fun _ _ h=>h⟩ (Ux hf1 hf2) za).mono ?_;rintro u w' ⟨Γ',gle,hp,c',hv⟩;exact⟨_,_,hK,MR hd (g1.trans gle) (gle.gl.trans g3) c' (Lz rfl (hs.Bn hp)) hn hf hv⟩
 ·obtain⟨v,s1,hK,hsA,he,hT⟩:=XJ hP h;refine(hT Γ w a g3 c za).mono ?_;rintro u w' ⟨Γ',gle,hp,c',hv⟩;exact⟨_,_,hK,MR hd (g1.trans gle) (gle.gl.trans g3) c' (Lz he (hs.Bn hp)) hn ⟨hf.1,by rw[hsA];exact hf.2⟩ hv⟩
 ·obtain⟨v,hK,hI⟩:=ZB hP h;refine(hI Γ w a s c za).mono ?_;rintro u w' ⟨Γ',gle,hp,c',hv⟩;exact⟨_,_,hK,MR hd (g1.trans gle) (gle.gl.trans g3) c' (Lz rfl (hs.Bn hp)) hn hf hv⟩
 ·obtain⟨v,s1,hK,hsA,he,hT⟩:=q8Y hP h;refine(hT Γ w a c za).mono ?_;rintro u w' ⟨Γ',gle,hp,c',hv⟩;exact⟨_,_,hK,MR hd (g1.trans gle) (gle.gl.trans g3) c' (Lz he (hs.Bn hp)) hn ⟨hf.1,by rw[hsA];exact hf.2⟩ hv⟩
end
def DC (X:Cx) (n:Nat) (c:Code) (s:S) (Ψ:Exit->S->Prop):Prop:=
 ∀(Γ0:G) (a:Act) (w:World),At X n Γ0 s a w->c.wp X.P (fun e a w=>∃s',Ψ e s'/\At X n Γ0 s' a w) a w
def EI (X:Cx) (n:Nat) (s s':S):Prop:=∀(Γ0:G) (a:Act) (w:World),At X n Γ0 s a w->At X n Γ0 s' a w
section
variable {X:Cx} {n:Nat} {s:S} {Ψ:Exit->S->Prop}
theorem q2v {Γ:G} {ops:Array Oper} {a:Act} {o:Oper} {j t:Nat} {want b:Bool} (hg:o.guard=some (j,want)) (ht:Gw ops j=some t)
  (hs:AK Γ (.d .bool (.bool b)) (a.tmps.getD t undef)):jj o (yielded ops a.tmps)=(b==want):=by
 have e2:a.tmps.getD t undef= .bool b:=(GL hs).1;have z98:a.tmps[t]? =some (.bool b):=by
  rw[ib]at e2;cases h:a.tmps[t]? with
  |none=>rw[h]at e2;simp[undef]at e2|some v=>rw[h]at e2;simp at e2;rw[e2]
 simp only[Gw]at ht;simp[jj,hg,yielded,ht,z98]
theorem oO {Γ:G} {ops:Array Oper} {a:Act} {o:Oper} {j t:Nat} {want:Bool} {c:C} (hg:o.guard=some (j,want)) (ht:Gw ops j=some t)
  (hs:AK Γ (.d .bool c) (a.tmps.getD t undef)):jj o (yielded ops a.tmps)=(c.toBool==want):=by
 obtain⟨_,e⟩:=GL hs;rw[e]at hs;exact q2v hg ht hs
theorem oP {Γ:G} {ops:Array Oper} {a:Act} {o:Oper} {j t:Nat} {want:Bool} (hg:o.guard=some (j,want)) (ht:Gw ops j=some t)
  (hs:AK Γ (.tup []) (a.tmps.getD t undef)):jj o (yielded ops a.tmps)=false:=by
 obtain⟨vs,e,_⟩:=hs;have hnb:∀b,a.tmps[t]?≠some (.bool b):=by intro b h;rw[ib,h]at e;simp at e
 simp only[Gw]at ht;simp only[jj,hg,yielded,ht,Option.bind_some];rfl
theorem gF (hP:BS X.P=true) {Γ0:G} {md:List (Nat × Nat)} {ops:Array Oper} {Φ:S->Prop} {Q:Exit->Act->World->Prop} (hQ:∀s a w,Φ s->At X n Γ0 s a w->Q .normal a w):
  ∀(rest:List Oper) (s:S) (a:Act) (w:World),(∀o∈rest,IP n o=true)->vc X md ops Φ rest s->At X n Γ0 s a w->wpList X.P ops Q rest a w
 | [],s,a,w,_,h,hat=>hQ s a w h hat|o::rest,s,a,w,hok,h,hat=>by
  have run:(sop X md (BH o) o s fun v s'=>vc X md ops Φ rest (s'.set o.dst v))->o.wp X.P a w (wpList X.P ops Q rest) Q:=by intro h;refine q9a hP (hok o (by simp)) h hat _ _ ?_;rintro u w' ⟨v,s',hv,z8C⟩;exact gF hP hQ rest _ _ _ (fun o ho=>hok o (by simp[ho])) hv z8C
  have skip:vc X md ops Φ rest (s.set o.dst (.tup []))->wpList X.P ops Q rest (a.put o.dst undef) w:=by
   intro h;obtain⟨Γ,g1,g3,c,hs,hn,hf⟩:=hat;have hd:match o.dst with|some d=>decide (d<n)=true|none=>True:=by
    have:=hok o (by simp);simp only[IP,bg]at this;cases ho:o.dst with
    |none=>trivial|some d=>have:=this.2;rw[ho]at this;exact this
   exact gF hP hQ rest _ _ _ (fun o ho=>hok o (by simp[ho])) h (MR hd g1 g3 c hs hn hf xA)
  simp only[vc]at h;simp only[wpList];split at h
  ·rename_i hg;have:jj o (yielded ops a.tmps)=true:=by simp[jj,hg]
   rw[if_pos this];exact .inl (run h)
  ·rename_i j want hg;cases ht:Gw ops j with
   |none=>simp[gv,ht,gx]at h|some t=>
    simp only[gv,ht]at h;unfold gx at h;obtain⟨Γ,g1,g3,c,hs,hn,hf⟩:=id hat;have hst:=hs t;split at h;{rename_i cb hb;rw[hb]at hst;rw[oO hg ht hst];by_cases hbw:cb.toBool=want;{rw[if_pos (by simp[hbw])];exact .inl (run (h.1 hbw))};{rw[if_neg (by simp[hbw])];exact skip (h.2 hbw)}};{rename_i hb;rw[hb]at hst;rw[if_neg (by rw[oP hg ht hst];simp)];exact skip h};{exact h.elim}
theorem DC.mono {c:Code} {Ψ':Exit->S->Prop} (h:DC X n c s Ψ) (hq:∀e s,Ψ e s->Ψ' e s):DC X n c s Ψ':=
 fun Γ0 a w hat=>wp_mono (h Γ0 a w hat) fun e a w ⟨s',h1,h2⟩=>⟨s',hq _ _ h1,h2⟩
theorem DC.MH {c:Code} {s':S} (hw:EI X n s s') (h:DC X n c s' Ψ):DC X n c s Ψ:=
 fun Γ0 a w hat=>h Γ0 a w (hw Γ0 a w hat)
theorem EI.refl (s:S):EI X n s s:=fun _ _ _ h=>h
theorem EI.trans {s s' s'':S} (h:EI X n s s') (h':EI X n s' s''):EI X n s s'':=fun Γ0 a w hat=>h' Γ0 a w (h Γ0 a w hat)
theorem DE (hP:BS X.P=true) (md:List (Nat × Nat)) {id:Nat} {l:List Oper} (hok:l.all (IP n)=true) (h:vc X md l.toArray (fun s'=>Ψ .normal s') l s):DC X n (.region id l.toArray false) s Ψ:=by intro Γ0 a w hat;refine wp_region_lit (gF hP (fun s' a w hΨ hat=>⟨s',hΨ,hat⟩) l s a w (fun o ho=>List.all_eq_true.1 hok o ho) h hat)
theorem CX {c c':Code} (h:DC X n c s fun e s'=>match e with| .normal=>DC X n c' s' Ψ|e=>Ψ e s'):DC X n (c.seq c') s Ψ:=by
 intro Γ0 a w hat;refine wp_seq (wp_mono (h Γ0 a w hat) ?_);rintro e a w ⟨s',h1,h2⟩;cases e with
 |normal=>exact h1 Γ0 a w h2|exit _|goto _|ret|panic _|outgrown=>exact⟨s',h1,h2⟩
theorem Gq (h:Ψ .normal s):DC X n .skip s Ψ:=fun _ _ _ hat=>wp_skip ⟨s,h,hat⟩
theorem kQ {l:Nat} (h:Ψ .normal s):DC X n (.label l) s Ψ:=fun _ _ _ hat=>wp_label ⟨s,h,hat⟩
theorem FU (h:Ψ .ret s):DC X n .ret s Ψ:=fun _ _ _ hat=>wp_ret ⟨s,h,hat⟩
theorem q0z {id:Nat} (h:Ψ (.exit id) s):DC X n (.exit id) s Ψ:=fun _ _ _ hat=>wp_exit ⟨s,h,hat⟩
theorem q0A {id:Nat} (h:Ψ (.goto id) s):DC X n (.goto id) s Ψ:=fun _ _ _ hat=>wp_goto ⟨s,h,hat⟩
theorem UU {id:Nat} {c:Code} (h:DC X n c s fun e s'=>match e with| .exit id'=>if id'=id then Ψ .normal s' else Ψ (.exit id') s'|e=>Ψ e s'):DC X n (.block id c) s Ψ:=by
 intro Γ0 a w hat;refine wp_block (wp_mono (h Γ0 a w hat) ?_);rintro e a w ⟨s',h1,h2⟩;cases e with
 |exit id'=>
  simp only[Exit.inBlock]at h1 ⊢;split;{rename_i hid;rw[if_pos hid]at h1;exact⟨s',h1,h2⟩};{rename_i hid;rw[if_neg hid]at h1;exact⟨s',h1,h2⟩}
 |normal|goto _|ret|panic _|outgrown=>exact⟨s',h1,h2⟩
theorem Q8 {Γ0:G} {a:Act} {w:World} {t:Nat} {b:Bool} (hat:At X n Γ0 s a w) (h:s.get t= .d .bool (.bool b)):a.eval (.tmp t)= .bool b:=by obtain⟨Γ,g1,g3,c,hs,hn,hf⟩:=hat;have:=hs t;rw[h]at this;exact(GL this).1
theorem LF {t:Nat} {c c':Code} (b:Bool) (hb:s.get t= .d .bool (.bool b)) (h1:b=true->DC X n c s Ψ) (h2:b=false->DC X n c' s Ψ):DC X n (.cond (.tmp t) c c') s Ψ:=by
 intro Γ0 a w hat;refine wp_cond (t:=b) (Q8 hat hb) ?_;cases b with
 |true=>exact h1 rfl Γ0 a w hat|false=>exact h2 rfl Γ0 a w hat
theorem kP {t:Nat} {c c':Code} {v:C} (hv:s.get t= .d .bool v) (h1:v.toBool=true->DC X n c s Ψ) (h2:v.toBool=false->DC X n c' s Ψ):DC X n (.cond (.tmp t) c c') s Ψ:=by
 intro Γ0 a w hat;have he:a.eval (.tmp t)= .bool v.toBool:=by obtain⟨Γ,g1,g3,c,hs,hn,hf⟩:=hat;have:=hs t;rw[hv]at this;exact(GL this).1
 refine wp_cond (t:=v.toBool) he ?_;cases hb:v.toBool with
 |true=>exact h1 hb Γ0 a w hat|false=>exact h2 hb Γ0 a w hat
end
end
end Go.E
