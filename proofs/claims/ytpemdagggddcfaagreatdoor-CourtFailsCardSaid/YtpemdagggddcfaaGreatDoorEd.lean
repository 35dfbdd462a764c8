/-
 A framework for runs of Go code over abstract data: what it needs, and that it is sound, part 4.
 Conditions: none.
-/
import Derived.Test.YtpemdagggddcfaaGreatDoorEc
set_option linter.all false
noncomputable section
set_option maxRecDepth 100000
set_option maxHeartbeats 4000000
open Array renaming eq_empty_of_size_eq_zero->ib,getD_eq_getD_getElem?->il,getElem?_eq_getElem->ee,getElem?_map->td,length_toList->im,mem_append_right->jf,mem_toList_iff->jz
open Bool renaming and_eq_true->bz
open ByteArray renaming data_extract->qk,size->iy
open Go.Act renaming put->qx
open Go.Builtin renaming append_->mg,copy_->uf,firstCells->gf,zeroCells->fl
open Go.Call renaming operands->ef
open Go.Deferred renaming ofValue->ss
open Go.E.C renaming elems->bq,int->bt
open Go.E.Ext renaming alloc->sj,drew->vr
open Go.E.S renaming obj->jo
open Go.E.Ty renaming int->cg,isAgg->jb,size->ig
open Go.E.Ty.arr renaming injEq->ox
open Go.E.V renaming ty->oy
open Go.IntKind renaming u8->df
open Go.Op renaming equal->ka,operands->cu
open Go.Program renaming cellsOf->iw
open Go.Region renaming wanted->ji
open Go.Result renaming andThen_ok->de
open Go.Result.ok renaming injEq->ta
open Go.Sem renaming run_bind->dh,run_pure->fb
open Go.Value renaming cells->fc,int->kg
open Go.World renaming cell?->lj
open Int renaming toNat_of_nonneg->gy
open List renaming append_assoc->jh,drop_zero->mb,eq_nil_of_length_eq_zero->gm,ext_getElem?->fg,getElem?_append_left->ga,getElem?_append_right->ia,getElem?_drop->iz,getElem?_eq_some_iff->cm,getElem?_map->dx,getElem?_take->fh,length_append->da,length_map->lf,length_take->kn,mem_append->ic,mem_cons->ja,mem_map->lx,mem_of_getElem?->fk,mem_singleton->ft,mem_toArray->pw,replicate->db,size_toArray->iu,take_left'->qo,toList_toArray->nv
open Nat renaming add_mul->dr,eq_zero_or_pos->ng,le_refl->cn,min_eq_left->qu,mul_le_mul_right->cr,mul_one->qb,zero_add->cf,zero_le->ed,zero_mul->gz
open Option.some renaming injEq->eu
open Prod.mk renaming injEq->gb
namespace Go.E
open Go
section
section
variable {P:Program} {Γ:G} {w w':World} {s:S}
theorem q6x (w:World) (t tx ty e:TypeId) (i:TypeInfo) (ht:P.underlying t=some (.slice e)) (hi:P.info? e=some i) (base:Option Addr) (z4k z4l:Nat) (hle:z4k<=z4l) (x:Value) (hs:Src P i.size tx x 0 [] w):
  (mg #[t,tx] ty #[.slice base z4k z4l,x]).run P w= .ok (.slice base z4k z4l) w:=by
 have h0:=hs.cells;rcases hs.kind with⟨e',hk⟩|hk <;> cases base <;> simp[mg,run_underlying ht,run_underlying hk,sizeOf,typeInfo,hi,hs.len,hle,h0,storeCells]
theorem AJ.eP (c:AJ Γ w s) {t:Nat} {e:Ty} (ht:s.obj (.l t)=none):AJ Γ w {s with loc:=(.l t,.box (.d (.arr 0 e) (.agg [])))::s.loc}:=by refine⟨c.hH,c.hZ,c.hκ,fun j o hj=>?_,fun j hj=>?_,c.Jp (fun j hj=>?_),c.tok,c.xg,c.hgl,c.hoo,c.hσ⟩;{rw[Cz]at hj;split at hj;{rename_i e1;subst e1;cases hj;exact .inl ⟨c.PN ht,e,rfl⟩};{exact c.obj j o hj}};{rw[Cz];split;{simp};{exact c.dom j hj}};{unfold S.Br at hj ⊢;rw[Cz];split;{rename_i e1;subst e1;rw[ht]at hj;cases hj};{exact hj}}
theorem q0r (hP:Al P=true) (c:AJ Γ w s) {o:Oper} {a:Act} {x y:Operand} {t t':TypeId} {d:Nat} {k:Key} {n M:Nat} {cc:C} {Y:V} {ys:List C} {eb:Nat} {e:Ty} (ho:Mx o x y t t')
  (ht:ty P t= .slice eb e) (hz:CE P (Af P t)=true) (hd:s.obj (.l d)=none) (wy:s.obj k=some (.box (.d (.arr M e) cc)))
  (hx:AE Γ (.sr k [] 0 n none eb e) (a.eval x)) (hy:AE Γ Y (a.eval y)) (hel:KI P s t' eb e Y ys) (hlen:(n+ys.length)*eb<=140737488355328) (z4x:n+ys.length<=maxLen):
  Ar P o a w (BP Γ w {s with loc:=(.l d,.box (.d (.arr (n+ys.length) e) (.agg (cc.elems.take n++ys))))::(k,.dead (.arr M e))::s.loc} (.sr (.l d) [] 0 (n+ys.length) none eb e)):=by
 obtain⟨hu,he,heb,hE⟩:=LJ hP ht;obtain⟨m,news,hs,r1,r2,r3,r4⟩:=SZ c hy hel;have z5u:EO s (.sr k [] 0 n none eb e)=some (eb,e,cc.elems.take n):=by simp[EO,wy,V.at]
 obtain⟨n',olds,hso,o1,o2,o3,o4⟩:=WA (P:=P) (tx:=t) c hx z5u hu;have hlc:(cc.elems.take n).length=n:=by rcases Gw hx with⟨_,rfl,_⟩|⟨b,τ0,o0,M',cap,aa,a1,a2,a3,_⟩;{simp};{obtain⟨b',cells,T,g1,g2,g3,g4,g5,g6,g7,_⟩:=c.own a1 wy;obtain⟨fr0,g4,xk⟩:=g4;rw[a1]at g1;cases g1;simp only[oy,Ty.walk,eu,gb,ox]at a2;obtain⟨rfl,rfl,_⟩:=a2;simp only[oy,AA,AH]at g6;obtain⟨cs,rfl,q1,_⟩:=g6;simp only[bq,kn];omega}
 have hn:n'=n:=by rw[<-o1];exact hlc
 subst hn;obtain⟨i,z,hi,hzz,hzo,zb⟩:=LP hz;have hcz:=Mk hzo;have hsz:i.size=e.size:=by have:=DJ hP 11 (Af P t);rw[he,this];simp[iw,hi]
 have hby:i.bytes=eb:=by rw[heb];simp[Program.bytesOf,hi]
 have hzc:z.cells.size=e.size:=by have h1:=DJ hP 11 (Af P t);have h2:=Mg hP (Af P t);rw[he,h1,<-h2,<-hcz];simp
 rw[<-hsz]at hs hso;have hnl:news.length=m*e.size:=by rw[hs.newsLen,hsz]
 have hol:olds.length=n'*e.size:=by rw[hso.newsLen,hsz]
 have xr:((n'+m:Nat):Int)<=9223372036854775807:=by unfold maxLen at z4x;omega
 have hbb:(n'+m)*eb<=140737488355328:=by rw[<-r1];exact hlen
 have z4O:(cc.elems.take n'++ys).length=n'+ys.length:=by simp[o1]
 have z39:∀{Γ':G},BZ Γ Γ'->∀olds:List Value,olds.length=n'*e.size->(∀i c',(cc.elems.take n')[i]? =some c'->AH Γ.H e (chunk olds (i*e.size) e.size) c')->∀vs:List Value,vs.length=(n'+ys.length)*e.size->vs=olds++news->AA Γ' none [] (.d (.arr (n'+ys.length) e) (.agg (cc.elems.take n'++ys))) vs:=by
  intro Γ' hp olds hol o4 vs hvl hvs;subst hvs;have xh:∀j c',(cc.elems.take n'++ys)[j]? =some c'->AH Γ'.H e (chunk (olds++news) (j*e.size) e.size) c':=by intro j c' hj;have:=Ye (H:=Γ'.H) (rest:=[]) o1 r1 hol hnl (fun i c' hi=>(o4 i c' hi).mono hp.H) (fun i c' hi=>(r4 i c' hi).mono hp.H) j c' hj;simpa using this
  simp only[AA,AH];exact⟨_,rfl,z4O,hvl,OO z4O hvl xh,xh⟩
 have hkd:k≠.l d:=fun h=>by rw[h,hd]at wy;cases wy
 have z4P:∀(aa:Option Addr) (cap:Nat),a.eval x= .slice aa n' cap->cap<=maxLen->¬n'+m<=cap->Ar P o a w (BP Γ w {s with loc:=(.l d,.box (.d (.arr (n'+ys.length) e) (.agg (cc.elems.take n'++ys))))::(k,.dead (.arr M e))::s.loc} (.sr (.l d) [] 0 (n'+ys.length) none eb e)):=by
  intro aa cap hv a6 yg;have hge:=grownCap_ge w (n'+m) cap (Af P t);have hcm:=grownCap_le_maxLen w (n'+m) cap (Af P t) (by omega);have z30:(gf i.size n' (.slice aa n' cap)).run P w.drew= .ok olds.toArray w.drew:=by rw[<-hv];exact hso.cellsD
  have run:=run_append_grow_src (P:=P) w t t' o.type _ i z hu hi hzz aa n' cap olds z30 (a.eval y) m news hs (by omega) xr (by
   rw[hby];exact growslice_fits (by omega) hbb)
  rw[<-hv]at run;have yo:Ext w (w.drew.alloc (.cells ((olds++news).toArray++fl z.cells (grownCap w (n'+m) cap (Af P t)-(n'+m))) (Af P t))):=(vr w).trans (sj _ _);have xe:=heap_alloc_new w.drew (.cells ((olds++news).toArray++fl z.cells (grownCap w (n'+m) cap (Af P t)-(n'+m))) (Af P t));have yb:((olds++news).toArray++fl z.cells (grownCap w (n'+m) cap (Af P t)-(n'+m))).size=grownCap w (n'+m) cap (Af P t)*e.size:=by simp only[Array.size_append,iu,da,size_zeroCells,hzc,hnl,hol,<-dr];congr 1;omega
  have hll:(olds++news).length=(n'+ys.length)*e.size:=by rw[da,hol,hnl,dr,r1]
  have yw:chunk ((olds++news).toArray++fl z.cells (grownCap w (n'+m) cap (Af P t)-(n'+m))).toList 0 ((n'+ys.length)*e.size)=olds++news:=by unfold chunk;rw[mb,Array.toList_append,nv];exact qo hll
  have ck:=c.kill wy
  obtain⟨h1,h2,h3⟩:=ck.addKey (k:=.l d) (by rw[Cz,if_neg hkd];exact hd) yo (τ:=.arr (n'+ys.length) e) (o:=.box (.d (.arr (n'+ys.length) e) (.agg (cc.elems.take n'++ys)))) fun Γ' hpr _ hι hH hZ=>
   ⟨_,_,Af P t,hι,hH,hZ,⟨(0,0),xe,.inl (cn _)⟩,by simp only[oy,ig];rw[yb,r1];exact cr _ hge,by
    simp only[oy,ig];rw[yw];exact(z39 hpr _ hol o4 _ hll rfl).Dn,rfl,rfl⟩
  obtain⟨k1,k2,k3⟩:=h1.GJ (show _=_ from xe);refine Ar.val (KF ho run) ⟨_,h3.trans k3,h2.trans k2,k1,(Bx rfl rfl).2 ⟨?_,rfl⟩⟩;simp only[AA];refine .inr ⟨w.heap.size,.arr (n'+ys.length) e,0,n'+ys.length,grownCap w (n'+m) cap (Af P t),by simp[G.GJ,G.addKey,Dl],rfl,by omega,⟨some ⟨w.heap.size,0,none⟩,by rw[r1],.inr (by simp)⟩,by rw[r1];exact hge,hcm,hlen,(fun c h=>by cases h),fun _=>.inr ⟨_,DD _ _ _,?_⟩⟩;rw[yb,cf,cf];exact cn _
 have Bk:∀aa:Option Addr,a.eval x= .slice aa 0 0->n'=0->m=0->Ar P o a w (BP Γ w {s with loc:=(.l d,.box (.d (.arr (n'+ys.length) e) (.agg (cc.elems.take n'++ys))))::(k,.dead (.arr M e))::s.loc} (.sr (.l d) [] 0 (n'+ys.length) none eb e)):=by intro aa hv hn0 hm0;subst hn0;subst hm0;have hy0:ys=[]:=gm r1;subst hy0;have hw0:news=[]:=gm (by rw[hnl,gz]);subst hw0;have run:=q6x (P:=P) w t t' o.type _ i hu hi aa 0 0 (cn _) (a.eval y) hs;rw[<-hv]at run;have ck:=(c.kill wy).eP (t:=d) (e:=e) (by rw[Cz,if_neg hkd];exact hd);refine Ar.val (KF ho run) ⟨Γ,.refl Γ,.refl Γ,ck,(Bx rfl rfl).2 ⟨?_,by rw[hv];rfl⟩⟩;simp only[AA];exact .inl ⟨trivial,rfl,aa,by rw[hv]⟩
 rcases Gw hx with⟨_,h0,aa,hv⟩|⟨b,τ0,o0,M',cap,aa,a1,a2,a3,hv,a4,a5,a6,a7,_,a9⟩;{subst h0;by_cases hm0:m=0;{exact Bk aa hv rfl hm0};{exact z4P aa 0 hv (ed _) (by omega)}};obtain⟨b',cells,T,g1,g2,g3,g4,g5,g6,g7,_⟩:=c.own a1 wy;obtain⟨fr0,g4,xk⟩:=g4;rw[a1]at g1;cases g1;simp only[oy,Ty.walk,eu,gb,ox]at a2;obtain⟨rfl,rfl,_⟩:=a2;simp only[oy,AA,AH]at g6;obtain⟨cs,rfl,q1,q2,q3,q4⟩:=g6;simp only[bq]at*;by_cases yg:n'+m<=cap
 · -- in the room behind
  by_cases hc0:cap=0
  ·subst hc0;have hn0:n'=0:=by omega
   exact Bk aa (by rw[hv,hn0]) hn0 (by omega)
  have haa:aa=some ⟨b,0,none⟩:=by rcases a4 with a4|a4;{exact absurd a4 hc0};{rw[a4];simp}
  subst haa;obtain⟨sz,s1,s2⟩:∃sz,Γ.σ b=some sz/\0+(0+cap)*e.size<=sz:=by rcases a9 trivial with a9|a9;{omega};{exact a9}
  obtain⟨arr,T',fr,s3,s4⟩:=c.hσ b sz s1;rw[g4]at s3;cases s3;have yu:n'*e.size+m*e.size<=cells.size:=by rw[s4,<-dr];rw[cf,cf]at s2;exact Nat.le_trans (cr _ yg) s2
  have run:=run_append_room_src (P:=P) w t t' o.type _ i hu hi b 0 n' cap (a.eval y) m news hs yg
   (fun j hj=>by
    rw[hnl]at hj;simp[lj,g4];rw[hsz];omega)
   (fun j hj=>by
    rw[hnl]at hj;simp only[World.frozen?,g4,Bool.and_eq_false_iff,decide_eq_false_iff_not];rw[hsz];omega)
  rw[<-hv]at run;rw[cf,hsz]at run;obtain⟨xc,hw',zg⟩:=cR b news (n'*e.size) w cells T fr0 g4 (by rw[hnl];exact yu);have z4m:xc.size=cells.size:=by rw[<-im,<-im,zg,Hu (by rw[hnl];simpa using yu)]
  have hMl:n'*e.size<=M*e.size:=cr _ (by omega);have hMc:M*e.size<=cells.size:=g5;have z4Q:(chunk cells.toList 0 (n'*e.size)).length=n'*e.size:=EC _ _ _ (by simp;omega);have o42:∀i c',(cs.take n')[i]? =some c'->AH Γ.H e (chunk (chunk cells.toList 0 (n'*e.size)) (i*e.size) e.size) c':=by intro i c' hi;rw[fh]at hi;split at hi;{rename_i hin;have:=q4 i c' hi;have hle:(i+1)*e.size<=n'*e.size:=cr _ hin;rw[dr]at hle;simp only[ig]at this;rw[EK _ _ _ _ _ (by omega)]at this;rw[EK _ _ _ _ _ (by omega)];exact this};{cases hi}
  have hll:(chunk cells.toList 0 (n'*e.size)++news).length=(n'+ys.length)*e.size:=by rw[da,z4Q,hnl,dr,r1]
  have yw:chunk xc.toList 0 ((n'+ys.length)*e.size)=chunk cells.toList 0 (n'*e.size)++news:=by rw[zg];unfold chunk Bh;rw[mb,mb];refine qo ?_;rw[da,hnl,kn,dr,r1];simp;omega
  obtain⟨h1,h2,h3⟩:=c.uZ (w':=w.setCells b (n'*e.size) news) (j:=.l d) (x':=.d (.arr (n'+ys.length) e) (.agg (cs.take n'++ys))) wy rfl a1 hd hw' (by rw[z4m];exact xk)
   (fun b' hb'=>cS b news _ w b' hb') (by unfold oof;rw[World.os_setCells,World.output_setCells]) rfl
   (by simp only[oy,ig];rw[z4m,dr,r1];exact yu) (by
    simp only[oy,ig];rw[yw];exact z39 (BZ.refl Γ) _ z4Q o42 _ hll rfl) rfl rfl (fun arr T fr h=>by rw[g4]at h;cases h;exact z4m)
  refine Ar.val (KF ho run) ⟨_,h3,h2,h1,(Bx rfl rfl).2 ⟨?_,rfl⟩⟩;simp only[AA];refine .inr ⟨b,.arr (n'+ys.length) e,0,n'+ys.length,cap,by simp[G.addKey,Dl],rfl,by omega,⟨some ⟨b,0,none⟩,by rw[r1],.inr (by simp)⟩,by rw[r1];exact yg,a6,hlen,(fun c h=>by cases h),fun _=>.inr ⟨sz,s1,?_⟩⟩;exact s2
 ·exact z4P aa cap hv a6 yg
end
end
section
section
variable {P:Program} {Γ:G} {w w':World} {s:S}
theorem ZR (a:Addr):∀(n i:Nat) (acc arr:Array Value) (w':World),(loadCellsFrom a i n acc).run P w= .ok arr w'->∀k,k<=n->
  ∃l r:List Value,arr=acc++(l++r).toArray/\l.length=k/\(loadCellsFrom a i k acc).run P w= .ok (acc++l.toArray) w
 |0,i,acc,arr,w',h,k,hk=>by
  have:k=0:=by omega
  subst this;simp[loadCellsFrom]at h;exact⟨[],[],by simp[h.1],rfl,by simp[loadCellsFrom]⟩
 |n+1,i,acc,arr,w',h,k,hk=>by
  have step:∀(m:Nat),(loadCellsFrom a i (m+1) acc).run P w=((load (a.add i)).run P w).andThen fun v w1=>(loadCellsFrom a (i+1) m (acc.push v)).run P w1:=by
   intro m
   conv=>lhs;unfold loadCellsFrom
   rw[dh]
  rw[step]at h;have hl:∃v,(load (a.add i)).run P w= .ok v w:=by
   rw[run_load]at h ⊢;cases hc:w.cell? (a.add i)with
   |some v=>exact⟨v,rfl⟩|none=>
    rw[hc]at h;dsimp only at h ⊢;cases hf:w.farLoad P (a.add i) (Mode.plain== .atomic)with
    |ok x=>obtain⟨v,y⟩:=x;exact⟨v,rfl⟩
    |error e=>rw[hf]at h;cases h
  obtain⟨v,hv⟩:=hl;rw[hv]at h;simp only[de]at h;cases k with
  |zero=>
   obtain⟨l,r,h1,h2,_⟩:=ZR a n (i+1) (acc.push v) arr w' h 0 (ed _);have:l=[]:=gm h2;subst this;exact⟨[],v::r,by simp[h1],rfl,by simp[loadCellsFrom]⟩
  |succ k=>
   obtain⟨l,r,h1,h2,h3⟩:=ZR a n (i+1) (acc.push v) arr w' h k (by omega);refine⟨v::l,r,by simp[h1],by simp[h2],?_⟩;rw[step,hv];simp only[de,h3];simp
theorem q1K {sz n k:Nat} {x:Value} {news:List Value} (h:(gf sz n x).run P w= .ok news.toArray w) (hl:news.length=n*sz) (hk:k<=n) (hlen:∀s,x= .string s->n<=s.size/\sz=1):(gf sz k x).run P w= .ok (news.take (k*sz)).toArray w:=by
 cases x <;> (try (simp[gf]at h;done))
 case slice a len cap=>
  cases a with
  |none=>
   simp only[gf,fb,ta]at h ⊢;have:news=[]:=by have:=h.1;cases news <;> simp at this ⊢
   subst this;simp
  |some ad=>
   simp only[gf,loadCells]at h ⊢;obtain⟨l,r,h1,h2,h3⟩:=ZR ad (n*sz) 0 #[] _ _ h (k*sz) (cr _ hk);rw[h3];have h1':news=l++r:=by simpa using h1
   simp[h1',<-h2]
 case string s=>
  obtain⟨h1,rfl⟩:=hlen s rfl;simp only[gf,fb,ta,and_true]at h ⊢;have e:news=(s.extract 0 n).data.toList.map fun b=>kg .u8 b.toNat:=by have:=congrArg Array.toList h;simpa using this.symm
  subst e;apply Array.toList_inj.1;simp only[Array.toList_map,nv,qb,<-List.map_take];congr 1;rw[qk,qk];simp[Array.toList_extract,List.extract_eq_take_drop,List.take_take,qu hk]
def EZ (cs:List C) (lo n:Nat) (ys:List C):List C:=cs.take lo++ys.take n++cs.drop (lo+min ys.length n)
theorem XX {cs:List C} {lo n:Nat} {ys:List C} (h:lo+n<=cs.length):(EZ cs lo n ys).length=cs.length:=by simp[EZ];omega
theorem q0C (hP:Al P=true) (c:AJ Γ w s) {o:Oper} {a:Act} {x y:Operand} {t t':TypeId} {k:Key} {q:List Nat} {lo n cp m:Nat} {X Y:V} {cc:C} {ys:List C} {eb:Nat} {e:Ty}
  (ho:o.op= .call {callee:=.builtin .copy,args:=#[x,y],argTypes:=#[t,t']}) (ht:ty P t= .slice eb e)
  (wy:s.obj k=some (.box X)) (hX:X.at q= .d (.arr m e) cc) (hd:X.ty.CG=true) (h0:0<n) (hz:CE P (Af P t)=true)
  (hx:AE Γ (.sr k q lo n (some cp) eb e) (a.eval x)) (hy:AE Γ Y (a.eval y)) (hel:KI P s t' eb e Y ys):
  Ar P o a w (BP Γ w {s with loc:=(k,.box (X.setAt q (.d (.arr m e) (.agg (EZ cc.elems lo n ys)))))::s.loc} (.d (.int .i64) (.int (min ys.length n:Nat)))):=by
 obtain⟨hu,he,heb,hE⟩:=LJ hP ht;obtain⟨m',news,hs,r1,r2,r3,r4⟩:=SZ c hy hel;rcases Gw hx with⟨h1,_⟩|⟨b,τ0,o0,M,cap,aa,a1,a2,a3,hv,a4,a5,a6,a7,a8,_⟩;{cases h1};obtain⟨b2,cells,E,e1,e2,e3,e4,e5,e6,e7,e8⟩:=c.own a1 wy;obtain⟨fr0,e4,xk⟩:=e4;rw[a1]at e1;cases e1;obtain⟨g1,g2,g3⟩:=e6.at_ a2 (by rw[hX];simp) e7;have hcl:(chunk cells.toList 0 X.ty.size).length=X.ty.size:=EC _ _ _ (by simpa using e5);rw[hcl]at g2;rw[hX]at g1 g3;simp only[oy,ox]at g1;obtain⟨rfl,_⟩:=g1;rw[EK _ _ _ _ _ g2,cf]at g3;simp only[AA,AH]at g3;obtain⟨cs,rfl,q1,q2,q3,q4⟩:=g3;simp only[bq,ig]at*;obtain⟨i,z,hi,hzz,hzo,zb⟩:=LP hz;have hsz:i.size=e.size:=by have:=DJ hP 11 (Af P t);rw[he,this];simp[iw,hi]
 have haa:aa=some ⟨b,o0+lo*e.size,none⟩:=by rcases a4 with a4|a4;{omega};{exact a4}
 subst haa;have hnl:news.length=m'*e.size:=hs.newsLen;have hk1:min m' n<=m':=Nat.min_le_left _ _;have hk2:min m' n<=n:=Nat.min_le_right _ _
 have hft:=q1K (k:=min m' n) hs.cells hnl hk1 (fun st hst=>by
  rcases hel with⟨_,h2|⟨rfl,_⟩⟩|⟨_,hYs,h3,h4,h5⟩
  · -- a slice is no string
   exfalso;obtain⟨_,_,_,h6⟩:=wR hy h2;rw[hst]at h6;cases h6
  ·rw[FO hy]at hst;cases hst
  ·obtain⟨c0,rfl⟩:=V.Lz hYs;obtain⟨h6,_,h7⟩:=Hq hy;rw[h6]at hst;cases hst;have:m'=c0.toStr.length:=by rw[<-r1,h5];simp[V.toStr]
   refine⟨by rw[this];simp[iy],by rw[h3];rfl⟩)
 have htl:(news.take (min m' n*e.size)).length=min m' n*e.size:=by have:=cr e.size hk1;simp;omega
 have hMs:(lo+n)*e.size<=m*e.size:=cr _ a3;have hks:min m' n*e.size<=n*e.size:=cr _ hk2;rw[dr]at hMs;have yu:o0+lo*e.size+0+(news.take (min m' n*e.size)).length<=cells.size:=by rw[htl];omega
 have hst:=cN P b (o0+lo*e.size) E fr0 (news.take (min m' n*e.size)) 0 cells w e4 xk yu (fun v hv=>hs.one v (List.mem_of_mem_take hv));have xm:(uf #[t,t'] o.type #[.slice (some ⟨b,o0+lo*e.size,none⟩) n cap,a.eval y]).run P w= .ok (goInt ((min m' n:Nat):Int)) (w.setRow b (Bh cells.toList (o0+lo*e.size) (news.take (min m' n*e.size))).toArray):=by
  simp only[Nat.add_zero]at hst;simp[uf,run_underlying hu,hs.len,sizeOf,typeInfo,hi,hsz,hft,hst,Bh]
  try (exact congrArg goInt (by rw[show m'.min n=min m' n from rfl];omega))
 -- the array anew
 have hl0:o0+lo*e.size+(news.take (min m' n*e.size)).length<=cells.toList.length:=by rw[htl];simp;omega
 have hs2:(Bh cells.toList (o0+lo*e.size) (news.take (min m' n*e.size))).toArray.size=cells.size:=by simp only[iu,Hu hl0];simp
 have xe:chunk (Bh cells.toList (o0+lo*e.size) (news.take (min m' n*e.size))) o0 (m*e.size)=Bh (chunk cells.toList o0 (m*e.size)) (lo*e.size) (news.take (min m' n*e.size)):=
  o9 (by simp;omega) (by rw[htl];omega) rfl
 have hsl:(Bh (chunk cells.toList o0 (m*e.size)) (lo*e.size) (news.take (min m' n*e.size))).length=m*e.size:=by rw[Hu (by rw[q2,htl];omega),q2]
 have hcs:(EZ cs lo n ys).length=m:=by rw[XX (by omega),q1]
 have z4A:∀j c',(EZ cs lo n ys)[j]? =some c'->AH Γ.H e (chunk (Bh (chunk cells.toList o0 (m*e.size)) (lo*e.size) (news.take (min m' n*e.size))) (j*e.size) e.size) c':=by
  intro j c' hj;have hjl:j<m:=by rw[<-hcs];exact(cm.1 hj).1
  have hjm:(j+1)*e.size<=m*e.size:=cr _ hjl;rw[dr]at hjm;have hlo:lo<=cs.length:=by omega
  unfold EZ at hj;by_cases h1:j<lo;{rw[jh,ga (by simp;omega),fh,if_pos h1]at hj;have z5v:(j+1)*e.size<=lo*e.size:=cr _ h1;rw[dr]at z5v;rw[Pb (by rw[q2,htl];omega) (.inl (by omega))];exact q4 j c' hj}
  ·by_cases h2:j<lo+min ys.length n
   ·rw[jh,ia (by simp;omega),ga (by simp;omega)]at hj;simp only[kn,qu hlo]at hj;rw[fh]at hj;split at hj
    ·rename_i hjn;have h3:=r4 _ _ hj;have hjk:j-lo<min m' n:=by rw[r1]at h2;omega
     have z5w:(j-lo+1)*e.size<=min m' n*e.size:=cr _ hjk;rw[dr]at z5w;have e9:j*e.size=lo*e.size+(j-lo)*e.size:=by rw[<-dr];congr 1;omega
     have e10:chunk (Bh (chunk cells.toList o0 (m*e.size)) (lo*e.size) (news.take (min m' n*e.size))) (j*e.size) e.size=chunk news ((j-lo)*e.size) e.size:=by apply fg;intro u;rw[Dg,Dg];split;{rename_i hu2;rw[Fh (by rw[q2,htl];omega),if_pos (by rw[htl];omega),fh,if_pos (by omega)];congr 1;omega};{rfl}
     rw[e10];exact h3
    ·cases hj
   ·rw[ia (by simp;omega),iz]at hj;simp only[da,kn,qu hlo]at hj;have hj2:cs[j]? =some c':=by rw[<-hj];congr 1;have:min n ys.length=min ys.length n:=Nat.min_comm _ _;omega
    have h5:min m' n*e.size+lo*e.size<=j*e.size:=by rw[<-dr];refine cr _ ?_;rw[r1]at h2;omega
    rw[Pb (by rw[q2,htl];omega) (.inr (by rw[htl];omega))];exact q4 j c' hj2
 have hY:AA Γ (some k) q (.d (.arr m e) (.agg (EZ cs lo n ys))) (Bh (chunk cells.toList o0 (m*e.size)) (lo*e.size) (news.take (min m' n*e.size))):=by simp only[AA,AH];exact⟨_,rfl,hcs,hsl,OO hcs hsl z4A,z4A⟩
 obtain⟨s1,s2,s3⟩:=AA.setAt (q:=q) (p:=[]) (y:=.d (.arr m e) (.agg (EZ cs lo n ys))) e6 e7 hd a2 (by rw[hX];simp) (by simpa using hY) rfl;have hsp:Bh cells.toList (o0+lo*e.size) (news.take (min m' n*e.size))=Bh cells.toList o0 (Bh (chunk cells.toList o0 (m*e.size)) (lo*e.size) (news.take (min m' n*e.size))):=by apply fg;intro u;rw[Fh hl0,Fh (by rw[hsl];simp;omega),hsl,htl];by_cases hu1:o0<=u/\u<o0+m*e.size;{rw[if_pos hu1,Fh (by rw[q2,htl];omega),htl];by_cases hu2:o0+lo*e.size<=u/\u<o0+lo*e.size+min m' n*e.size;{rw[if_pos hu2,if_pos (by omega)];congr 1;omega};{rw[if_neg hu2,if_neg (by omega),Dg,if_pos (by omega)];congr 1;omega}};{rw[if_neg hu1,if_neg (by omega)]}
 have c':=c.write (x':=X.setAt q (.d (.arr m e) (.agg (EZ cs lo n ys)))) (wz:=(Bh cells.toList (o0+lo*e.size) (news.take (min m' n*e.size))).toArray) (w':=w.setRow b (Bh cells.toList (o0+lo*e.size) (news.take (min m' n*e.size))).toArray) wy a1
  (setRow_heap w b cells _ E fr0 e4) (by rw[hs2];exact xk) (fun b' hb'=>setRow_other w b b' _ hb') rfl (by rw[s2,hs2];exact e5)
  (by rw[s2,nv,hsp,xC _ _ (by rw[hsl];exact g2) (by simpa using e5)];exact s1) s2 s3 (V.VA q X _ e8 rfl) (fun arr T fr h=>by rw[e4]at h;cases h;exact hs2)
 refine Ar.val (v:=goInt ((min m' n:Nat):Int)) (w':=w.setRow b (Bh cells.toList (o0+lo*e.size) (news.take (min m' n*e.size))).toArray) ?_ ⟨_,GLe.refl _,BZ.refl _,c',?_⟩;{unfold execOp;simp[ho,resolve,invoke,builtin,hv,xm]}
 ·rw[r1];show AE _ _ (.int .i64 ((min m' n:Nat):Int))
  exact DV (by have e1:IntKind.i64.min= -9223372036854775808:=by decide
               omega) (by have e1:IntKind.i64.max=9223372036854775807:=by decide
                          unfold maxLen at r2;omega)
end
end
section
section
variable {Γ:G} {w:World} {s:S}
theorem AJ.freeze (c:AJ Γ w s) {b:Nat} {cells:Array Value} {T:TypeId} {fr:Nat × Nat} (hw:w.heap[b]? =some (.cells cells T fr)) (hH:Γ.H b=none) (hι:∀k τ o,Γ.ι k=some (b,τ)->s.obj k=some o->o.EV=true):
  AJ (Γ.Dz b cells.toList) w s/\BZ Γ (Γ.Dz b cells.toList)/\Γ.H.le (Γ.Dz b cells.toList).H:=by
 have oH:∀b',b'≠b->(Γ.Dz b cells.toList).H b'=Γ.H b':=fun b' hb=>Eg _ _ hb;have nb:∀b',Γ.H b'≠none->b'≠b:=fun b' h e=>h (e ▸ hH);have hle:Γ.H.le (Γ.Dz b cells.toList).H:=fun b' l' h=>⟨[],by rw[oH b' (nb b' (by rw[h];simp)),h];simp⟩;have hp:BZ Γ (Γ.Dz b cells.toList):=⟨hle,fun _ _ h=>h,fun t x L h=>⟨x,L,h,cn _,fun _=>rfl⟩,fun _ _ h=>h⟩;refine⟨?_,hp,hle⟩;refine c.change hp rfl rfl rfl rfl (fun b' l' h=>?_) (fun _ _=>rfl) (fun b' o sz h=>?_) (fun k o h=>?_) (fun _ h _=>h) c.dom c.hσ c.inj (fun t L h=>?_) c.xg (cn _);{by_cases hb:b'=b;{subst hb;simp[G.Dz,Bl]at h;subst h;exact⟨cells,T,fr,[],hw,by simp⟩};{rw[oH b' hb]at h;exact c.hH b' l' h}};{have h':Γ.κ b'=some (o,sz):=h;obtain⟨a1,a2,a3⟩:=c.hκ b' o sz h';exact⟨a1,by rw[oH b' (nb b' a2)];exact a2,a3⟩};{refine .inl ⟨h,fun hd=>⟨fun b' p sz hb=>⟨rfl,?_⟩,fun b' τ hb=>⟨rfl,?_⟩⟩⟩;{exact oH b' (nb b' (c.hκ b' _ sz hb).2.1)};{obtain⟨a1,_⟩:=c.EY hb h hd;rw[oH b' (fun e=>by have:=hι k τ o (e ▸ hb) h;rw[this]at hd;cases hd)];exact a1}};{obtain⟨x,h1,h2⟩:=c.tok t L h;refine⟨x,h1,fun b' pos sz hx=>?_⟩;obtain⟨⟨l,a1,a2⟩,a3⟩:=h2 b' pos sz hx;exact⟨⟨l,by rw[oH b' (nb b' (by rw[a1];simp))];exact a1,a2⟩,a3⟩}
theorem AJ.oW (c:AJ Γ w s) {k:Key} {M:Nat} {e:Ty} {cc:C} (ho:s.obj k=some (.box (.d (.arr M e) cc))):
  ∃Γ',GLe Γ Γ'/\BZ Γ Γ'/\AJ Γ' w {s with loc:=(k,.dead (.arr M e))::s.loc}/\
   ∀{lo n:Nat} {cp:Option Nat} {eb:Nat} {v:Value},AE Γ (.sr k [] lo n cp eb e) v->AE Γ' (.d (.slice eb e) (.slice ((cc.elems.drop lo).take n))) v:=by
 have ck:=c.kill ho;have nul:∀{Γ':G} {lo n:Nat} {cp:Option Nat} {eb:Nat} {v:Value},(cp=none/\n=0/\∃a,v= .slice a 0 0)->AE Γ' (.d (.slice eb e) (.slice ((cc.elems.drop lo).take n))) v:=by intro Γ' lo n cp eb v h;obtain⟨_,rfl,a,rfl⟩:=h;refine(Bx rfl rfl).2 ⟨?_,rfl⟩;simp only[AA];exact Dv (by simp) (cn _) (ed _) (by rw[gz];exact ed _) (.inl rfl)
 rcases c.obj k _ ho with⟨hn,_⟩|xb;{refine⟨Γ,.refl Γ,.refl Γ,ck,fun hr=>?_⟩;rcases Gw hr with h|⟨b,τ0,o,m,cap,a,h1,_⟩;{exact nul h};{rw[hn]at h1;cases h1}}
 ·obtain⟨b,cells,T,h1,h2,h3,⟨fr0,h4,xk⟩,h5,h6,h7,h8⟩:=xb;have hdk:s.Br k=false:=by rw[Ea ho];rfl
  obtain⟨q1,q2,q3⟩:=ck.freeze h4 h2 (fun k' τ o hk' ho'=>by
   rcases c.inj k' k b _ _ hk' h1 with e1|⟨e1|e1,_⟩;{subst e1;rw[Cz,if_pos rfl]at ho';cases ho';rfl};{rw[Cz]at ho';split at ho';{cases ho';rfl};{rw[Ea ho']at e1;exact e1}}
   ·rw[hdk]at e1;cases e1)
  refine⟨_,⟨q3,rfl,fun b' hb'=>Eg _ _ fun e=>(by subst e;exact hb' h3),fun _ _ h=>h,rfl,rfl,fun _ _ h=>h,fun _ h=>h⟩,q2,q1,fun{lo n cp eb v} hr=>?_⟩;rcases Gw hr with h|⟨b',τ0,o,m,cap,a,a1,a2,a3,hv,a4,a5,a6,a7,_,_⟩;{exact nul h};rw[h1]at a1;cases a1;simp only[oy,Ty.walk,eu,gb,ox]at a2;obtain⟨rfl,rfl,_⟩:=a2;simp only[oy,AA,AH]at h6;obtain⟨cs,rfl,r1,r2,r3,r4⟩:=h6;simp only[bq,ig]at*;have hl:((cs.drop lo).take n).length=n:=by simp;omega
  have hmul:(lo+n)*e.size<=M*e.size:=cr _ a3;rw[dr]at hmul;subst hv;refine(Bx rfl rfl).2 ⟨?_,rfl⟩;simp only[AA];refine Dv hl a5 a6 a7 ?_;by_cases hn:n=0;{exact .inl hn};{refine .inr ⟨b,lo*e.size,cells.toList,?_,DD _ _ _,by simp;simp[oy,ig]at h5;omega,fun i c' hi=>?_⟩;{rcases a4 with a4|a4;{omega};{rw[a4,cf]}};{rw[fh]at hi;split at hi;{rename_i hin;rw[iz]at hi;have h9:=r4 _ _ hi;have hle:(lo+i+1)*e.size<=M*e.size:=cr _ (by omega);rw[dr,dr]at hle;rw[dr]at h9;rw[EK _ _ _ _ _ (by omega),cf]at h9;exact h9.mono q3};{cases hi}}}
def DE (s:S) (x:V):V:=
 match x with
 | .sr (.l j) q lo n cp eb e=>(match q with| []=>(match s.obj (.l j)with|some (.box (.d τ cc))=>(match τ with| .arr M e'=>if e'=e then .d (.slice eb e) (.slice ((cc.elems.drop lo).take n))else x|_=>x)|_=>x)|_=>x)|x=>x
def Fa:V->List Nat
 | .sr (.l j) [] _ _ _ _ _=>[j]|_=>[]
def Fy:List V->List Nat
 | []=>[]|x::xs=>Fa x++Fy xs
def Ds:List Nat->S->S
 | [],s=>s|j::l,s=>Ds l (match s.obj (.l j)with|some (.box (.d τ _))=>(match τ with| .arr M e=>{s with loc:=(.l j,.dead (.arr M e))::s.loc}|_=>s)|_=>s)
theorem pC {s:S} {x:V} (h:∀j,j∈Fa x->False):DE s x=x:=by unfold DE;split;{split;{rename_i j _ _ _ _ _ _;exact(h j (ft.2 rfl)).elim};{rfl}};{rfl}
theorem Uc:∀(js:List Nat) (s:S) {Γ:G},AJ Γ w s->∃Γ',GLe Γ Γ'/\BZ Γ Γ'/\AJ Γ' w (Ds js s)/\∀(x:V) (v:Value),AE Γ x v->(∀j∈Fa x,j∈js)->AE Γ' (DE s x) v
 | [],s,Γ,c=>⟨Γ,.refl Γ,.refl Γ,c,fun x v hr hx=>by rw[pC (fun j hj=>by simpa using hx j hj)];exact hr⟩|j::l,s,Γ,c=>by
  have skip:(∀x:V,Fa x=[j]->DE s x=x)->∃Γ',GLe Γ Γ'/\BZ Γ Γ'/\AJ Γ' w (Ds l s)/\∀(x:V) (v:Value),AE Γ x v->(∀i∈Fa x,i∈j::l)->AE Γ' (DE s x) v:=by intro hs;obtain⟨Γ',g,p,c',h⟩:=Uc l s c;refine⟨Γ',g,p,c',fun x v hr hx=>?_⟩;by_cases hj:Fa x=[j];{rw[hs x hj];exact hr.Bd p};{refine h x v hr fun i hi=>?_;have:=hx i hi;simp only[ja]at this;rcases this with rfl|h2;{exfalso;apply hj;unfold Fa at hi ⊢;split at hi;{simp at hi;subst hi;rfl};{simp at hi}};{exact h2}}
  have inv:∀x:V,Fa x=[j]->∃lo n cp eb e,x= .sr (.l j) [] lo n cp eb e:=by intro x hx;unfold Fa at hx;split at hx;{simp at hx;subst hx;exact⟨_,_,_,_,_,rfl⟩};{cases hx}
  simp only[Ds];split
  ·rename_i τ cc ho;split
   ·rename_i M e;obtain⟨Γ1,g1,p1,c1,h1⟩:=c.oW ho;obtain⟨Γ',g,p,c',h⟩:=Uc l _ c1;refine⟨Γ',g1.trans g,p1.trans p,c',fun x v hr hx=>?_⟩;by_cases hj:Fa x=[j];{obtain⟨lo,n,cp,eb,e',rfl⟩:=inv x hj;simp only[DE,ho];by_cases he:e=e';{rw[if_pos he];subst he;exact(h1 hr).Bd p};{rw[if_neg he];exact hr.Bd (p1.trans p)}}
    ·have h2:=h x v (hr.Bd p1) fun i hi=>by have:=hx i hi;simp only[ja]at this;rcases this with rfl|h2;{exfalso;apply hj;unfold Fa at hi ⊢;split at hi;{simp at hi;subst hi;rfl};{simp at hi}};{exact h2}
     have:DE {s with loc:=(Key.l j,O.dead (.arr M e))::s.loc} x=DE s x:=by
      cases x <;> (try rfl);rename_i k q lo n cp eb e2;cases k with
      |g k=>rfl|l i=>
       cases q with
       |cons a q=>rfl|nil=>
        have hij:j≠i:=fun e=>hj (by subst e;rfl);simp only[DE];rw[Cz,if_neg (by intro e;cases e;exact hij rfl)]
     rw[<-this];exact h2
   ·exact skip fun x hx=>by obtain⟨lo,n,cp,eb,e,rfl⟩:=inv x hx;simp only[DE,ho]
  ·exact skip fun x hx=>by obtain⟨lo,n,cp,eb,e,rfl⟩:=inv x hx;simp only[DE]
end
end
section
mutual
def Ty.Di:Ty->Bool
 | .int _| .bool| .str=>true| .arr _ e=>e.Di| .struct _ _ fs=>Ty.Uz fs|_=>false
def Ty.Uz:List Ty->Bool
 | []=>true|t::ts=>t.Di&&Ty.Uz ts
end
mutual
theorem AH.Di {H H':Hp}:∀{τ:Ty} {vs:List Value} {c:C},τ.Di=true->AH H τ vs c->AH H' τ vs c
 | .int _,_,_,_,r=>by simpa[AH]using r
 | .bool,_,_,_,r=>by simpa[AH]using r
 | .str,_,_,_,r=>by simpa[AH]using r
 | .arr n e,vs,c,h,r=>by simp only[AH]at r ⊢;obtain⟨cs,rfl,h1,h2,h4,h3⟩:=r;exact⟨cs,rfl,h1,h2,h4,fun i c hi=>AH.Di (by simpa[Ty.Di]using h) (h3 i c hi)⟩
 | .struct sz os fs,vs,c,h,r=>by simp only[AH]at r ⊢;obtain⟨cs,rfl,h1,h4,h2⟩:=r;exact⟨cs,rfl,h1,h4,Bj.Di (by simpa[Ty.Di]using h) h2⟩
 | .slice _ _,_,_,h,_| .ptr,_,_,h,_| .map,_,_,h,_| .func,_,_,h,_| .iface,_,_,h,_| .opq _,_,_,h,_=>by simp[Ty.Di]at h
theorem Bj.Di {H H':Hp}:∀{fs:List Ty} {os:List Nat} {vs:List Value} {cs:List C},Ty.Uz fs=true->Bj H fs os vs cs->Bj H' fs os vs cs
 | [],_,_,_,_,r=>by simpa[Bj]using r
 |f::fs,o::os,vs,cs,h,r=>by simp only[Ty.Uz,bz]at h;simp only[Bj]at r ⊢;obtain⟨c,cs',rfl,h1,h2,h3⟩:=r;exact⟨c,cs',rfl,h1,AH.Di h.1 h2,Bj.Di h.2 h3⟩
 |_::_,[],_,_,_,r=>by simp[Bj]at r
end
def V.OJ:List V->Bool
 | []=>true|x::xs=>(match x with| .d τ _=>τ.Di|_=>false)&&V.OJ xs
def V.Di:V->Bool
 | .d τ _=>τ.Di| .tup vs=>V.OJ vs|_=>false
theorem vF {Γ Γ':G}:∀{xs:List V} {vs:List Value},V.OJ xs=true->BT Γ xs vs->BT Γ' xs vs
 | [],vs,_,h=>by simpa[BT]using h
 |x::xs,vs,hx,h=>by simp only[V.OJ,bz]at hx;simp only[BT]at h ⊢;obtain⟨v,vs',rfl,h1,h2,h3⟩:=h;refine⟨v,vs',rfl,?_,h2,vF hx.2 h3⟩;cases x <;> simp at hx;simp only[AA]at h1 ⊢;exact h1.Di hx.1
theorem q6k {Γ Γ':G} {x:V} {v:Value} (hx:x.Di=true) (h:AE Γ x v):AE Γ' x v:=by cases x <;> simp[V.Di]at hx;{rw[DU]at h ⊢;exact⟨h.1.Di hx,h.2⟩};{simp only[AE]at h ⊢;obtain⟨vs,rfl,h⟩:=h;exact⟨vs,rfl,vF hx h⟩}
theorem q66 {x:V} (hx:x.Di=true) (n:Nat):x.DA n=x:=by
 cases x <;> simp[V.Di]at hx;{rfl}
 ·rename_i vs;simp only[V.DA];congr 1;have:∀(l:List V) (n:Nat),V.OJ l=true->DB n l=l:=by
   intro l
   induction l with
   |nil=>intros;rfl|cons x xs ih=>
    intro n h;simp only[V.OJ,bz]at h;simp only[DB];rw[ih _ h.2];cases x <;> simp at h <;> rfl
  exact this vs n hx
def G.Gg (w:World) (gl:Nat->Option (Ty × C)):G where
 H b:=match w.heap[b]? with|some (.cells arr _ _)=>some arr.toList|_=>none
 Z b:=w.heap[b]?
 ι _:=none
 τ _:=none
 κ _:=none
 gl:=gl
 oo:=oof w
 σ _:=none
def FQ:Nat->S->V->V
 |0,_,_=>.any|f+1,s,x=>match x with| .sr k q lo n _ eb e=>(match s.obj k with|some (.box y)=>(match FQ f s (y.at q)with| .d _ c=>.d (.slice eb e) (.slice ((c.elems.drop lo).take n))|_=>.any)|_=>.any)| .agg τ vs=>(match ED (vs.map (FQ f s))with|some cs=>.d τ (.agg cs)|none=>.any)|x=>bif x.plain then(match CF x with|some c=>.d x.ty c|none=>.any)else .any
def Fg (s:S) (x:V):V:=FQ 5 s x
theorem wY (s:S) (f:Nat) (x:V):FQ f s x= .any\/∃τ c,FQ f s x= .d τ c:=by
 cases f with
 |zero=>exact .inl rfl|succ f=>
  have other:∀x:V,(bif x.plain then(match CF x with
   |some c=>V.d x.ty c|none=>.any)else .any)= .any\/∃τ c,(bif x.plain then(match CF x with
   |some c=>V.d x.ty c|none=>.any)else .any)= .d τ c:=by
   intro x;cases x.plain with
   |false=>exact .inl rfl|true=>
    simp only[cond_true];split;{exact .inr ⟨_,_,rfl⟩};{exact .inl rfl}
  cases x <;> first
   |exact other _
   |(simp only[FQ]
     repeat' split
     all_goals first|exact .inl rfl|exact .inr ⟨_,_,rfl⟩)
def Fo:List V->Bool
 | []=>true|x::xs=>(match x with| .d _ _=>true|_=>false)&&Fo xs
section
variable {P:Program} {Γ:G} {w:World} {s:S}
theorem YU (c:AJ Γ w s) (gl:Nat->Option (Ty × C)):Γ.H.le (G.Gg w gl).H:=by intro b l h;obtain⟨arr,T,fr,r,h1,h2⟩:=c.hH b l h;exact⟨r,by simp only[G.Gg,h1,h2]⟩
theorem AU.snap {Γ':G} {hm:Option Key} {g:V->V} (hg:∀(x:V) (p:List Nat) (vs:List Value) τ cc,AA Γ hm p x vs->g x= .d τ cc->x.ty=τ/\AH Γ'.H τ vs cc) (hd:∀x,g x= .any\/∃τ c,g x= .d τ c):
  ∀(xs:List V) (p:List Nat) (i:Nat) (τ:Ty) (vs:List Value) (cs:List C),AU Γ hm p i τ xs vs->ED (xs.map g)=some cs->AU Γ' hm p i τ (xs.map g) vs
 | [],_,_,_,_,_,_,_=>by simp only[List.map_nil,AU]
 |x::xs,p,i,τ,vs,cs,h,hc=>by
  simp only[AU,List.map_cons,ED]at h hc ⊢;obtain⟨⟨o,f,h1,h2,h3,h4⟩,h5⟩:=h;rcases hd x with e|⟨τ',c,e⟩;{rw[e]at hc;simp[CF]at hc}
  ·cases e2:ED (xs.map g)with
   |none=>rw[e,e2]at hc;simp[CF]at hc|some cs'=>
    obtain⟨rfl,q2⟩:=hg x _ _ _ _ h4 e;refine⟨⟨o,f,h1,by rw[e];exact h2,h3,?_⟩,AU.snap hg hd xs p (i+1) τ vs cs' h5 e2⟩;rw[e,<-h2]at*;simpa only[AA]using q2
theorem dC {s0:S} (c:AJ Γ w s) (hs:∀k o,Γ.ι k≠none->s0.obj k=some o->s.obj k=some o) (gl:Nat->Option (Ty × C)) {hm:Option Key}:∀(f:Nat) (x:V) (p:List Nat) (vs:List Value) (τ:Ty) (cc:C),AA Γ hm p x vs->FQ f s0 x= .d τ cc->x.ty=τ/\AH (G.Gg w gl).H τ vs cc
 |0,_,_,_,_,_,_,h=>by cases h
 |f+1,x,p,vs,τ,cc,hr,h=>by
  have hle:=YU c gl
  have other:(bif x.plain then(match CF x with
   |some c=>V.d x.ty c|none=>.any)else .any)= .d τ cc->x.ty=τ/\AH (G.Gg w gl).H τ vs cc:=by
   intro h;cases hp:x.plain with
   |false=>rw[hp]at h;cases h
   |true=>
    rw[hp]at h;simp only[cond_true]at h;split at h;{rename_i c0 hc0;cases h;exact⟨rfl,(KU x hr hc0).mono hle⟩};{cases h}
  cases x <;> (try exact other h)
  case agg τ0 xs=>
   simp only[FQ]at h;split at h
   ·rename_i cs hcs;cases h;refine⟨rfl,?_⟩;simp only[AA]at hr;obtain⟨a1,a2,a3,a4,a5⟩:=hr;have:AA (G.Gg w gl) hm p (.agg τ (xs.map (FQ f s0))) vs:=by simp only[AA];exact⟨a1,a2,by rw[lf];exact a3,a4,a5.snap (fun x p vs τ cc=>dC c hs gl f x p vs τ cc) (wY s0 f) xs p 0 τ vs cs hcs⟩
    exact KU _ this (by simp only[CF,hcs,Option.map_some])
   ·cases h
  case sr k q lo n cp eb e=>
   simp only[FQ]at h;split at h
   ·rename_i y ho0;split at h
    ·rename_i τ1 c1 hy;cases h;refine⟨rfl,?_⟩;simp only[AA]at hr;rcases hr with⟨_,rfl,a,rfl⟩|⟨b,τ0,o0,m,cap,a1,a2,a3,⟨a,rfl,a4⟩,a5,a6,a7,_⟩;{exact Dv (by simp) (cn _) (ed _) (by rw[gz];exact ed _) (.inl rfl)};obtain⟨b',cells,T,g1,g2,g3,g4,g5,g6,g7,_⟩:=c.own a1 (hs k _ (by rw[a1];simp) ho0);obtain⟨fr0,g4,xk⟩:=g4;rw[a1]at g1;cases g1;obtain⟨q1,q2,q3⟩:=g6.at_ a2 (by intro e1;rw[e1]at hy;cases f <;> cases hy) g7;obtain⟨rfl,q3⟩:=dC c hs gl f _ _ _ _ _ q3 hy;rw[q1]at q3;simp only[AH]at q3;obtain⟨cs,rfl,r1,r2,r3,r4⟩:=q3;simp only[bq];rw[EC _ _ _ (by simpa using g5)]at q2;have hlen:((cs.drop lo).take n).length=n:=by simp;omega
     have hmul:(lo+n)*e.size<=m*e.size:=cr _ a3;rw[dr]at hmul;simp only[ig]at q2 r2 r4;have xh:o0+lo*e.size+n*e.size<=cells.toList.length:=by simp;omega
     refine Dv hlen a5 a6 a7 ?_;rcases ng n with h0|h0;{exact .inl h0};{have ha:a=some ⟨b,o0+lo*e.size,none⟩:=a4.resolve_left (by omega);refine .inr ⟨b,o0+lo*e.size,cells.toList,ha,by simp only[G.Gg,g4],xh,fun i c' hi=>?_⟩;rw[fh]at hi;split at hi;{rename_i hin;rw[iz]at hi;have:=r4 _ _ hi;have z4f:(lo+i+1)*e.size<=m*e.size:=cr _ (by omega);rw[dr,dr]at z4f;rw[dr]at this;rw[EK _ _ _ _ _ (by omega),EK _ _ _ _ _ (by omega)]at this;rw[show 0+(o0+(lo*e.size+i*e.size))=o0+lo*e.size+i*e.size by omega]at this;exact this};{cases hi}}
    ·cases h
   ·cases h
theorem q7a {s0:S} (c:AJ Γ w s) (hs:∀k o,Γ.ι k≠none->s0.obj k=some o->s.obj k=some o) (gl:Nat->Option (Ty × C)) {x:V} {v:Value} {τ:Ty} {cc:C} (hr:AE Γ x v) (h:Fg s0 x= .d τ cc):AE (G.Gg w gl) (.d τ cc) v:=by
 have hp:x.plain=true:=by cases x <;> first|rfl|cases h
 obtain⟨h1,h2⟩:=(Bt hp).1 hr;obtain⟨rfl,h3⟩:=dC c hs gl _ _ _ _ _ _ h1 h;exact DU.2 ⟨h3,h2⟩
theorem q1O (hgl:∃gl0,Γ.gl=gl0) (c:AJ Γ w s) {xs:List V} (hx:Fo xs=true):AJ (G.Gg w Γ.gl) w (S.start xs fun _=>none):=by
 have htk:∀(l:List V) (n:Nat),Fo l=true->Fj n l=[]:=by
  intro l
  induction l with
  |nil=>intros;rfl|cons x xs ih=>
   intro n h;simp only[Fo,bz]at h;simp only[Fj];rw[ih _ h.2];cases x <;> simp at h <;> rfl
 refine⟨fun b l h=>?_,fun b o h=>h,fun b o sz h=>(by cases h),fun k o h=>?_,fun k h=>absurd rfl h,fun k k' b τ τ' h _=>(by cases h),fun t L h=>?_,fun t h=>absurd rfl h,fun g τ cc h=>?_,rfl,fun b sz h=>(by cases h)⟩;{simp only[G.Gg]at h;split at h;{rename_i arr T fr hw;cases h;exact⟨arr,T,fr,[],hw,by simp⟩};{cases h}};{exfalso;cases k <;> simp[S.start,jo,CR,AK]at h};{exfalso;simp[S.start,S.live,Dt,htk xs 1000 hx,look]at h};{obtain⟨l,h1,h2,h3⟩:=c.hgl g τ cc h;obtain⟨r,hr⟩:=YU c Γ.gl g l h1;refine⟨l++r,hr,by simp;omega,?_⟩;rw[NL _ _ _ _ (by omega)];exact h3.mono (YU c Γ.gl)}
theorem al:AOk fun _=>none:=fun _ _ h=>by cases h
theorem q1P {w':World} {gl:Nat->Option (Ty × C)} {Γ':G} {s':S} (gle:GLe (G.Gg w gl) Γ') (c':AJ Γ' w' s'):Ext w w':=by
 have old:∀b,b<w.heap.size->w'.heap[b]? =w.heap[b]?:=fun b hb=>by have h1:w.heap[b]? =some w.heap[b]:=ee hb;rw[h1];exact c'.hZ b _ (by rw[gle.Z];exact h1)
 refine⟨?_,old,?_⟩;{rcases ng w.heap.size with h|h;{omega};{have h1:=old (w.heap.size-1) (by omega);rw[ee (show w.heap.size-1<w.heap.size by omega)]at h1;have:=Hj h1;omega}};{rw[c'.hoo,gle.oo];rfl}
theorem q0I {X:Cx} (hgl:Γ.gl=X.gl) (c:AJ Γ w s) {o:Oper} {a:Act} {fo:Operand} {f:FuncId} {as:Array Operand} {ts:Array TypeId} {xs:List V} {v:V}
  (ho:o.op= .call {callee:=.value fo,args:=as,argTypes:=ts}) (z4j:Iu X.P f=true) (hf:AE Γ (.fn f []) (a.eval fo))
  (hlen:xs.length=as.toList.length) (hr:∀(i:Nat) x y,xs[i]? =some x->as.toList[i]? =some y->AE (G.Gg w Γ.gl) x (a.eval y)) (hx:Fo xs=true) (D:Bu X f xs (fun _=>none) v []) (hv:v.Di=true):
  Ar X.P o a w (BP Γ w s v):=by
 obtain⟨cv,hfv,hcl,_⟩:=Vf hf;have hcv:cv=#[]:=by apply ib;simpa using hcl.symm
 subst hcv;have run:(execOp a.eval o).run X.P w= .ok (.enter f (as.map a.eval)) w:=by unfold execOp;simp[ho,resolve,hfv,ss,invoke,vW z4j]
 have hsl:∀(l:List V) (n:Nat),Fo l=true->DB n l=l:=by
  intro l
  induction l with
  |nil=>intros;rfl|cons x xs ih=>
   intro n h;simp only[Fo,bz]at h;simp only[DB];rw[ih _ h.2];cases x <;> simp at h <;> rfl
 refine Ar.enter run ?_;refine(D (fun _=>none) (G.Gg w Γ.gl) w (as.map a.eval) (fun _ _ h=>h) hgl ⟨q1O ⟨_,rfl⟩ c hx,al⟩ (by simpa using hlen) fun i x u hx' hu=>?_).mono ?_
 ·rw[hsl xs 1000 hx]at hx';rw[td]at hu;cases hy:as[i]? with
  |none=>rw[hy]at hu;cases hu
  |some y=>
   rw[hy]at hu;cases hu;exact hr i x y hx' (by simpa using hy)
 ·rintro e w' ⟨u,Γ',rfl,gle,c',hv'⟩;rw[q66 hv]at hv';exact⟨u,rfl,BP.ext c (q1P gle c') (q6k hv hv')⟩
end
end
section
def XW:Value->V
 | .int k n=>.d (.int k) (.int n)| .bool b=>.d .bool (.bool b)| .string s=>.d .str (.str s.data.toList)| .pointer none=>.d .ptr .nil| .slice none 0 0=>.wk| .map none=>.d .map .nil| .nilFunc=>.d .func .nil| .nilIface=>.d .iface .nil|_=>.any
def XV:Value->Bool
 | .int k n=>decide (k.min<=n/\n<=k.max)| .string s=>decide (s.data.toList.length<=140737488355328)|_=>true
def VK:Operand->Bool
 | .const v=>XV v|_=>true
def Hl (n:Nat) (o:Oper):Bool:=
 o.op.operands.all VK&&(match o.dst with|some d=>decide (d<n)|none=>true)
def Ae (gl:Nat->Option (Ty × C)) (s:S):Operand->V
 | .tmp t=>s.get t| .const v=>XW v| .global g=>match gl g with|some (τ,c)=>.wm τ c|none=>.any
 | .func f=>.fn f []
def CD (md:List (Nat × Nat)) (d:Nat):Nat:=(look md d).getD 0
def S.add (s:S) (lo:List (Key × O)) (tn:List (Nat × Option Nat)):S:={s with loc:=lo++s.loc,tk:=tn++s.tk}
def Gt:List (Key × O)->Bool
 | []=>true|(.l _,_)::l=>Gt l|(.g _,_)::_=>false
def Hv (P:Program) (s:S) (t':TypeId) (eb:Nat) (e:Ty) (Y:V) (K:List C->Prop):Prop:=
 match ty P t' with
 | .slice _ _=>(match Y with| .wk=>K []|Y=>match EO s Y with|some (eb',e',ys)=>eb'=eb/\e'=e/\K ys|none=>False)| .str=>e= .int .u8/\eb=1/\Y.isStr/\K (Y.toStr.map fun b=>bt b.toNat)|_=>False
theorem SY {P:Program} (hP:Al P=true) {s:S} {t':TypeId} {eb:Nat} {e:Ty} {Y:V} {K:List C->Prop} (h:Hv P s t' eb e Y K):∃ys,K ys/\KI P s t' eb e Y ys:=by unfold Hv at h;split at h;{rename_i eb0 e0 ht;obtain⟨E,hu,_⟩:=Hx hP ht;split at h;{exact⟨[],h,.inl ⟨⟨E,hu⟩,.inr ⟨rfl,rfl⟩⟩⟩};{split at h;{rename_i eb' e' ys he;obtain⟨rfl,rfl,hK⟩:=h;exact⟨ys,hK,.inl ⟨⟨E,hu⟩,.inl he⟩⟩};{exact h.elim}}};{rename_i ht;obtain⟨h1,h2,h3,hK⟩:=h;exact⟨_,hK,.inr ⟨KJ ht,h3,h1,h2,rfl⟩⟩};{exact h.elim}
def Mo (X:Cx) (f:FuncId) (xs:List V) (v:V):Prop:=
 ∀(Γ:G) (w:World) (args:Array Value),xs.length=args.size->(∀(i:Nat) x u,xs[i]? =some x->args[i]? =some u->AE Γ x u)->∃u,(callFunc f args).run X.P w= .ok (.value u) w/\AE Γ v u
mutual
def V.pks:V->List Key
 | .ptr k _ _| .mp k=>[k]| .sr k _ _ _ (some _) _ _=>[k]| .agg _ vs=>V.GU vs|_=>[]
def V.GU:List V->List Key
 | []=>[]|x::xs=>x.pks++V.GU xs
end
def JM:Nat->List (Key × O)->List Key->List (Key × O)
 |0,_,_=>[]|n+1,loc,ks=>ks.flatMap fun k=>match AK loc k with|some o=>(k,o)::(match o with| .box x=>JM n loc x.pks|_=>[])|none=>[]
def S.see (base s:S) (xs:List V):S:={base with loc:=JM 3 s.loc (V.GU xs)++base.loc}
def dG (y:V) (q:List Nat) (t τ:Ty) (K:V->Prop):Prop:=
 match y,t with
 | .d (.arr M e) c,.arr m e'=>q≠[]/\e'=e/\τ=e/\(Ty.arr m e).known=true/\q.getLastD 0+m<=M/\K (.d (.arr m e) (.agg ((c.elems.drop (q.getLastD 0)).take m)))|_,_=>False
def iop (X:Cx) (md:List (Nat × Nat)) (base:S) (dst:Nat) (o:Oper) (ρ:Operand->V) (s:S) (K:V->List (Key × O)->List (Nat × Option Nat)->Prop):Prop:=
 match o.op with
 | .load T x=>if CD md dst=18 then(match ρ x with| .ptr k q τ=>(match s.obj k with|some (.box y)=>dG (y.at q.dropLast) q (ty X.P T) τ fun v=>K v [] []|_=>False)|_=>False)
  else(match ρ x with| .ptr k q τ=>(match s.obj k with|some (.box y)=>y.at q≠.any/\τ=ty X.P T/\τ.known=true/\K (view (y.at q)) [] []|_=>False)| .wm τ c=>τ=ty X.P T/\τ.known=true/\K (.d τ c) [] []|_=>False)
 | .alloc T=>CE X.P T=true/\K (.ptr (.l dst) [] (ty X.P T)) [(.l dst,Ri (ty X.P T) T)] []
 | .box _ x=>if CD md dst=5 then(ρ x).plain=true/\(match CF (ρ x)with|some cc=>K (.wm (ρ x).ty cc) [] []|none=>False)
   else(ρ x).plain=true/\(ρ x).BJ=true/\K (.ptr (.l dst) [] (ρ x).ty) [(.l dst,.box (ρ x))] []
 | .buildSlice t len parts=>(match ty X.P t with
   | .slice eb e=>(match len with
    |0=>parts.toList.length=0/\K (.emp eb e) [] []
    |len+1=>CE X.P (Af X.P t)=true/\e.size≠0/\(len+1)*e.size<=16777216/\(len+1)*eb<=140737488355328/\parts.toList.map (·.1)=List.range (len+1)/\
      (if CD md dst=20 then(∀x∈parts.toList.map (fun x=>ρ x.2),x.ty=e/\x.plain=true)/\V.Cf (parts.toList.map fun x=>ρ x.2)=true/\K (.sr (.l dst) [] 0 (len+1) (some (len+1)) eb e) [(.l dst,.box (.agg (.arr (len+1) e) (parts.toList.map fun x=>ρ x.2)))] []else match ED (parts.toList.map fun x=>ρ x.2)with|some cs=>(∀x∈parts.toList.map (fun x=>ρ x.2),x.ty=e/\x.plain=true)/\(if CD md dst=4 then K (.sl eb e cs dst) [] [(dst,some cs.length)]else K (.d (.slice eb e) (.slice cs)) [] [])|none=>False))
   |_=>False)
 | .build T parts=>CE X.P T=true/\(ty X.P T).CG=true/\(ty X.P T).isAgg=true/\Ld (ty X.P T) (Ai (ty X.P T)) (parts.toList.map fun p=>(p.1,ρ p.2))/\
   K (JY (ty X.P T) (Ai (ty X.P T)) (parts.toList.map fun p=>(p.1,ρ p.2))) [] []
 | .makeSlice t l c=>(match ty X.P t with
   | .slice eb e=>CE X.P (Af X.P t)=true/\(ρ l).Ew/\(ρ c).Ew/\0<=(ρ l).toInt/\(ρ l).toInt<=(ρ c).toInt/\(ρ c).toInt<=9223372036854775807/\(ρ c).toInt.toNat*eb<=140737488355328/\e.size≠0/\
     K (.sr (.l dst) [] 0 (ρ l).toInt.toNat (if CD md dst=9 then none else some (ρ c).toInt.toNat) eb e) [(.l dst,.box (.d (.arr (ρ l).toInt.toNat e) (.agg (db (ρ l).toInt.toNat (AL e)))))] []
   |_=>False)
 | .makeMap T r=>(match r,Gr X.P T with|none,some (kt,et)=>K (.mp (.l dst)) [(.l dst,.map (ty X.P kt) (ty X.P et) [])] []|_,_=>False)
 | .lookup T x i ok=>(match Gr X.P T,ρ x with
   |some (kt,et),.mp k=>(match s.obj k with
     |some (.map kτ _ es)=>kτ=ty X.P kt/\CJ X.P kt=true/\CE X.P et=true/\(ρ i).DK kτ/\
       K (if ok then .tup [Gn X.P et es (ρ i).toC,.d .bool (.bool (FB es (ρ i).toC).isSome)]else Gn X.P et es (ρ i).toC) [] []
     |_=>False)
   |_,_=>False)
 | .call c=>(match c.callee with
   | .value fo=>(match ρ fo with
     | .fn f wq=>(Iu X.P f=true/\c.argTypes.toList.length=c.args.toList.length/\
      ∃b v L,(b=base\/b=base.see s (EJ (c.args.toList.map ρ) wq))/\Bu X f (Cs X.P false s (Ja c.argTypes.toList wq) (EJ (c.args.toList.map ρ) wq)) b.up v L/\Gt L=true/\
       K ((v.DA 2000).ren (dn dst) (rk dst)) (dnL dst L) (dnT dst (v.tkR 2000)))\/
      (wq=[]/\∃v,Mo X f (c.args.toList.map ρ) v/\K v [] [])\/
      (wq=[]/\Iu X.P f=true/\∃v,Fo (c.args.toList.map fun y=>Fg s (ρ y))=true/\Bu X f (c.args.toList.map fun y=>Fg s (ρ y)) (fun _=>none) v []/\v.Di=true/\K v [] [])
     |_=>False)
   | .builtin .append=>(match c.args.toList,c.argTypes.toList with| [x,y],[t,t']=>CE X.P (Af X.P t)=true/\(match ty X.P t,ρ x with| .slice eb e,.emp _ _=>Hv X.P s t' eb e (ρ y) fun ys=>if CD md dst=3 then ys≠[]/\K (.sr (.l dst) [] 0 ys.length none eb e) [(.l dst,.box (.d (.arr ys.length e) (.agg ys)))] []else K (.sl eb e ys dst) [] [(dst,some ys.length)]| .slice eb e,.wk=>Hv X.P s t' eb e (ρ y) fun ys=>if CD md dst=3 then ys≠[]/\K (.sr (.l dst) [] 0 ys.length none eb e) [(.l dst,.box (.d (.arr ys.length e) (.agg ys)))] []else K (.sl eb e ys dst) [] [(dst,some ys.length)]|_,_=>False)|_,_=>False)| .builtin .len=>(match c.args.toList,c.argTypes.toList with| [x],[T]=>(match ρ x with| .mp k=>(match Gr X.P T,s.obj k with|some _,some (.map _ _ es)=>es.length<=9223372036854775807/\K (.d (.int .i64) (.int es.length)) [] []|_,_=>False)|_=>pv X.P o.op ρ fun y=>K y [] [])|_,_=>pv X.P o.op ρ fun y=>K y [] [])|_=>pv X.P o.op ρ fun y=>K y [] [])
 | .convert src yr x=>(match strOf X.P s src yr (ρ x)with|some ys=>K (.d .str (.str (ys.map KT))) [] []|none=>pv X.P o.op ρ fun y=>K y [] [])|_=>pv X.P o.op ρ fun y=>K y [] []
structure Compat (s' s base:S):Prop where
 obj:∀k o,s.obj k=some o->s'.obj k≠none->s'.obj k=some o
 base:∀k o,base.obj k=some o->s'.obj k=some o
structure Sq (s:S) (lo:List (Key × O)) (tn:List (Nat × Option Nat)):Prop where
 l:∀k o,AK lo k=some o->s.obj k=none
 t:∀t x,look tn t=some x->s.known t=false
section
variable {X:Cx} {Γ:G} {w:World} {s:S}
theorem Compat.getObj {s' base:S} (h:Compat s' s base) (c:AJ Γ w s') {k:Key} {o:O} (hι:Γ.ι k≠none) (ho:s.obj k=some o):s'.obj k=some o:=h.obj k o ho (c.dom k hι)
theorem kJ {s' base:S} (h:Compat s' s base) (c:AJ Γ w s') {x:V} {v:Value} {r:Nat × Ty × List C} (hr:AE Γ x v) (he:EO s x=some r):∃x',AE Γ x' v/\(x'= .wk->x= .wk)/\EO s' x'=some r:=by
 cases x <;> (try exact⟨_,hr,id,he⟩)
 case sr k q lo n cp eb e=>
  rcases Gw hr with⟨_,rfl,a,rfl⟩|⟨b,τ0,o,m,cap,a,hι,_⟩;{refine⟨.emp eb e,Oh,(fun h=>by cases h),?_⟩;simp only[EO]at he;split at he;{split at he;{rw[<-he];simp[EO,V.Eh]};{cases he}};{cases he}}
  ·refine⟨_,hr,id,?_⟩;simp only[EO]at he ⊢;cases ho:s.obj k with
   |none=>simp[ho]at he|some o=>
    rw[h.getObj c (by rw[hι];simp) ho];rw[ho]at he;exact he
theorem q7k {P:Program} {s' base:S} (h:Compat s' s base) (c:AJ Γ w s') {src dst:TypeId} {Y:V} {v:Value} {ys:List C} (hr:AE Γ Y v) (he:strOf P s src dst Y=some ys):∃Y',AE Γ Y' v/\strOf P s' src dst Y'=some ys:=by
 cases hel:EO s Y with
 |some r=>
  obtain⟨Y',h1,h2,h3⟩:=kJ h c hr hel;by_cases hY:Y= .wk;{subst hY;exact⟨_,hr,he⟩};refine⟨Y',h1,?_⟩;rw[<-he];unfold strOf;have hY':Y'≠.wk:=fun e=>hY (h2 e);rw[hel,h3];cases Y <;> first|exact absurd rfl hY|(cases Y' <;> first|exact absurd rfl hY'|rfl)
 |none=>
  refine⟨_,hr,?_⟩;unfold strOf at he ⊢;rw[hel]at he;split at he;{split at he;{rename_i h0;rw[if_pos h0];split at he;{exact he};{cases he}};{cases he}};{cases he}
theorem Vz {P:Program} {s' base:S} (h:Compat s' s base) (c:AJ Γ w s') {t':TypeId} {eb:Nat} {e:Ty} {Y:V} {v:Value} {ys:List C} (hr:AE Γ Y v) (he:KI P s t' eb e Y ys):∃Y',AE Γ Y' v/\KI P s' t' eb e Y' ys:=by rcases he with⟨h1,h2|h2⟩|h1;{obtain⟨Y',a,_,b⟩:=kJ h c hr h2;exact⟨Y',a,.inl ⟨h1,.inl b⟩⟩};{exact⟨_,hr,.inl ⟨h1,.inr h2⟩⟩};{exact⟨_,hr,.inr h1⟩}
theorem ar {P:Program} (s s':S) (T:TypeId) (x:V):Df P false s T x=Df P false s' T x:=by cases x <;> simp[Df]
theorem TA {P:Program} (s s':S):∀(Ts:List TypeId) (xs:List V),Cs P false s Ts xs=Cs P false s' Ts xs
 | [],_=>rfl|_::_,[]=>rfl|T::Ts,x::xs=>by simp only[Cs,ar s s',TA s s' Ts xs]
theorem VV (s:S):∀(xs:List V),Cm false s xs=[]
 | []=>rfl|x::xs=>by
  have:Cg false s x=none:=by cases x <;> simp[Cg]
  simp[Cm,this,VV s xs]
theorem sV:∀{L:List (Key × O)} {k:Key} {o:O},Gt L=true->AK L (.g k)=some o->False
 | [],_,_,_,h=>by simp[AK]at h
 |(.l n,_)::L,k,o,hl,h=>by simp[AK]at h;exact sV (L:=L) (by simpa[Gt]using hl) h
 |(.g _,_)::_,_,_,hl,_=>by simp[Gt]at hl
theorem sU (d:Nat):∀{L:List (Key × O)} {j:Nat} {o:O},Gt L=true->AK L (.l j)=some o->AK (dnL d L) (.l (rk d j))=some (o.ren (dn d))
 | [],_,_,_,h=>by simp[AK]at h
 |(.l n,o')::L,j,o,hl,h=>by
  simp only[AK]at h;simp only[dnL,AK,dn];by_cases e:n=j;{subst e;simp at h;subst h;simp}
  ·have e1:Key.l n≠.l j:=by intro h;cases h;exact e rfl
   have e2:Key.l (rk d n)≠.l (rk d j):=by intro h;simp[rk]at h;exact e h
   rw[if_neg e1]at h;rw[if_neg e2];exact sU d (L:=L) (by simpa[Gt]using hl) h
 |(.g _,_)::_,_,_,hl,_=>by simp[Gt]at hl
theorem q3K (d:Nat) (l:List (Nat × Option Nat)) (m:Nat):look (dnT d l) (rk d m)=look l m:=by rw[Uh,Ot]
def WX (X:Cx) (base:S) (o:Oper) (ρ:Operand->V) (s:S) (v:V) (lo:List (Key × O)) (tn:List (Nat × Option Nat)):Prop:=
 ∀(Γ:G) (w:World) (a:Act) (s':S),Γ.gl=X.gl->AJ Γ w s'->Compat s' s base->Sq s' lo tn->(∀y∈o.op.operands,AE Γ (ρ y) (a.eval y))->Ar X.P o a w (BP Γ w (s'.add lo tn) v)
theorem q0M (hP:Al X.P=true) {o:Oper} {ρa:Operand->V} {K:V->Prop} (h:pv X.P o.op ρa K):
  ∃v,K v/\∀(Γ:G) (w:World) (a:Act) (s':S),AJ Γ w s'->(∀y∈o.op.operands,AE Γ (ρa y) (a.eval y))->Ar X.P o a w (BP Γ w s' v):=by
 obtain⟨v,hK,hs⟩:=q6a hP h;refine⟨v,hK,fun Γ w a s' c hr=>?_⟩;obtain⟨u,h1,h2⟩:=hs Γ w a.eval hr;exact Ar.val h1 (BP.same c h2)
mutual
theorem bQ {Γ:G}:∀{x:V} {hm:Option Key} {p:List Nat} {vs:List Value},AA Γ hm p x vs->∀k∈x.pks,Γ.ι k≠none
 | .ptr k0 q τ,_,_,_,h,k,hk=>by simp only[V.pks,ft]at hk;subst hk;simp only[AA]at h;obtain⟨b,τ0,o,h1,_⟩:=h;rw[h1];simp
 | .mp k0,_,_,_,h,k,hk=>by simp only[V.pks,ft]at hk;subst hk;simp only[AA]at h;obtain⟨b,h1,_⟩:=h;rw[h1];simp
 | .sr k0 q lo n (some c) eb e,_,_,_,h,k,hk=>by simp only[V.pks,ft]at hk;subst hk;simp only[AA]at h;rcases h with⟨h,_⟩|⟨b,τ0,o,m,cap,h1,_⟩;{cases h};{rw[h1];simp}
 | .agg τ xs,_,_,_,h,k,hk=>by simp only[V.pks]at hk;simp only[AA]at h;exact uF h.2.2.2.2 k hk
 | .sr _ _ _ _ none _ _,_,_,_,_,k,hk| .d _ _,_,_,_,_,k,hk| .sl _ _ _ _,_,_,_,_,k,hk| .ts _ _ _,_,_,_,_,k,hk| .emp _ _,_,_,_,_,k,hk| .wk,_,_,_,_,k,hk| .wm _ _,_,_,_,_,k,hk| .fn _ _,_,_,_,_,k,hk| .tup _,_,_,_,_,k,hk| .top _,_,_,_,_,k,hk| .any,_,_,_,_,k,hk=>by simp[V.pks]at hk
theorem uF {Γ:G}:∀{xs:List V} {hm:Option Key} {p:List Nat} {i:Nat} {τ:Ty} {vs:List Value},AU Γ hm p i τ xs vs->∀k∈V.GU xs,Γ.ι k≠none
 | [],_,_,_,_,_,_,k,hk=>by simp[V.GU]at hk
 |x::xs,_,_,_,_,_,h,k,hk=>by simp only[V.GU,ic]at hk;simp only[AU]at h;obtain⟨⟨o,f,_,_,_,h1⟩,h2⟩:=h;rcases hk with hk|hk;{exact bQ h1 k hk};{exact uF h2 k hk}
end
theorem q5N {Γ:G} {x:V} {v:Value} (h:AE Γ x v):∀k∈x.pks,Γ.ι k≠none:=by
 cases x with
 |any=>intro k hk;simp[V.pks]at hk|tup=>intro k hk;simp[V.pks]at hk|_=>exact bQ h.1
theorem uE:∀{xs:List V} {k:Key},k∈V.GU xs->∃x∈xs,k∈x.pks
 | [],_,h=>by simp[V.GU]at h
 |x::xs,k,h=>by simp only[V.GU,ic]at h;rcases h with h|h;{exact⟨x,by simp,h⟩};{obtain⟨y,h1,h2⟩:=uE h;exact⟨y,by simp[h1],h2⟩}
theorem pO {s:S} {k:Key} {o:O} (h:AK s.loc k=some o):s.obj k=some o:=by unfold jo CR;rw[h]
theorem ZW:∀{l:List (Key × O)} {k:Key} {o:O},AK l k=some o->(k,o)∈l
 | [],_,_,h=>by simp[AK]at h
 |(j,x)::l,k,o,h=>by simp only[AK]at h;split at h;{rename_i e;subst e;cases h;exact List.mem_cons_self ..};{exact List.mem_cons_of_mem _ (ZW h)}
theorem uT {s' base:S} (hc:Compat s' s base) (c:AJ Γ w s'):∀(n:Nat) (ks:List Key),(∀k∈ks,Γ.ι k≠none)->∀p∈JM n s.loc ks,s'.obj p.1=some p.2
 |0,_,_,p,hp=>by simp[JM]at hp
 |n+1,ks,hk,p,hp=>by
  simp only[JM,List.mem_flatMap]at hp;obtain⟨k,h1,hp⟩:=hp;split at hp
  ·rename_i o ho;have hs:s'.obj k=some o:=hc.getObj c (hk k h1) (pO ho);rcases ja.1 hp with rfl|hp;{exact hs}
   ·cases o with
    |box x=>
     have hks:∀k∈x.pks,Γ.ι k≠none:=by rcases c.obj k _ hs with⟨_,e,hv⟩|⟨b,cells,T,_,_,_,_,_,hr,_⟩;{subst hv;intro k hk;simp[V.pks]at hk};{exact bQ hr}
     exact uT hc c n x.pks hks p hp
    |_=>simp at hp
  ·simp at hp
theorem q6N {s' base:S} (hc:Compat s' s base) (c:AJ Γ w s') {xs:List V} (hx:∀x∈xs,∃v,AE Γ x v) {k:Key} {o:O} (h:(base.see s xs).obj k=some o):s'.obj k=some o:=by
 unfold jo S.see CR at h;simp only[Kp]at h;cases hl:AK (JM 3 s.loc (V.GU xs)) k with
 |some o'=>
  rw[hl]at h;cases h;refine uT hc c 3 (V.GU xs) (fun k hk=>?_) (k,o) (ZW hl);obtain⟨x,h1,h2⟩:=uE hk;obtain⟨v,hv⟩:=hx x h1;exact q5N hv k h2
 |none=>
  rw[hl]at h;exact hc.base k o h
theorem fO:∀{l:List V} {i:Nat} {x:V},Fo l=true->l[i]? =some x->∃τ c,x= .d τ c
 | [],i,x,_,h=>by simp at h
 |y::l,0,x,hl,h=>by simp only[Fo,bz]at hl;simp at h;subst h;cases y <;> simp at hl;exact⟨_,_,rfl⟩
 |y::l,i+1,x,hl,h=>by simp only[Fo,bz]at hl;exact fO hl.2 (by simpa using h)
theorem q69 {s' base:S} (hc:Compat s' s base) (c:AJ Γ w s') {gl:Nat->Option (Ty × C)} {x:V} {v:Value} (hr:AE Γ x v) (hd:∃τ cc,Fg s x= .d τ cc):AE (G.Gg w gl) (Fg s x) v:=by obtain⟨τ,cc,hd⟩:=hd;rw[hd];exact q7a c (fun k o hι ho=>hc.getObj c hι ho) gl hr hd
theorem Lx (hP:Al X.P=true) {md:List (Nat × Nat)} {base:S} {dst:Nat} {o:Oper} {ρa:Operand->V} {K:V->List (Key × O)->List (Nat × Option Nat)->Prop} (h:iop X md base dst o ρa s K):
  ∃v lo tn,K v lo tn/\WX X base o ρa s v lo tn:=by
 have zi:(pv X.P o.op ρa fun y=>K y [] [])->∃v lo tn,K v lo tn/\WX X base o ρa s v lo tn:=by intro h;obtain⟨v,hK,hd⟩:=q0M hP h;exact⟨v,[],[],hK,fun Γ w a s' _ c _ _ hr=>hd Γ w a s' c hr⟩
 unfold iop at h;split at h
 · -- load
  rename_i T x ho;split at h
  ·split at h
   ·rename_i k q τ hx;split at h
    ·rename_i y wy;unfold dG at h;split at h
     ·rename_i y0 t0 M e cc m e' hat ht;obtain⟨hq,rfl,rfl,hk,hlo,hK⟩:=h;refine⟨_,_,_,hK,fun Γ w a s' _ c hc _ hr=>?_⟩;have hxr:=hr x (by rw[ho];simp[cu]);rw[hx]at hxr;obtain⟨b,τ0,o0,hι,_⟩:=GD hxr;have hq2:q=q.dropLast++[q.getLastD 0]:=by rw[List.getLastD_eq_getLast?,List.getLast?_eq_some_getLast hq,Option.getD_some];exact(List.dropLast_concat_getLast hq).symm
      rw[hq2]at hxr;obtain⟨u,r1,r2⟩:=q3G (T:=T) hP c hxr (hc.getObj c (by rw[hι];simp) wy) hat ht hk hlo;exact Ar.val (by unfold execOp;simp[ho,r1]) (BP.same c r2)
     ·exact h.elim
    ·exact h.elim
   ·exact h.elim
  split at h;{rename_i k q τ hx;split at h;{rename_i y wy;obtain⟨h1,h2,h3,hK⟩:=h;refine⟨_,_,_,hK,fun Γ w a s' _ c hc _ hr=>?_⟩;have hxr:=hr x (by rw[ho];simp[cu]);rw[hx]at hxr;obtain⟨b,τ0,o0,hι,_⟩:=GD hxr;obtain⟨u,r1,r2⟩:=ZS (T:=T) hP c hxr (hc.getObj c (by rw[hι];simp) wy) h1 h2 h3;exact Ar.val (by unfold execOp;simp[ho,r1]) (BP.same c r2)};{exact h.elim}};{rename_i τ cc hx;obtain⟨h2,h3,hK⟩:=h;refine⟨_,_,_,hK,fun Γ w a s' _ c hc _ hr=>?_⟩;have hxr:=hr x (by rw[ho];simp[cu]);rw[hx]at hxr;obtain⟨u,r1,r2⟩:=q3F (T:=T) hP c hxr h2 h3;exact Ar.val (by unfold execOp;simp[ho,r1]) (BP.same c r2)};{exact h.elim}
 ·rename_i T ho;obtain⟨h1,hK⟩:=h;exact⟨_,_,_,hK,fun Γ w a s' _ c _ hf _=>q0p c ho (hf.l _ _ (MH _ _ _)) h1⟩
 ·rename_i T x ho;split at h;{obtain⟨h1,h⟩:=h;split at h;{rename_i cc hcc;exact⟨_,_,_,h,fun Γ w a s' _ c _ hf hr=>q0t c ho (hr x (by rw[ho];simp[cu])) h1 hcc⟩};{exact h.elim}};{obtain⟨h1,h2,hK⟩:=h;exact⟨_,_,_,hK,fun Γ w a s' _ c _ hf hr=>q0s c ho (hf.l _ _ (MH _ _ _)) (hr x (by rw[ho];simp[cu])) h1 h2⟩}
 · -- buildSlice
  rename_i t len parts ho;split at h
  ·rename_i eb e ht;split at h
   ·obtain⟨h1,hK⟩:=h;have hp0:parts=#[]:=by apply ib;simpa using h1
    subst hp0;exact⟨_,_,_,hK,fun Γ w a s' _ c _ _ _=>q0x hP c ho ht⟩
   ·rename_i len;obtain⟨h1,h2,h3,h4,h5,h⟩:=h;split at h;{obtain⟨h6,h7,hK⟩:=h;refine⟨_,_,_,hK,fun Γ w a s' _ c _ hf hr=>q0y hP c (hf.l _ _ (MH _ _ _)) ho ht h1 (by omega) h2 h3 h4 h5 (by have:=congrArg List.length h5;simpa using this) (fun i x y hx hy=>?_) h6 h7⟩;rw[dx,hx]at hy;cases hy;exact hr x.2 (by rw[ho];simp only[cu];exact pw.2 (lx.2 ⟨x,fk hx,rfl⟩))};split at h
    ·rename_i cs hcs;obtain⟨h6,hK⟩:=h;obtain⟨l1,l2⟩:=XK hcs;have hl:cs.length=len+1:=by rw[l1];have:=congrArg List.length h5;simpa using this
     have key:∀(Γ:G) (w:World) (a:Act) (s':S),Γ.gl=X.gl->AJ Γ w s'->(∀y∈o.op.operands,AE Γ (ρa y) (a.eval y))->∀(i:Nat) (x:Nat × Operand) (cc:C),parts.toList[i]? =some x->cs[i]? =some cc->AE Γ (.d e cc) (a.eval x.2):=by
      intro Γ w a s' _ c hr i x cc hx hcc;have hxm:(parts.toList.map fun x=>ρa x.2)[i]? =some (ρa x.2):=by simp only[dx,hx];rfl
      obtain⟨t1,t2⟩:=h6 _ (fk hxm);have z4n:x∈parts.toList:=fk hx;have hrx:=hr x.2 (by rw[ho];simp only[cu];exact pw.2 (lx.2 ⟨x,z4n,rfl⟩));obtain⟨q1,q2⟩:=(Bt t2).1 hrx;have:=KU _ q1 (l2 i _ cc hxm hcc);rw[t1]at this q2;exact DU.2 ⟨this,q2⟩
     split at hK;{exact⟨_,_,_,hK,fun Γ w a s' hg c _ hf hr=>q0z hP c (hf.t _ _ (Uf _ _ _)) ho ht h1 (by omega) h2 h3 h4 h5 hl (key Γ w a s' hg c hr)⟩};{exact⟨_,_,_,hK,fun Γ w a s' hg c _ _ hr=>q0w hP c ho ht h1 (by omega) h2 h3 h4 h5 hl (key Γ w a s' hg c hr)⟩}
    ·exact h.elim
  ·exact h.elim
 · -- build
  rename_i T parts ho;obtain⟨h1,h2,h3,h4,hK⟩:=h;refine⟨_,_,_,hK,fun Γ w a s' _ c _ _ hr=>?_⟩;obtain⟨u,r1,r2⟩:=q0v (Γ:=Γ) (w:=w) (ev:=a.eval) hP h1 h2 h3 (fun p hp=>hr p.2 (by rw[ho];simp only[cu];exact pw.2 (lx.2 ⟨p,hp,rfl⟩))) h4;refine Ar.val (v:=u) (w':=w) ?_ (BP.same c r2);unfold execOp;simp only[ho,dh,r1,de,fb]
 · -- makeSlice
  rename_i t l cp ho;split at h;{rename_i eb e ht;obtain⟨h1,h2,h3,h4,h5,h6,h7,h8,hK⟩:=h;refine⟨_,_,_,hK,fun Γ w a s' _ c _ hf hr=>?_⟩;obtain⟨k1,e1⟩:=PU h2 (hr l (by rw[ho];simp[cu]));obtain⟨k2,e2⟩:=PU h3 (hr cp (by rw[ho];simp[cu]));exact q0G (L:=ρa l) (Cp:=ρa cp) (k1:=k1) (k2:=k2) (nl:=(ρa l).toInt.toNat) (nc:=(ρa cp).toInt.toNat) hP c ho ht h1 (hf.l _ _ (MH _ _ _)) (by rw[e1,gy h4]) (by rw[e2,gy (by omega)]) (by omega) (by unfold maxLen;omega) h7 h8 (fun c h=>by split at h <;> cases h;rfl)};{exact h.elim}
 · -- makeMap
  rename_i T r ho;split at h;{rename_i kt et hT;exact⟨_,_,_,h,fun Γ w a s' _ c _ hf _=>q0F c ho (hf.l _ _ (MH _ _ _))⟩};{exact h.elim}
 · -- lookup
  rename_i T x i ok ho;split at h
  ·rename_i kt et k hT hx;split at h
   ·rename_i kτ vτ es wy;obtain⟨rfl,h1,h2,h3,hK⟩:=h;refine⟨_,_,_,hK,fun Γ w a s' _ c hc _ hr=>?_⟩;have hxr:=hr x (by rw[ho];simp[cu]);rw[hx]at hxr;obtain⟨b,hι,_⟩:=SK hxr;have hir:=hr i (by rw[ho];simp[cu]);have hd:ρa i= .d (ty X.P kt) (ρa i).toC:=by cases hi:ρa i <;> simp[hi,V.DK]at h3;subst h3;rfl
    rw[hd]at hir;have:=q0E hP c ho hT hxr hir (hc.getObj c (by rw[hι];simp) wy) h1 h2;exact this
   ·exact h.elim
  ·exact h.elim
 · -- calls
  rename_i cl ho;obtain⟨callee,args,ts⟩:=cl;split at h
  ·rename_i fo hfo;simp only at hfo h;subst hfo;split at h
   ·rename_i f wq hf;rcases h with⟨h1,h2,b,v,L,hB,D,hL,hK⟩|⟨rfl,v,E,hK⟩|⟨rfl,h1,v,hx,D,hv,hK⟩
    rotate_left
    ·refine⟨_,_,_,hK,fun Γ w a s' hgl c hc hfr hr=>?_⟩;have hrf:=hr fo (by rw[ho];simp[cu,ef]);rw[hf]at hrf;obtain⟨cv,hfv,hcl,_⟩:=Vf hrf;have hcv:cv=#[]:=by apply ib;simpa using hcl.symm
     subst hcv;obtain⟨u,e1,e2⟩:=E Γ w (args.map a.eval) (by simp) fun i x u hx hu=>by
      simp only[dx,td]at hx hu;cases hy:args[i]? with
      |none=>rw[hy]at hu;cases hu
      |some y=>
       have hy':args.toList[i]? =some y:=by simpa using hy
       rw[hy]at hu;rw[hy']at hx;cases hu;cases hx;exact hr y (by rw[ho];simp only[cu,ef];exact jf _ (Array.mem_of_getElem? hy))
     refine Ar.val (v:=u) (w':=w) ?_ (BP.same c e2);unfold execOp;simp[ho,resolve,hfv,ss,invoke,e1]
    ·refine⟨_,_,_,hK,fun Γ w a s' hgl c hc hfr hr=>?_⟩;have hrf:=hr fo (by rw[ho];simp[cu,ef]);rw[hf]at hrf;refine q0I hgl c ho h1 hrf (by simp) (fun i x y hx' hy=>?_) hx D hv;simp only[dx]at hx';have hx2:=hx';rw[hy]at hx';cases hx';refine q69 hc c (hr y (by rw[ho];simp only[cu,ef];exact jf _ (jz.1 (fk hy)))) (fO hx (i:=i) ?_);simp only[dx];exact hx2
    refine⟨_,_,_,hK,fun Γ w a s' hgl c hc hfr hr=>?_⟩;have hrf:=hr fo (by rw[ho];simp[cu,ef]);rw[hf]at hrf;rw[TA s s']at D;have hbb:∀k o,b.obj k=some o->s'.obj k=some o:=by
     intro k ob hk;rcases hB with rfl|rfl;{exact hc.base k ob hk}
     ·refine q6N hc c (fun x hx=>?_) hk;simp only[EJ,ic,lx]at hx;rcases hx with⟨y,hy,rfl⟩|hx;{exact⟨_,hr y (by rw[ho];simp only[cu,ef];exact jf _ (jz.1 hy))⟩}
      ·obtain⟨cv,_,q1,q2⟩:=Vf hrf;obtain⟨i,hi⟩:=List.mem_iff_getElem?.1 hx;have hlt:i<cv.toList.length:=by rw[<-q1];exact(cm.1 hi).1
       exact⟨_,q2 i x _ hi (List.getElem?_eq_getElem hlt)⟩
    have:=jV (tip:=false) (A:=b.up) (d:=dst) rfl hgl c ho h1 h2 hrf (fun y hy=>hr y (by rw[ho];simp only[cu,ef];exact jf _ (jz.1 hy))) (by rw[VV];rfl) D
     (fun k o hk=>by
      simp only[S.up]at hk ⊢;cases hb:b.obj k with
      |none=>simp[hb]at hk|some ob=>rw[hbb k ob hb];rw[hb]at hk;exact hk)
     (fun k o hk=>(sV hL hk).elim) (fun j o hj=>hfr.l _ _ (sU dst hL hj)) (fun m x hm=>hfr.t _ x (by rw[q3K];exact hm))
    have e:S.back s' false (EJ (args.toList.map ρa) wq) dst v L=s'.add (dnL dst L) (dnT dst (v.tkR 2000)):=by simp[S.back,S.add,VV,Gc]
    rw[<-e];exact this
   ·exact h.elim
  ·rename_i hb;simp only at hb h;subst hb;split at h
   ·rename_i x y t t' xf hts;have ym:args=#[x,y]:=by cases args;simpa using xf
    have zc:ts=#[t,t']:=by cases ts;simpa using hts
    subst ym;subst zc;obtain⟨h1,h⟩:=h;split at h;{rename_i eb e eb0 e0 ht hx;obtain⟨ys,hK,hs⟩:=SY hP h;split at hK;{obtain⟨hne,hK⟩:=hK;refine⟨_,_,_,hK,fun Γ w a s' _ c hc hf hr=>?_⟩;have hyr:=hr y (by rw[ho];simp[cu,ef]);have hxr:=hr x (by rw[ho];simp[cu,ef]);obtain⟨Y',zd,hs'⟩:=Vz hc c hyr hs;exact jS hP c ho ht h1 (hf.l _ _ (MH _ _ _)) hxr (.inr ⟨_,_,hx⟩) zd hs' hne};{refine⟨_,_,_,hK,fun Γ w a s' _ c hc hf hr=>?_⟩;have hyr:=hr y (by rw[ho];simp[cu,ef]);have hxr:=hr x (by rw[ho];simp[cu,ef]);obtain⟨Y',zd,hs'⟩:=Vz hc c hyr hs;exact jT hP c ho ht h1 (hf.t dst _ (Uf _ _ _)) hxr (.inr ⟨_,_,hx⟩) zd hs'}};{rename_i eb e ht hx;obtain⟨ys,hK,hs⟩:=SY hP h;split at hK;{obtain⟨hne,hK⟩:=hK;refine⟨_,_,_,hK,fun Γ w a s' _ c hc hf hr=>?_⟩;have hyr:=hr y (by rw[ho];simp[cu,ef]);have hxr:=hr x (by rw[ho];simp[cu,ef]);obtain⟨Y',zd,hs'⟩:=Vz hc c hyr hs;exact jS hP c ho ht h1 (hf.l _ _ (MH _ _ _)) hxr (.inl hx) zd hs' hne};{refine⟨_,_,_,hK,fun Γ w a s' _ c hc hf hr=>?_⟩;have hyr:=hr y (by rw[ho];simp[cu,ef]);have hxr:=hr x (by rw[ho];simp[cu,ef]);obtain⟨Y',zd,hs'⟩:=Vz hc c hyr hs;exact jT hP c ho ht h1 (hf.t dst _ (Uf _ _ _)) hxr (.inl hx) zd hs'}};{exact h.elim}
   ·exact h.elim
  ·rename_i hb;simp only at hb h;subst hb;split at h
   ·rename_i x T xf hts;have ym:args=#[x]:=by cases args;simpa using xf
    have zc:ts=#[T]:=by cases ts;simpa using hts
    subst ym;subst zc;split at h;{rename_i k hx;split at h;{rename_i pr kτ vτ es hT wy;obtain⟨h1,hK⟩:=h;refine⟨_,_,_,hK,fun Γ w a s' _ c hc _ hr=>?_⟩;have hxr:=hr x (by rw[ho];simp[cu,ef]);rw[hx]at hxr;obtain⟨b,hι,_⟩:=SK hxr;exact q0D c ho (kt:=pr.1) (et:=pr.2) hT hxr (hc.getObj c (by rw[hι];simp) wy) h1};{exact h.elim}};{exact zi h}
   ·exact zi h
  ·exact zi h
 · -- a string of bytes
  rename_i src yr x ho;split at h;{rename_i ys hys;refine⟨_,_,_,h,fun Γ w a s' _ c hc _ hr=>?_⟩;have hxr:=hr x (by rw[ho];simp[cu]);obtain⟨Y',z5x,z5y⟩:=q7k hc c hxr hys;exact q0K hP c ho z5y z5x};{exact zi h}
 ·exact zi h
end
end
section
def C.isNil:C->Bool
 | .nil=>true|_=>false
def Kj:Operand->Bool
 | .const .nilIface=>true|_=>false
def JZ (P:Program) (src dst:TypeId) (x:V):Option (List C):=
 match ty P src,ty P dst with
 | .str,.slice eb e=>if e.Qi=true/\eb=1 then(match x with| .d .str c=>some (c.toStr.map fun b=>bt b.toNat)|_=>none)else none|_,_=>none
def Pe (P:Program) (T:TypeId):Bool:=
 match ty P T with
 | .iface| .opq _=>false|_=>true
def fop (X:Cx) (o:Oper) (ρ:Operand->V) (K:V->Prop):Prop:=
 match o.op with
 | .convert src dst x=>(match JZ X.P src dst (ρ x)with|some ys=>K (.d (.slice 1 (.int .u8)) (.slice ys))|none=>False)| .makeInterface T _=>Pe X.P T=true/\K (.d .iface (.bool true))| .binOp op T x y _=>Kj y=true/\ty X.P T= .iface/\(match op,ρ x with| .eql,.d .iface c=>K (.d .bool (.bool c.isNil))| .neq,.d .iface c=>K (.d .bool (.bool (!c.isNil)))|_,_=>False)|_=>False
def sl3 (X:Cx) (md:List (Nat × Nat)) (dst:Nat) (o:Oper) (ρ:Operand->V) (s:S) (K:V->S->Prop):Prop:=
 match o.op with
 | .slice T x lo hi mx=>CD md dst=4/\s.known dst=false/\hi.isSome=true/\mx.isSome=true/\(match ty X.P T with| .slice eb e=>(match(ρ x).Eh with|some (eb',e',cs)=>eb'=eb/\e'=e/\(match Cc (lo.map ρ) 0,Cc (hi.map ρ) 0,Cc (mx.map ρ) 0 with|some l,some h,some m=>l=0/\0<=h/\h=m/\m<=cs.length/\K (.sl eb e (cs.take h.toNat) dst) {s with tk:=(dst,some (cs.take h.toNat).length)::s.tk}|_,_,_=>False)|none=>False)|_=>False)| .convert src yr x=>CD md dst=9/\s.obj (.l dst)=none/\(match JZ X.P src yr (ρ x)with|some ys=>K (.sr (.l dst) [] 0 ys.length none 1 (.int .u8)) {s with loc:=(.l dst,.box (.d (.arr ys.length (.int .u8)) (.agg ys)))::s.loc}|none=>False)|_=>False
section
variable {X:Cx} {Γ:G} {w:World} {s:S}
theorem q8d {P:Program} {f:Nat} {T:TypeId} (h:tyF P (f+1) T= .iface):∃ms,P.underlying T=some (.interface ms):=by unfold tyF at h;split at h;{cases hu:P.underlying T with|none=>simp[hu]at h|some d=>cases d <;> simp[hu]at h ⊢};{cases h}
theorem q8c {P:Program} {T:TypeId} (h:Pe P T=true):∃d,P.underlying T=some d/\∀ms,d≠.interface ms:=by unfold Pe ty tyF at h;split at h;{cases h};{cases h};{rename_i h1 h2;split at h1;{cases hu:P.underlying T with|none=>simp[hu]at h2|some d=>exact⟨d,rfl,fun ms e=>by subst e;simp[hu]at h1⟩};{rename_i hn;simp[hn]at h2}}
theorem vG {c:C} {v:Value} (h:AE Γ (.d .iface c) v):(c= .nil/\v= .nilIface)\/(c= .bool true/\∃t u,v= .iface t u):=by obtain⟨h1,h2⟩:=DU.1 h;rw[Cy (by simpa[jb]using h2)]at h1;simp only[AH]at h1;rcases h1 with⟨rfl,h1⟩|⟨rfl,t,u,h1⟩;{simp at h1;exact .inl ⟨rfl,h1⟩};{simp at h1;exact .inr ⟨rfl,t,u,h1⟩}
theorem q6z {P:Program} {T:TypeId} {ms:Array (String × TypeId)} (hu:P.underlying T=some (.interface ms)) {v:Value} (hv:v= .nilIface\/∃t u,v= .iface t u) (w:World):
  (ka T v .nilIface).run P w= .ok (match v with| .nilIface=>true|_=>false) w:=by
 unfold ka Op.maxDepth;rw[show(10000:Nat)=9999+1 from rfl,Op.equalIn,dh,run_underlying hu];rcases hv with rfl|⟨t,u,rfl⟩ <;> rfl
theorem Vn {P:Program} {T:TypeId} {ms:Array (String × TypeId)} (hu:P.underlying T=some (.interface ms)) {x y:Operand} (hy:Kj y=true) {v:Value} (hv:v= .nilIface\/∃t u,v= .iface t u) (w:World):
  ((do eqGuard .eql T x y v .nilIface;binOp .eql T v .nilIface):Sem Value).run P w= .ok (.bool (match v with| .nilIface=>true|_=>false)) w/\
  ((do eqGuard .neq T x y v .nilIface;binOp .neq T v .nilIface):Sem Value).run P w= .ok (.bool (!(match v with| .nilIface=>true|_=>false))) w:=by
 obtain⟨z,rfl⟩:∃z,y= .const z:=by
  cases y with
  |const z=>exact⟨z,rfl⟩|_=>simp[Kj]at hy
 have he:=q6z hu hv w;rcases hv with rfl|⟨t,u,rfl⟩;{constructor;{rw[eqGuard_nil_constR];show(do pure (.bool (<-ka T .nilIface .nilIface)):Sem Value).run P w=_;rw[dh,he];rfl};{rw[eqGuard_nil_constR];show(do pure (.bool (!(<-ka T .nilIface .nilIface))):Sem Value).run P w=_;rw[dh,he];rfl}};{constructor;{show(do pure (.bool (<-ka T (.iface t u) .nilIface)):Sem Value).run P w=_;rw[dh,he];rfl};{show(do pure (.bool (!(<-ka T (.iface t u) .nilIface))):Sem Value).run P w=_;rw[dh,he];rfl}}
theorem q0B {P:Program} (hP:Al P=true) (c:AJ Γ w s) {o:Oper} {a:Act} {src dst:TypeId} {x:Operand} (ho:o.op= .convert src dst x) {Y:V} {ys:List C} (h:JZ P src dst Y=some ys)
  (hr:AE Γ Y (a.eval x)):Ar P o a w (BP Γ w s (.d (.slice 1 (.int .u8)) (.slice ys))):=by
 unfold JZ at h;split at h
 ·rename_i eb e hs ht;obtain⟨E,hu,hE,_,_⟩:=Hx hP ht;have hs':=KJ hs;split at h
  ·rename_i hc0;obtain⟨h0,rfl⟩:=hc0;obtain rfl:=Ty.UJ h0;have hEu:P.underlying E=some (.int .u8):=eG hE.symm;split at h
   ·rename_i cc;cases h;obtain⟨hv,_,hl⟩:=Hq hr;have run:=run_bytes_of_string (P:=P) w src dst E ⟨cc.toStr.toArray⟩ hs' hu hEu;have hsz:(⟨cc.toStr.toArray⟩:ByteArray).size=cc.toStr.length:=by simp[iy]
    rw[hsz]at run;have hge:=grownCap_ge w cc.toStr.length 0 E;have hcm:=grownCap_le_maxLen w cc.toStr.length 0 E (by unfold maxLen;omega);generalize grownCap w cc.toStr.length 0 E=cap at run hge hcm;have z31:(bytesRow ⟨cc.toStr.toArray⟩ cap).toList=cc.toStr.map (fun b=>kg .u8 b.toNat)++(db (cap-cc.toStr.length) (kg .u8 0)):=by simp[bytesRow,hsz]
    have yo:Ext w (w.drew.alloc (.cells (bytesRow ⟨cc.toStr.toArray⟩ cap) E ((bytesRow ⟨cc.toStr.toArray⟩ cap).size,(bytesRow ⟨cc.toStr.toArray⟩ cap).size+1))):=(vr w).trans (sj _ _);have xe:=heap_alloc_new w.drew (.cells (bytesRow ⟨cc.toStr.toArray⟩ cap) E ((bytesRow ⟨cc.toStr.toArray⟩ cap).size,(bytesRow ⟨cc.toStr.toArray⟩ cap).size+1));obtain⟨c1,p1,g1⟩:=c.Dz yo xe z31;refine Ar.val (v:=.slice (some ⟨w.heap.size,0,none⟩) cc.toStr.length cap) (w':=w.drew.alloc (.cells (bytesRow ⟨cc.toStr.toArray⟩ cap) E ((bytesRow ⟨cc.toStr.toArray⟩ cap).size,(bytesRow ⟨cc.toStr.toArray⟩ cap).size+1))) ?_ ⟨_,g1,p1,c1,?_⟩;{unfold execOp;simp only[ho,hv,dh,run,de,fb]}
    ·refine DU.2 ⟨Dv (by simp) hge hcm (by omega) (.inr ⟨w.heap.size,0,_,rfl,DD _ _ _,by simp[ig],fun i c' hi=>?_⟩),rfl⟩;simp only[dx]at hi;cases hb:cc.toStr[i]? with
     |none=>rw[hb]at hi;cases hi
     |some b=>
      rw[hb]at hi;cases hi;have:chunk (cc.toStr.map (fun b=>kg .u8 b.toNat)) (0+i*(cg df).size) (cg df).size=[.int .u8 b.toNat]:=by
       apply fg;intro j;rw[Dg];by_cases hj:j<1
       ·have:j=0:=by omega
        subst this;simp[ig,hb]
       ·simp[ig,hj]
      rw[this];simp only[AH];refine⟨_,rfl,rfl,?_,?_⟩
      ·have:IntKind.u8.min=0:=by decide
       omega
      ·have:IntKind.u8.max=255:=by decide
       have:=b.toNat_lt;omega
   ·cases h
  ·cases h
 ·cases h
theorem q0A {P:Program} (hP:Al P=true) (c:AJ Γ w s) {o:Oper} {a:Act} {src dst:TypeId} {x:Operand} {n:Nat} (ho:o.op= .convert src dst x) {Y:V} {ys:List C} (h:JZ P src dst Y=some ys)
  (hr:AE Γ Y (a.eval x)) (hn:s.obj (.l n)=none):Ar P o a w (BP Γ w {s with loc:=(.l n,.box (.d (.arr ys.length (.int .u8)) (.agg ys)))::s.loc} (.sr (.l n) [] 0 ys.length none 1 (.int .u8))):=by
 unfold JZ at h;split at h
 ·rename_i eb e hs ht;obtain⟨E,hu,hE,_,_⟩:=Hx hP ht;have hs':=KJ hs;split at h
  ·rename_i hc0;obtain⟨h0,rfl⟩:=hc0;obtain rfl:=Ty.UJ h0;have hEu:P.underlying E=some (.int .u8):=eG hE.symm;split at h
   ·rename_i cc;cases h;obtain⟨hv,_,hl⟩:=Hq hr;have run:=run_bytes_of_string (P:=P) w src dst E ⟨cc.toStr.toArray⟩ hs' hu hEu;have hsz:(⟨cc.toStr.toArray⟩:ByteArray).size=cc.toStr.length:=by simp[iy]
    rw[hsz]at run;have hge:=grownCap_ge w cc.toStr.length 0 E;have hcm:=grownCap_le_maxLen w cc.toStr.length 0 E (by unfold maxLen;omega);generalize grownCap w cc.toStr.length 0 E=cap at run hge hcm;have z31:(bytesRow ⟨cc.toStr.toArray⟩ cap).toList=cc.toStr.map (fun b=>kg .u8 b.toNat)++(db (cap-cc.toStr.length) (kg .u8 0)):=by simp[bytesRow,hsz]
    have hrs:(bytesRow ⟨cc.toStr.toArray⟩ cap).size=cap:=by rw[<-im,z31];simp;omega
    have yo:Ext w (w.drew.alloc (.cells (bytesRow ⟨cc.toStr.toArray⟩ cap) E ((bytesRow ⟨cc.toStr.toArray⟩ cap).size,(bytesRow ⟨cc.toStr.toArray⟩ cap).size+1))):=(vr w).trans (sj _ _);have xe:=heap_alloc_new w.drew (.cells (bytesRow ⟨cc.toStr.toArray⟩ cap) E ((bytesRow ⟨cc.toStr.toArray⟩ cap).size,(bytesRow ⟨cc.toStr.toArray⟩ cap).size+1));have hch:chunk (bytesRow ⟨cc.toStr.toArray⟩ cap).toList 0 cc.toStr.length=cc.toStr.map (fun b=>kg .u8 b.toNat):=by rw[z31];unfold chunk;rw[mb];exact qo (by simp)
    have hyl:(cc.toStr.map fun b=>bt b.toNat).length=cc.toStr.length:=by simp
    have xd:AA Γ none [] (.d (.arr (cc.toStr.map fun b=>bt b.toNat).length (.int .u8)) (.agg (cc.toStr.map fun b=>bt b.toNat))) (chunk (bytesRow ⟨cc.toStr.toArray⟩ cap).toList 0 (V.d (.arr (cc.toStr.map fun b=>bt b.toNat).length (.int .u8)) (.agg (cc.toStr.map fun b=>bt b.toNat))).ty.size):=by
     simp only[AA,oy,ig,qb,hyl,hch];have hel:∀i c',(cc.toStr.map fun b=>bt b.toNat)[i]? =some c'->AH Γ.H (.int .u8) (chunk (cc.toStr.map (fun b=>kg .u8 b.toNat)) (i*(cg df).size) (cg df).size) c':=by
      intro i c' hi;simp only[dx]at hi;cases hb:cc.toStr[i]? with
      |none=>rw[hb]at hi;cases hi
      |some b=>
       rw[hb]at hi;cases hi;have:chunk (cc.toStr.map (fun b=>kg .u8 b.toNat)) (i*(cg df).size) (cg df).size=[.int .u8 b.toNat]:=by
        apply fg;intro j;rw[Dg];by_cases hj:j<1
        ·have:j=0:=by omega
         subst this;simp[ig,hb]
        ·simp[ig,hj]
       rw[this];simp only[AH];refine⟨_,rfl,rfl,?_,?_⟩
       ·have:IntKind.u8.min=0:=by decide
        omega
       ·have:IntKind.u8.max=255:=by decide
        have:=b.toNat_lt;omega
     simp only[AH];exact⟨_,rfl,by simp,by rw[lf];show _=_*1;omega,fun v hv=>by obtain⟨b,_,rfl⟩:=lx.1 hv;rfl,hel⟩
    obtain⟨Γ',q1,q2,q3,q4⟩:=RW c hn (T:=E) yo xe (by simp only[oy,ig,hrs,hyl,qb];exact hge) xd rfl rfl (.inr (cn _));obtain⟨y1,y2,y3⟩:=q3.GJ xe;refine Ar.val (v:=.slice (some ⟨w.heap.size,0,none⟩) cc.toStr.length cap) (w':=w.drew.alloc (.cells (bytesRow ⟨cc.toStr.toArray⟩ cap) E ((bytesRow ⟨cc.toStr.toArray⟩ cap).size,(bytesRow ⟨cc.toStr.toArray⟩ cap).size+1))) ?_ ⟨_,q1.trans y3,q2.trans y2,y1,?_⟩;{unfold execOp;simp only[ho,hv,dh,run,de,fb]}
    ·obtain⟨b,τ0,o',r1,r2,r3⟩:=GD q4;simp at r3;obtain⟨rfl,rfl⟩:=r3;have z5z:(cc.toStr.map fun b=>bt b.toNat).length<=cap:=by rw[hyl];exact hge
     have:=SI (show(G.GJ Γ' _ _).ι (.l n)=_ from r1) r2 (lo:=0) (n:=(cc.toStr.map fun b=>bt b.toNat).length) (cap:=cap) (eb:=1) (cp:=none) (a:=some ⟨w.heap.size,0,none⟩) (by omega) (.inr (by simp)) z5z hcm (by rw[hyl];omega) (fun _ h=>by cases h) (fun _=>.inr ⟨(bytesRow ⟨cc.toStr.toArray⟩ cap).size,DD _ _ _,by rw[hrs];simp[ig]⟩);rw[<-hyl];exact this
   ·cases h
  ·cases h
 ·cases h
theorem YO (hP:Al X.P=true) {o:Oper} {ρ:Operand->V} {K:V->Prop} (h:fop X o ρ K):
  ∃v,K v/\∀(Γ:G) (w:World) (a:Act) (s:S),AJ Γ w s->(∀y∈o.op.operands,AE Γ (ρ y) (a.eval y))->Ar X.P o a w (BP Γ w s v):=by
 unfold fop at h;split at h;{rename_i src dst x ho;split at h;{rename_i ys hys;exact⟨_,h,fun Γ w a s c hr=>q0B hP c ho hys (hr x (by rw[ho];simp[cu]))⟩};{exact h.elim}}
 ·rename_i T x ho;obtain⟨h1,hK⟩:=h;obtain⟨d,hd,hni⟩:=q8c h1;refine⟨_,hK,fun Γ w a s c hr=>Ar.val (v:=.iface T (a.eval x)) (w':=w) ?_ (BP.same c (DU.2 ⟨?_,rfl⟩))⟩
  ·unfold execOp;simp only[ho,dh,Instr.makeInterface,run_underlying hd]
   cases d <;> first
    |exact absurd rfl (hni _)|simp[fb,Result.andThen]
  ·simp only[fc,AH];exact .inr ⟨trivial,_,_,rfl⟩
 ·rename_i op T x y yT ho;obtain⟨hy,hT,h⟩:=h;obtain⟨ms,hu⟩:=q8d (f:=11) hT;have hyv:∀a:Act,a.eval y= .nilIface:=fun a=>by
   cases y with
   |const z=>cases z <;> simp[Kj]at hy;rfl
   |_=>simp[Kj]at hy
  split at h;{rename_i cc hx;refine⟨_,h,fun Γ w a s c hr=>?_⟩;have hxr:=hr x (by rw[ho];simp[cu]);rw[hx]at hxr;rcases vG hxr with⟨rfl,hv⟩|⟨rfl,t,u,hv⟩;{refine Ar.val (v:=.bool true) (w':=w) ?_ (BP.same c (DH));unfold execOp;simp only[ho,hyv,hv];have:=(Vn (P:=X.P) hu (x:=x) hy (v:=.nilIface) (.inl rfl) w).1;simp only[dh]at this ⊢;rw[this];rfl};{refine Ar.val (v:=.bool false) (w':=w) ?_ (BP.same c (DH));unfold execOp;simp only[ho,hyv,hv];have:=(Vn (P:=X.P) hu (x:=x) hy (v:=.iface t u) (.inr ⟨_,_,rfl⟩) w).1;simp only[dh]at this ⊢;rw[this];rfl}};{rename_i cc hx;refine⟨_,h,fun Γ w a s c hr=>?_⟩;have hxr:=hr x (by rw[ho];simp[cu]);rw[hx]at hxr;rcases vG hxr with⟨rfl,hv⟩|⟨rfl,t,u,hv⟩;{refine Ar.val (v:=.bool false) (w':=w) ?_ (BP.same c (DH));unfold execOp;simp only[ho,hyv,hv];have:=(Vn (P:=X.P) hu (x:=x) hy (v:=.nilIface) (.inl rfl) w).2;simp only[dh]at this ⊢;rw[this];rfl};{refine Ar.val (v:=.bool true) (w':=w) ?_ (BP.same c (DH));unfold execOp;simp only[ho,hyv,hv];have:=(Vn (P:=X.P) hu (x:=x) hy (v:=.iface t u) (.inr ⟨_,_,rfl⟩) w).2;simp only[dh]at this ⊢;rw[this];rfl}};{exact h.elim}
 ·exact h.elim
theorem q6X (hP:Al X.P=true) {md:List (Nat × Nat)} {dst:Nat} {o:Oper} {ρa:Operand->V} {K:V->S->Prop} (h:sl3 X md dst o ρa s K):
  ∃v s1,K v s1/\s1.A=s.A/\s1.env=s.env/\∀(Γ:G) (w:World) (a:Act),AJ Γ w s->(∀y∈o.op.operands,AE Γ (ρa y) (a.eval y))->Ar X.P o a w (BP Γ w s1 v):=by
 unfold sl3 at h;split at h
 ·rename_i T x lo hi mx ho;obtain⟨_,hn,hhs,hms,h⟩:=h;split at h
  ·rename_i eb e ht;obtain⟨E,hu,rfl,_,hE⟩:=Hx hP ht;split at h
   ·rename_i eb' e' cs hx;obtain⟨rfl,rfl,h⟩:=h;split at h
    ·rename_i l hh m hl hhi hm;obtain⟨rfl,h0,rfl,h2,hK⟩:=h;refine⟨_,_,hK,rfl,rfl,fun Γ w a c hr=>?_⟩;rw[ho]at hr;have r1:=hr x (by simp[cu]);have r2:∀y,lo=some y->AE Γ (ρa y) (a.eval y):=fun y e=>hr y (by subst e;simp[cu]);have r3:∀y,hi=some y->AE Γ (ρa y) (a.eval y):=fun y e=>hr y (by subst e;simp[cu]);have r4:∀y,mx=some y->AE Γ (ρa y) (a.eval y):=fun y e=>hr y (by subst e;simp[cu]);obtain⟨ad,n,cap,hv,hcs,hnc,zy,hb,xd⟩:=KB r1 hx;have hhn:hh.toNat<=n:=by omega
     have b1:lo.map a.eval=none/\(0:Nat)=0\/∃k,lo.map a.eval=some (.int k ((0:Nat):Int)):=by rcases NJ hl r2 with⟨rfl,_⟩|⟨k,y,rfl,hy⟩;{exact .inl ⟨rfl,rfl⟩};{exact .inr ⟨k,hy⟩}
     have b2:∃k,hi.map a.eval=some (.int k (hh.toNat:Int)):=by rcases NJ hhi r3 with⟨rfl,_⟩|⟨k,y,rfl,hy⟩;{cases hhs};{exact⟨k,by rw[hy,gy h0]⟩}
     have b3:∃k,mx.map a.eval=some (.int k (hh.toNat:Int)):=by rcases NJ hm r4 with⟨rfl,_⟩|⟨k,y,rfl,hy⟩;{cases hms};{exact⟨k,by rw[hy,gy h0]⟩}
     obtain⟨km,b3⟩:=b3;obtain⟨c1,p1,g1⟩:=c.DX hn (x:=none) (L:=(cs.take hh.toNat).length) (fun _ _ _ h=>by cases h);have hlen:(cs.take hh.toNat).length=hh.toNat:=by simp;omega
     have hcut:=cA xd (ed hh.toNat) hhn;have z47:AH Γ.H (.slice eb' (tyF X.P 11 E)) [.slice (if hh.toNat=0 then ad else ad.map (·.add (0*(tyF X.P 11 E).size))) hh.toNat hh.toNat] (.slice (cs.take hh.toNat)):=by obtain⟨a',n',yz,e1,_,e2,e3,e4,e5,e6⟩:=Ic xd;simp at e1;obtain⟨rfl,rfl,rfl⟩:=e1;simp only[bq]at e2 e6;refine Dv hlen (cn _) (by omega) (Nat.le_trans (cr _ hhn) hb) ?_;by_cases hz:hh.toNat=0;{exact .inl hz};{rcases e6 with e6|⟨b,off,ll,rfl,hb',hs',hc⟩;{omega};{refine .inr ⟨b,off,ll,?_,hb',?_,fun i c' hi=>?_⟩;{rw[if_neg hz];simp[Addr.add]};{have:hh.toNat*(tyF X.P 11 E).size<=n*(tyF X.P 11 E).size:=cr _ hhn;omega};{rw[fh]at hi;split at hi;{exact hc _ _ hi};{cases hi}}}}
     refine Ar.val (v:=.slice (if hh.toNat=0 then ad else ad.map (·.add (0*(tyF X.P 11 E).size))) hh.toNat hh.toNat) (w':=w) ?_ ⟨_,g1,p1,c1,(Bx rfl rfl).2 ⟨?_,rfl⟩⟩;{unfold execOp;simp only[ho,hv,Instr.sliceAt,dh,run_underlying hu,de,Instr.slice,b3];rw[wH (n:=n) (l:=0) (h:=hh.toNat) (m:=hh.toNat) b1 b2 (ed _) (cn _) (by omega)];simp[Ie (f:=11) hP (w:=w) hE]};{simp only[AA];refine⟨_,hh.toNat,hh.toNat,rfl,z47.mono p1.1,none,_,by simp[G.DX,Bl],cn _,fun _=>rfl⟩}
    ·exact h.elim
   ·exact h.elim
  ·exact h.elim
 ·rename_i src yr x ho;obtain⟨_,hn,h⟩:=h;split at h;{rename_i ys hys;exact⟨_,_,h,rfl,rfl,fun Γ w a c hr=>q0A hP c ho hys (hr x (by rw[ho];simp[cu])) hn⟩};{exact h.elim}
 ·exact h.elim
end
end
section
def Kh {α:Type}:List (Key × α)->Key->Bool
 | [],_=>false|(j,_)::l,k=>decide (j=k)||Kh l k
def SM {α:Type}:List (Key × α)->Key->α->List (Key × α)
 | [],_,_=>[]|(j,x)::l,k,y=>if j=k then(j,y)::l else(j,x)::SM l k y
def Rz {α:Type} (l:List (Key × α)) (k:Key) (y:α):List (Key × α):=bif Kh l k then SM l k y else(k,y)::l
def Ki {α:Type}:List (Nat × α)->Nat->Bool
 | [],_=>false|(j,_)::l,k=>decide (j=k)||Ki l k
def Ky {α:Type}:List (Nat × α)->Nat->α->List (Nat × α)
 | [],_,_=>[]|(j,x)::l,k,y=>if j=k then(j,y)::l else(j,x)::Ky l k y
def MQ {α:Type} (l:List (Nat × α)) (k:Nat) (y:α):List (Nat × α):=bif Ki l k then Ky l k y else(k,y)::l
theorem pP {α:Type}:∀(l:List (Key × α)) (k:Key) (y:α) (j:Key),Kh l k=true->AK (SM l k y) j=if k=j then some y else AK l j
 | [],_,_,_,h=>by simp[Kh]at h
 |(i,x)::l,k,y,j,h=>by
  simp only[SM];by_cases e:i=k;{subst e;simp only[if_true,AK];by_cases e2:i=j <;> simp[e2]}
  ·rw[if_neg e];simp only[AK];have h':Kh l k=true:=by simpa[Kh,e]using h
   rw[pP l k y j h'];by_cases e2:i=j;{subst e2;simp[fun h:k=i=>e h.symm];intro h;exact absurd h.symm e};{simp[e2]}
theorem q3J {α:Type} (l:List (Key × α)) (k:Key) (y:α) (j:Key):AK (Rz l k y) j=if k=j then some y else AK l j:=by
 unfold Rz;cases h:Kh l k with
 |true=>exact pP l k y j h|false=>rfl
theorem pX {α:Type}:∀(l:List (Nat × α)) (k:Nat) (y:α) (j:Nat),Ki l k=true->look (Ky l k y) j=if k=j then some y else look l j
 | [],_,_,_,h=>by simp[Ki]at h
 |(i,x)::l,k,y,j,h=>by
  simp only[Ky];by_cases e:i=k;{subst e;simp only[if_true,look];by_cases e2:i=j <;> simp[e2]}
  ·rw[if_neg e];simp only[look];have h':Ki l k=true:=by simpa[Ki,e]using h
   rw[pX l k y j h'];by_cases e2:i=j;{subst e2;simp;intro h;exact absurd h.symm e};{simp[e2]}
theorem RB {α:Type} (l:List (Nat × α)) (k:Nat) (y:α) (j:Nat):look (MQ l k y) j=if k=j then some y else look l j:=by
 unfold MQ;cases h:Ki l k with
 |true=>exact pX l k y j h|false=>rfl
def S.put (s:S) (k:Key) (o:O):S:={s with loc:=Rz s.loc k o}
def S.tok (s:S) (t:Nat) (L:Option Nat):S:={s with tk:=MQ s.tk t L}
def EH:List (Nat × List Nat)->S->S
 | [],s=>s|(t,_)::σ,s=>EH σ (s.tok t none)
theorem Db (s:S) (k j:Key) (o:O):(s.put k o).obj j=if k=j then some o else s.obj j:=by simp only[S.put,jo,CR,q3J];by_cases h:k=j;{simp only[h,if_true]};{simp only[if_neg h]}
theorem ZQ (s:S) (t u:Nat) (L:Option Nat):(s.tok t L).live u=if t=u then L else s.live u:=by simp only[S.tok,S.live,Dt,RB];by_cases h:t=u;{subst h;simp only[if_true];cases L <;> rfl};{simp[h]}
theorem UO (s:S) (t u:Nat) (L:Option Nat):(s.tok t L).known u=(decide (t=u)||s.known u):=by simp only[S.tok,S.known,RB];by_cases h:t=u;{subst h;simp};{simp[h]}
theorem rT:∀(σ:List (Nat × List Nat)) (s:S) (k:Key),(EH σ s).obj k=s.obj k
 | [],_,_=>rfl|(t,_)::σ,s,k=>by simp only[EH,rT σ];rfl
theorem pJ:∀(σ:List (Nat × List Nat)) (s:S) (u:Nat),(EH σ s).live u=match look σ u with|some _=>none|none=>s.live u
 | [],_,_=>rfl|(t,p)::σ,s,u=>by simp only[EH,pJ σ,ZQ,look];by_cases h:t=u;{subst h;simp;cases look σ t <;> rfl};{simp[h]}
theorem Yq:∀(σ:List (Nat × List Nat)) (s:S) (u:Nat),s.known u=true->(EH σ s).known u=true
 | [],_,_,h=>h|(t,p)::σ,s,u,h=>by simp only[EH];exact Yq σ _ u (by rw[UO,h];simp)
theorem nV:∀(σ:List (Nat × List Nat)) (s:S) (u:Nat),look σ u≠none->(EH σ s).known u=true
 | [],_,_,h=>by simp[look]at h
 |(t,p)::σ,s,u,h=>by simp only[EH];by_cases e:t=u;{subst e;exact Yq σ _ t (by rw[UO];simp)};{exact nV σ _ u (by simpa[look,e]using h)}
def Fe (d:Nat):List (Key × O)->S->S
 | [],s=>s|(k,o)::L,s=>(Fe d L s).put (dn d k) (o.ren (dn d))
def GW (d:Nat):List (Nat × Option Nat)->S->S
 | [],s=>s|(m,x)::l,s=>(GW d l s).tok (rk d m) x
def Fs:List Nat->S->S
 | [],s=>s|t::l,s=>(Fs l s).tok t none
theorem rU (d:Nat):∀(L:List (Key × O)) (s:S) (k:Key),(Fe d L s).obj k=match AK (dnL d L) k with|some o=>some o|none=>s.obj k
 | [],_,_=>rfl|(j,o)::L,s,k=>by simp only[Fe,Db,dnL,AK,rU d L s k];split <;> rfl
theorem xZ (d:Nat):∀(L:List (Key × O)) (s:S),(Fe d L s).tk=s.tk
 | [],_=>rfl|(j,o)::L,s=>by simp only[Fe,S.put,xZ d L s]
theorem pV (d:Nat):∀(l:List (Nat × Option Nat)) (s:S) (t:Nat),look (GW d l s).tk t=match look (dnT d l) t with|some x=>some x|none=>look s.tk t
 | [],_,_=>rfl|(m,x)::l,s,t=>by simp only[GW,S.tok,RB,dnT,look,pV d l s t];split <;> rfl
theorem ZV (d:Nat):∀(l:List (Nat × Option Nat)) (s:S),(GW d l s).loc=s.loc/\(GW d l s).A=s.A
 | [],_=>⟨rfl,rfl⟩|(m,x)::l,s=>by simp only[GW,S.tok];exact ZV d l s
theorem pR:∀(l:List Nat) (s:S) (t:Nat),look (Fs l s).tk t=match look (Gc l) t with|some x=>some x|none=>look s.tk t
 | [],_,_=>rfl|m::l,s,t=>by simp only[Fs,S.tok,RB,Gc,look,pR l s t];split <;> rfl
theorem ZU:∀(l:List Nat) (s:S),(Fs l s).loc=s.loc/\(Fs l s).A=s.A
 | [],_=>⟨rfl,rfl⟩|m::l,s=>by simp only[Fs,S.tok];exact ZU l s
def S.ret (s:S) (tip:Bool) (ys:List V) (d:Nat) (v:V) (L:List (Key × O)):S:=GW d (v.tkR 2000) (Fs (Cm tip s ys) (Fe d L s))
theorem vO (s:S) (tip:Bool) (ys:List V) (d:Nat) (v:V) (L:List (Key × O)) (k:Key):(s.ret tip ys d v L).obj k=(s.back tip ys d v L).obj k:=by have h1:=ZV d (v.tkR 2000) (Fs (Cm tip s ys) (Fe d L s));have h2:=ZU (Cm tip s ys) (Fe d L s);have h3:=rU d L s k;unfold jo at h3 ⊢;simp only[S.ret,h1.1,h1.2,h2.1,h2.2,h3];unfold CR S.back;simp only[Kp];cases AK (dnL d L) k <;> rfl
theorem vP (s:S) (tip:Bool) (ys:List V) (d:Nat) (v:V) (L:List (Key × O)) (t:Nat):look (s.ret tip ys d v L).tk t=look (s.back tip ys d v L).tk t:=by simp only[S.ret,pV,pR,xZ,S.back,MI];cases look (dnT d (v.tkR 2000)) t <;> cases look (Gc (Cm tip s ys)) t <;> rfl
def gOk (s:S) (d:Nat):List (Key × O)->Prop
 | []=>True|(.g k,_)::L=>(s.obj k).isSome=true/\gOk s d L|(.l j,_)::L=>s.obj (.l (rk d j))=none/\gOk s d L
def tOk (s:S) (d:Nat):List (Nat × Option Nat)->Prop
 | []=>True|(m,_)::l=>s.known (rk d m)=false/\tOk s d l
theorem YX {s:S} {d:Nat}:∀{L:List (Key × O)} {k:Key} {o:O},gOk s d L->AK L (.g k)=some o->s.obj k≠none
 | [],_,_,_,h=>by simp[AK]at h
 |(.g j,o')::L,k,o,hg,h=>by simp only[AK]at h;split at h;{rename_i e;cases e;have:=hg.1;intro h';rw[h']at this;cases this};{exact YX hg.2 h}
 |(.l j,o')::L,k,o,hg,h=>by simp[AK]at h;exact YX hg.2 h
theorem YY {s:S} {d:Nat}:∀{L:List (Key × O)} {j:Nat} {o:O},gOk s d L->AK L (.l j)=some o->s.obj (.l (rk d j))=none
 | [],_,_,_,h=>by simp[AK]at h
 |(.l i,o')::L,j,o,hg,h=>by simp only[AK]at h;split at h;{rename_i e;cases e;exact hg.1};{exact YY hg.2 h}
 |(.g i,o')::L,j,o,hg,h=>by simp[AK]at h;exact YY hg.2 h
theorem xI {s:S} {d:Nat}:∀{l:List (Nat × Option Nat)} {m:Nat} {x:Option Nat},tOk s d l->look l m=some x->s.known (rk d m)=false
 | [],_,_,_,h=>by simp[look]at h
 |(i,y)::l,m,x,hg,h=>by simp only[look]at h;split at h;{rename_i e;subst e;exact hg.1};{exact xI hg.2 h}
def top (X:Cx) (md:List (Nat × Nat)) (dst:Nat) (o:Oper) (ρ:Operand->V) (s:S) (K:V->S->Prop):Prop:=
 match o.op with
 | .store T p y=>(match ρ p with
   | .ptr k q τ=>(match s.obj k with
     |some (.box x)=>τ=ty X.P T/\τ.known=true/\(CC τ (ρ y)).ty=τ/\(CC τ (ρ y)).plain=true/\x.at q≠.any/\x.ty.CG=true/\(CC τ (ρ y)).okH=true/\
       K .any (EH ((CC τ (ρ y)).sites s.live q) (s.put k (.box (x.setAt q ((CC τ (ρ y)).CA ((CC τ (ρ y)).sites s.live q) s.live q)))))
     |_=>False)
   |_=>False)
 | .box _ x=>(ρ x).plain=true/\(ρ x).okH=true/\s.obj (.l dst)=none/\
   K (.ptr (.l dst) [] (ρ x).ty) (EH ((ρ x).sites s.live []) (s.put (.l dst) (.box ((ρ x).CA ((ρ x).sites s.live []) s.live []))))
 | .load T x=>(match ρ x with| .ptr k q τ=>(match s.obj k with|some (.box y)=>(match y.at q with| .ts eb e cs=>CD md dst=1/\τ=ty X.P T/\τ= .slice eb e/\y.ty.CG=true/\s.known dst=false/\K (.sl eb e cs dst) ((s.put k (.box (y.setAt q (.d (.slice eb e) (.slice cs))))).tok dst (some cs.length))|_=>False)|_=>False)|_=>False)
 | .mapUpdate T x i y=>(match Gr X.P T,ρ x with
   |some (kt,et),.mp k=>(match s.obj k with
     |some (.map kτ vτ es)=>kτ=ty X.P kt/\vτ=ty X.P et/\CJ X.P kt=true/\kτ.flat=true/\(ρ i).DK kτ/\(CC vτ (ρ y).CB).ty=vτ/\(CC vτ (ρ y).CB).plain=true/\(CC vτ (ρ y).CB).BJ=true/\
       K .any (s.put k (.map kτ vτ (ER es (ρ i).toC (CC vτ (ρ y).CB))))
     |_=>False)
   |_,_=>False)
 | .call c=>(match c.callee with
   | .value fo=>(match ρ fo with
     | .fn f wq=>Iu X.P f=true/\c.argTypes.toList.length=c.args.toList.length/\GA (Cm (CD md dst==1) s (EJ (c.args.toList.map ρ) wq))=true/\
      ∃v L,Bu X f (Cs X.P (CD md dst==1) s (Ja c.argTypes.toList wq) (EJ (c.args.toList.map ρ) wq)) s.up v L/\gOk s dst L/\tOk s dst (v.tkR 2000)/\
       K ((v.DA 2000).ren (dn dst) (rk dst)) (s.ret (CD md dst==1) (EJ (c.args.toList.map ρ) wq) dst v L)
     |_=>False)
   | .builtin .append=>(match c.args.toList,c.argTypes.toList with
     | [x,y],[t,t']=>CE X.P (Af X.P t)=true/\(match ty X.P t,ρ x with
       | .slice eb e,.sl eb' e' cs tk=>eb'=eb/\e'=e/\s.live tk=some cs.length/\
         Hv X.P s t' eb e (ρ y) fun ys=>(cs.length+ys.length)*eb<=140737488355328/\cs.length+ys.length<=maxLen/\K (.sl eb e (cs++ys) tk) (s.tok tk (some (cs.length+ys.length)))
       | .slice eb e,.sr k [] 0 n none eb' e'=>(match s.obj k with
         |some (.box (.d (.arr M e2) cc))=>eb'=eb/\e'=e/\e2=e/\∃d,s.obj (.l d)=none/\
           Hv X.P s t' eb e (ρ y) fun ys=>(n+ys.length)*eb<=140737488355328/\n+ys.length<=maxLen/\
            K (.sr (.l d) [] 0 (n+ys.length) none eb e) ((s.put k (.dead (.arr M e))).put (.l d) (.box (.d (.arr (n+ys.length) e) (.agg (cc.elems.take n++ys)))))
         |_=>False)
       |_,_=>False)
     |_,_=>False)
   | .builtin .copy=>(match c.args.toList,c.argTypes.toList with
     | [x,y],[t,t']=>CE X.P (Af X.P t)=true/\(match ty X.P t,ρ x with
       | .slice eb e,.sr k q lo n (some _) eb' e'=>(match s.obj k with
         |some (.box Z)=>(match Z.at q with
          | .d (.arr m e2) cc=>eb'=eb/\e'=e/\e2=e/\Z.ty.CG=true/\0<n/\
            Hv X.P s t' eb e (ρ y) fun ys=>K (.d (.int .i64) (.int (min ys.length n:Nat))) (s.put k (.box (Z.setAt q (.d (.arr m e) (.agg (EZ cc.elems lo n ys))))))
          |_=>False)
         |_=>False)
       |_,_=>False)
     |_,_=>False)
   |_=>False)
 |_=>False
def fB (X:Cx) (o:Oper) (ρ:Operand->V) (s:S) (v:V) (s1:S):Prop:=
 s1.A=s.A/\s1.env=s.env/\∀(Γ:G) (w:World) (a:Act),Γ.gl=X.gl->AJ Γ w s->(∀y∈o.op.operands,AE Γ (ρ y) (a.eval y))->Ar X.P o a w (BP Γ w s1 v)
section
variable {X:Cx} {Γ:G} {w:World} {s:S}
theorem BP.congr {s1 s2:S} {x:V} {v:Value} {w':World} (h:BP Γ w s1 x v w') (h1:∀k,s2.obj k=s1.obj k) (h2:∀t,s2.live t=s1.live t) (h3:∀t,s1.known t=true->s2.known t=true):BP Γ w s2 x v w':=by obtain⟨Γ',a,b,c,d⟩:=h;exact⟨Γ',a,b,c.congr h1 h2 h3,d⟩
theorem QN:∀(σ:List (Nat × List Nat)) (s:S),(EH σ s).env=s.env/\(EH σ s).A=s.A
 | [],_=>⟨rfl,rfl⟩|(t,_)::σ,s=>by simp only[EH];exact QN σ _
theorem YA (d:Nat):∀(L:List (Key × O)) (s:S),(Fe d L s).env=s.env/\(Fe d L s).A=s.A
 | [],_=>⟨rfl,rfl⟩|_::L,s=>by simp only[Fe,S.put];exact YA d L s
theorem kY (d:Nat):∀(l:List (Nat × Option Nat)) (s:S),(GW d l s).env=s.env
 | [],_=>rfl|_::l,s=>by simp only[GW,S.tok];exact kY d l s
theorem kX:∀(l:List Nat) (s:S),(Fs l s).env=s.env
 | [],_=>rfl|_::l,s=>by simp only[Fs,S.tok];exact kX l s
theorem vN (tip:Bool) (ys:List V) (d:Nat) (v:V) (L:List (Key × O)):(s.ret tip ys d v L).env=s.env/\(s.ret tip ys d v L).A=s.A:=by unfold S.ret;exact⟨by rw[kY,kX,(YA d L s).1],by rw[(ZV _ _ _).2,(ZU _ _).2,(YA d L s).2]⟩
theorem pK {s s':S} (h:∀t,look s.tk t=look s'.tk t) (t:Nat):s.live t=s'.live t:=by unfold S.live Dt;rw[h]
theorem nW {s s':S} (h:∀t,look s.tk t=look s'.tk t) (t:Nat):s.known t=s'.known t:=by unfold S.known;rw[h]
theorem nT {σ:List (Nat × List Nat)} {k:Key} {o:O} {x:V} {v:Value} {w':World} (h:BP Γ w {s with loc:=(k,o)::s.loc,tk:=Jd σ++s.tk} x v w'):BP Γ w (EH σ (s.put k o)) x v w':=by refine h.congr (fun j=>?_) (fun t=>?_) (fun t ht=>?_);{rw[rT,Db];exact(Cz {s with tk:=Jd σ++s.tk} k j o).symm};{rw[pJ];unfold S.live Dt;simp only[Ug];cases look σ t <;> rfl};{unfold S.known at ht;simp only[Ug]at ht;cases hs:look σ t with|none=>rw[hs]at ht;exact Yq σ _ t ht|some p=>exact nV σ _ t (by rw[hs];simp)}
theorem WI (hP:Al X.P=true) {md:List (Nat × Nat)} {dst:Nat} {o:Oper} {ρ:Operand->V} {K:V->S->Prop} (h:top X md dst o ρ s K):∃v s1,K v s1/\fB X o ρ s v s1:=by
 unfold top at h;split at h;{rename_i T p y ho;split at h;{rename_i k q τ hp;split at h;{rename_i x wy;obtain⟨h1,h2,h3,h4,h5,h6,h7,hK⟩:=h;refine⟨_,_,hK,by rw[(QN _ _).2];rfl,by rw[(QN _ _).1];rfl,fun Γ w a _ c hr=>?_⟩;have hpr:=hr p (by rw[ho];simp[cu]);rw[hp]at hpr;have:=q0J (Y:=ρ y) hP c ho hpr (hr y (by rw[ho];simp[cu])) wy h1 h2 h3 h4 h5 h6 h7;exact this.mono fun v w' xp=>nT xp};{exact h.elim}};{exact h.elim}};{rename_i T x ho;obtain⟨h1,h2,h3,hK⟩:=h;refine⟨_,_,hK,by rw[(QN _ _).2];rfl,by rw[(QN _ _).1];rfl,fun Γ w a _ c hr=>?_⟩;exact(q0u c ho h3 (hr x (by rw[ho];simp[cu])) h1 h2).mono fun v w' xp=>nT xp}
 ·rename_i T x ho;split at h
  ·rename_i k q τ hx;split at h
   ·rename_i y wy;split at h
    ·rename_i eb e cs hat;obtain⟨_,h2,h3,h4,h5,hK⟩:=h;refine⟨_,_,hK,rfl,rfl,fun Γ w a _ c hr=>?_⟩;have hxr:=hr x (by rw[ho];simp[cu]);rw[hx]at hxr;obtain⟨b,τ0,o0,hι,hw,hv⟩:=GD hxr;obtain⟨u,r1,r2⟩:=ZS (T:=T) hP c hxr wy (by rw[hat];simp) h2 (by rw[h3];rfl);rw[hat]at r2;simp only[view]at r2;obtain⟨aa,n,cap,e1,_⟩:=KB (eb:=eb) (e:=e) (cs:=cs) r2 (by simp[V.Eh,bq]);subst e1;rw[h3]at hw;have xw:w.cell? ⟨b,o0,none⟩=some (.slice aa n cap):=by
      have r1':=r1;rw[hv]at r1';simp only[Instr.loadAt,Instr.sureAddr,dh,fb,de]at r1';obtain⟨b2,cells,E,e1,_,_,e4,e5,e6,e7,_⟩:=c.own hι wy;obtain⟨fr0,e4,xk⟩:=e4;rw[hι]at e1;cases e1;obtain⟨g1,g2,g3⟩:=e6.at_ hw (by rw[hat];simp) e7;have hcl:(chunk cells.toList 0 y.ty.size).length=y.ty.size:=EC _ _ _ (by simpa using e5);rw[hcl]at g2;simp only[ig]at g2
      obtain⟨u',q1,q2,q3⟩:=Vm (T:=T) (E:=E) (fr:=fr0) (off:=o0) hP (h2.symm.trans h3) rfl e4 (by simp only[ig];omega) (by
       have:=g3.one (by rw[hat];rfl);simp only[ig]at this ⊢
       rwa [EK _ _ _ _ _ (by omega),cf]at this)
      rw[r1']at q1;cases q1;simp only[fc,ig]at q2;have:(chunk cells.toList o0 1)[0]? =some (.slice aa n cap):=by rw[<-q2];rfl
      rw[Dg]at this;simp at this;simp[lj,e4,this]
     obtain⟨Γ',t1,t2,t3,t4⟩:=c.take (t:=dst) wy hat h4 h5 hι hw xw;refine Ar.val (v:=.slice aa n cap) (w':=w) (by unfold execOp;simp[ho,r1]) ⟨Γ',t1,t2,t3.congr (fun j=>?_) (fun t=>?_) (fun t ht=>?_),t4⟩;{refine(Db s k j _).trans ?_;exact(Cz {s with tk:=(dst,some cs.length)::s.tk} k j _).symm};{refine(ZQ _ dst t _).trans ?_;exact(MG {s with loc:=(k,.box (y.setAt q (.d (.slice eb e) (.slice cs))))::s.loc} dst t (some cs.length)).symm};{rw[UO];exact(MB {s with loc:=(k,.box (y.setAt q (.d (.slice eb e) (.slice cs))))::s.loc} dst t (some cs.length)).symm.trans ht}
    ·exact h.elim
   ·exact h.elim
  ·exact h.elim
 ·rename_i T x i y ho;split at h
  ·rename_i kt et k hT hx;split at h
   ·rename_i kτ vτ es wy;obtain⟨rfl,rfl,h1,h2,h3,h4,h5,h6,hK⟩:=h;refine⟨_,_,hK,rfl,rfl,fun Γ w a _ c hr=>?_⟩;have hxr:=hr x (by rw[ho];simp[cu]);rw[hx]at hxr;have hir:=hr i (by rw[ho];simp[cu]);have hd:ρ i= .d (ty X.P kt) (ρ i).toC:=by cases hi:ρ i <;> simp[hi,V.DK]at h3;subst h3;rfl
    rw[hd]at hir;exact(q0H hP c ho hT hxr hir (Wl (hr y (by rw[ho];simp[cu])).CB) wy h1 h2 h4 h5 h6).mono fun v w' xp=>xp.congr (fun j=>(Db s k j _).trans (Cz s k j _).symm) (fun _=>rfl) (fun _ h=>h)
   ·exact h.elim
  ·exact h.elim
 ·rename_i cl ho;obtain⟨callee,args,ts⟩:=cl;split at h
  ·rename_i fo hfo;simp only at hfo h;subst hfo;split at h
   ·rename_i f wq hf;obtain⟨h1,h2,h3,v,L,D,hg,ht,hK⟩:=h;refine⟨_,_,hK,(vN ..).2,(vN ..).1,fun Γ w a hgl c hr=>?_⟩;have hrf:=hr fo (by rw[ho];simp[cu,ef]);rw[hf]at hrf
    have:=jV (A:=s.up) (d:=dst) rfl hgl c ho h1 h2 hrf (fun y hy=>hr y (by rw[ho];simp only[cu,ef];exact jf _ (jz.1 hy))) h3 D (fun _ _ h=>h)
     (fun k o hk=>YX hg hk) (fun j o hj=>YY hg hj) (fun m x hm=>xI ht hm)
    exact this.mono fun v' w' xp=>xp.congr (fun k=>vO ..) (fun t=>pK (fun t=>vP ..) t) (fun t hk=>by rw[nW (fun t=>vP ..)];exact hk)
   ·exact h.elim
  ·rename_i hb;simp only at hb h;subst hb;split at h
   ·rename_i x y t t' xf hts;have ym:args=#[x,y]:=by cases args;simpa using xf
    have zc:ts=#[t,t']:=by cases ts;simpa using hts
    subst ym;subst zc;obtain⟨h1,h⟩:=h;split at h;{rename_i eb e eb' e' cs tk htt hx;obtain⟨rfl,rfl,hl,h⟩:=h;obtain⟨ys,⟨b1,b2,hK⟩,hs⟩:=SY hP h;refine⟨_,_,hK,rfl,rfl,fun Γ w a _ c hr=>?_⟩;have hyr:=hr y (by rw[ho];simp[cu,ef]);have hxr:=hr x (by rw[ho];simp[cu,ef]);rw[hx]at hxr;exact(q0q hP c ho htt h1 hl hxr hyr hs b1 b2).mono fun v w' xp=>xp.congr (fun _=>rfl) (fun u=>(ZQ s tk u _).trans (MG s tk u _).symm) (fun u hu=>by rw[UO];exact(MB s tk u _).symm.trans hu)};{rename_i eb e k n eb' e' htt hx;split at h;{rename_i M e2 cc wy;obtain⟨rfl,rfl,rfl,d,hd,h⟩:=h;obtain⟨ys,⟨b1,b2,hK⟩,hs⟩:=SY hP h;refine⟨_,_,hK,rfl,rfl,fun Γ w a _ c hr=>?_⟩;have hyr:=hr y (by rw[ho];simp[cu,ef]);have hxr:=hr x (by rw[ho];simp[cu,ef]);rw[hx]at hxr;exact(q0r hP c ho htt h1 hd wy hxr hyr hs b1 b2).mono fun v w' xp=>xp.congr (fun j=>by rw[Db,Db];rw[show jo {s with loc:=(Key.l d,O.box (.d (.arr (n+ys.length) _) (.agg (cc.elems.take n++ys))))::(k,O.dead _)::s.loc} j=jo {({s with loc:=(k,O.dead _)::s.loc}:S)with loc:=(Key.l d,_)::({s with loc:=(k,O.dead _)::s.loc}:S).loc} j from rfl,Cz,Cz]) (fun u=>rfl) (fun u hu=>hu)};{exact h.elim}};{exact h.elim}
   ·exact h.elim
  ·rename_i hb;simp only at hb h;subst hb;split at h
   ·rename_i x y t t' xf hts;have ym:args=#[x,y]:=by cases args;simpa using xf
    have zc:ts=#[t,t']:=by cases ts;simpa using hts
    subst ym;subst zc;obtain⟨h1,h⟩:=h;split at h;{rename_i eb e k q lo n cp eb' e' htt hx;split at h;{rename_i Z wy;split at h;{rename_i m e2 cc hZ;obtain⟨rfl,rfl,rfl,hd,h0,h⟩:=h;obtain⟨ys,hK,hs⟩:=SY hP h;refine⟨_,_,hK,rfl,rfl,fun Γ w a _ c hr=>?_⟩;have hyr:=hr y (by rw[ho];simp[cu,ef]);have hxr:=hr x (by rw[ho];simp[cu,ef]);rw[hx]at hxr;exact(q0C hP c ho htt wy hZ hd h0 h1 hxr hyr hs).mono fun v w' xp=>xp.congr (fun j=>by rw[Db,Cz]) (fun u=>rfl) (fun u hu=>hu)};{exact h.elim}};{exact h.elim}};{exact h.elim}
   ·exact h.elim
  ·exact h.elim
 ·exact h.elim
end
end
section
def At (X:Cx) (n:Nat) (Γ0:G) (s:S) (a:Act) (w:World):Prop:=
 ∃Γ,GLe Γ0 Γ/\Γ.gl=X.gl/\AJ Γ w s/\Fl Γ s a.tmps/\a.tmps.size=n/\a.defers=[]/\AOk s.A
def S.set (s:S) (d:Option Nat) (x:V):S:=
 match d with
 |some d=>{s with env:=MQ s.env d x}|none=>s
def FG (s:S):List (Key × O)->Prop
 | []=>True|(k,_)::l=>s.obj k=none/\FG s l
def FH (s:S):List (Nat × Option Nat)->Prop
 | []=>True|(t,_)::l=>s.known t=false/\FH s l
theorem UB {s:S} {lo:List (Key × O)} {tn:List (Nat × Option Nat)} (h:FG s lo) (h':FH s tn):Sq s lo tn:=by
 constructor
 ·induction lo with
  |nil=>intro k o hk;simp[AK]at hk|cons x lo ih=>
   intro k o hk;simp only[AK]at hk;split at hk;{rename_i e;rw[<-e];exact h.1};{exact ih h.2 k o hk}
 ·induction tn with
  |nil=>intro k o hk;simp[look]at hk|cons x tn ih=>
   intro k o hk;simp only[look]at hk;split at hk;{rename_i e;rw[<-e];exact h'.1};{exact ih h'.2 k o hk}
def qD (X:Cx) (dst:Nat) (o:Oper) (s:S) (K:V->S->Prop):Prop:=
  (iop X [] (Ds (Fy (o.op.operands.toList.map (Ae X.gl s))) s) dst o (fun y=>DE s (Ae X.gl s y)) (Ds (Fy (o.op.operands.toList.map (Ae X.gl s))) s)
   (fun v lo tn=>FG (Ds (Fy (o.op.operands.toList.map (Ae X.gl s))) s) lo/\FH (Ds (Fy (o.op.operands.toList.map (Ae X.gl s))) s) tn/\K v ((Ds (Fy (o.op.operands.toList.map (Ae X.gl s))) s).add lo tn))\/
  top X [] dst o (fun y=>DE s (Ae X.gl s y)) (Ds (Fy (o.op.operands.toList.map (Ae X.gl s))) s) K)
def lop (X:Cx) (md:List (Nat × Nat)) (dst:Nat) (o:Oper) (s:S) (K:V->S->Prop):Prop:=CD md dst=100/\qD X dst o s K
theorem qH:∀{xs:List V} {x:V} {j:Nat},x∈xs->j∈Fa x->j∈Fy xs
 |y::ys,x,j,hx,hj=>by simp only[Fy,ic];rcases ja.1 hx with rfl|hx;{exact .inl hj};{exact .inr (qH hx hj)}
theorem Qx:∀(js:List Nat) (s:S),(Ds js s).env=s.env/\(Ds js s).A=s.A
 | [],s=>⟨rfl,rfl⟩|j::l,s=>by simp only[Ds];have:=Qx l (match s.obj (.l j)with|some (.box (.d τ _))=>(match τ with| .arr M e=>{s with loc:=(.l j,.dead (.arr M e))::s.loc}|_=>s)|_=>s);refine⟨this.1.trans ?_,this.2.trans ?_⟩ <;> (split <;> (try rfl);split <;> rfl)
def sop (X:Cx) (md:List (Nat × Nat)) (dst:Nat) (o:Oper) (s:S) (K:V->S->Prop):Prop:=
 lop X md dst o s K\/(CD md dst≠1/\iop X md s dst o (Ae X.gl s) s (fun v lo tn=>FG s lo/\FH s tn/\K v (s.add lo tn)))\/top X md dst o (Ae X.gl s) s K\/(fop X o (Ae X.gl s) fun v=>K v s)\/sl3 X md dst o (Ae X.gl s) s K
def Fw (ops:Array Oper) (j:Nat):Option Nat:=(ops[j]?).bind (·.dst)
def AY (o:Oper):Nat:=o.dst.getD 0
def gk (b want:Bool) (p q:Prop):Prop:=(b=want->p)/\(b≠want->q)
theorem CN (p q:Prop):gk true true p q=p:=by simp[gk]
theorem CK (p q:Prop):gk false false p q=p:=by simp[gk]
theorem CM (p q:Prop):gk true false p q=q:=by simp[gk]
theorem CL (p q:Prop):gk false true p q=q:=by simp[gk]
def gv (ops:Array Oper) (s:S) (j:Nat):V:=match Fw ops j with|none=>.any|some t=>s.get t
def gx (x:V) (want:Bool) (p q:Prop):Prop:=match x with| .d .bool c=>gk c.toBool want p q| .tup []=>q|_=>False
def vc (X:Cx) (md:List (Nat × Nat)) (ops:Array Oper) (Φ:S->Prop):List Oper->S->Prop
 | [],s=>Φ s|o::rest,s=>match o.guard with|none=>sop X md (AY o) o s fun v s'=>vc X md ops Φ rest (s'.set o.dst v)|some (j,want)=>gx (gv ops s j) want (sop X md (AY o) o s fun v s'=>vc X md ops Φ rest (s'.set o.dst v)) (vc X md ops Φ rest (s.set o.dst (.tup [])))
theorem vH {Γ:G}:AE Γ (.tup []) undef:=⟨#[],rfl,by simp[BT]⟩
theorem Jl (s:S) (d:Option Nat) (v:V) (t:Nat):(s.set d v).get t=if d=some t then v else s.get t:=by
 cases d with
 |none=>simp[S.set]|some d=>
  simp only[S.set,S.get,RB];by_cases h:d=t;{simp[h]}
  ·have:¬(some d=some t):=by intro e;cases e;exact h rfl
   simp[h]
section
variable {X:Cx} {n:Nat} {Γ0:G}
theorem q67 {Γ:G} {s:S} {a:Act} {d:Option Nat} {x:V} {v:Value} (hs:Fl Γ s a.tmps) (hd:∀t,d=some t->t<a.tmps.size) (hx:AE Γ x v):
  Fl Γ (s.set d x) (a.put d v).tmps:=by
 intro i;rw[Jl];cases d with
 |none=>simpa[qx]using hs i|some t=>
  have:=hd t rfl;by_cases h:t=i;{subst h;simp only[qx,if_true];simp[this];exact hx}
  ·have h':¬(some t=some i):=by intro e;cases e;exact h rfl
   rw[if_neg h'];have:=hs i;simpa[qx,Array.getElem?_setIfInBounds_ne h]using this
theorem Pf {Γ:G} {w:World} {s:S} (c:AJ Γ w s) (d:Option Nat) (x:V):AJ Γ w (s.set d x):=by
 cases d with
 |none=>exact c|some t=>exact c.env _
theorem Tq {Γ:G} {w:World} {s s':S} {a:Act} (hgl:Γ.gl=X.gl) (c:AJ Γ w s') (hs:∀t,AE Γ (s.get t) (a.tmps.getD t undef)) {y:Operand} (hy:VK y=true):AE Γ (Ae X.gl s y) (a.eval y):=by
 cases y with
 |tmp t=>exact hs t|func f=>
  show AE Γ (.fn f []) (.func (.func f) #[] #[]);exact(Bt rfl).2 ⟨by simp[AA,BT,fc],by simp[oy,jb,Ba]⟩
 |global g=>
  simp only[Ae];cases hg:X.gl g with
  |none=>simp[AE]|some x=>
   obtain⟨τ,cc⟩:=x;obtain⟨l,h1,h2,h3⟩:=c.hgl g τ cc (by rw[hgl];exact hg);exact MS h1 (by simpa using h2) h3
 |const v=>
  simp only[Ae,Act.eval];unfold XW;simp only[VK]at hy;split;{simp[XV]at hy;exact DV hy.1 hy.2};{exact DH};{simp[XV]at hy;rename_i str;exact SJ (l:=str.data.toList) (by simpa using hy)};{exact(Bt rfl).2 ⟨by simp[AA,AH,fc],by simp[oy,jb,Ba]⟩};{exact(Bt rfl).2 ⟨by simp[AA,fc],by simp[oy,jb,Ba]⟩};{exact(Bt rfl).2 ⟨by simp[AA,AH,fc],by simp[oy,jb,Ba]⟩};{exact(Bt rfl).2 ⟨by simp[AA,AH,fc],by simp[oy,jb,Ba]⟩};{exact(Bt rfl).2 ⟨by simp[AA,AH,fc],by simp[oy,jb,Ba]⟩};{simp[AE]}
theorem LW {s:S} {a:Act} {w:World} {d:Option Nat} {x:V} (hd:match d with|some d=>decide (d<n)=true|none=>True) {Γ:G} (h1:GLe Γ0 Γ) (h3:Γ.gl=X.gl) (c:AJ Γ w s) (hs:Fl Γ s a.tmps) (hn:a.tmps.size=n) (hf:a.defers=[]/\AOk s.A) {v:Value} (hx:AE Γ x v):
  At X n Γ0 (s.set d x) (a.put d v) w:=by
 refine⟨Γ,h1,h3,Pf c d x,q67 hs (fun t ht=>?_) hx,?_,?_,?_⟩;{subst ht;simp at hd;omega};{cases d <;> simp[qx,hn]};{cases d <;> simp[qx,hf.1]};{cases d <;> exact hf.2}
theorem LG {Γ:G} {s s':S} {t:Array Value} (h:s'.env=s.env) (hs:Fl Γ s t):Fl Γ s' t:=fun i=>by have:=hs i;simp only[S.get]at this ⊢;rw[h];exact this
theorem q7b (hP:Al X.P=true) {md:List (Nat × Nat)} {o:Oper} {s:S} {K:V->S->Prop} (hok:Hl n o=true) (h:sop X md (AY o) o s K) {a:Act} {w:World} (hat:At X n Γ0 s a w):
  Ar X.P o a w fun u w'=>∃v s',K v s'/\At X n Γ0 (s'.set o.dst v) (a.put o.dst u) w':=by
 obtain⟨Γ,g1,g3,c,hs,hn,hf⟩:=hat;simp only[Hl,bz,Array.all_eq_true']at hok;have hd:match o.dst with|some d=>decide (d<n)=true|none=>True:=by
  cases ho:o.dst with
  |none=>trivial|some d=>have:=hok.2;rw[ho]at this;exact this
 have xn:∀y∈o.op.operands,AE Γ (Ae X.gl s y) (a.eval y):=fun y hy=>Tq g3 c hs (hok.1 y hy);rcases h with⟨_,h⟩|⟨_,h⟩|h|h|h
 ·obtain⟨Γ1,gl1,p1,c1,hcv⟩:=Uc (Fy (o.op.operands.toList.map (Ae X.gl s))) s c
  have z4B:∀y∈o.op.operands,AE Γ1 (DE s (Ae X.gl s y)) (a.eval y):=fun y hy=>
   hcv _ _ (xn y hy) fun j hj=>qH (List.mem_map_of_mem (by simpa using hy)) hj
  have xx:=Qx (Fy (o.op.operands.toList.map (Ae X.gl s))) s;have hs1:Fl Γ1 (Ds (Fy (o.op.operands.toList.map (Ae X.gl s))) s) a.tmps:=LG xx.1 (hs.Bd p1);have g31:Γ1.gl=X.gl:=gl1.gl.trans g3;rcases h with h|h;{obtain⟨v,lo,tn,⟨hf1,hf2,hK⟩,hI⟩:=Lx hP h;refine(hI Γ1 w a _ g31 c1 ⟨fun _ _ h _=>h,fun _ _ h=>h⟩ (UB hf1 hf2) z4B).mono ?_;rintro u w' ⟨Γ',gle,hp,c',hv⟩;exact⟨_,_,hK,LW hd ((g1.trans gl1).trans gle) (gle.gl.trans g31) c' (LG (s:=Ds (Fy (o.op.operands.toList.map (Ae X.gl s))) s) rfl (hs1.Bd hp)) hn ⟨hf.1,by show AOk (Ds _ s).A;rw[xx.2];exact hf.2⟩ hv⟩};{obtain⟨v,s1,hK,hsA,he,hT⟩:=WI hP h;refine(hT Γ1 w a g31 c1 z4B).mono ?_;rintro u w' ⟨Γ',gle,hp,c',hv⟩;exact⟨_,_,hK,LW hd ((g1.trans gl1).trans gle) (gle.gl.trans g31) c' (LG he (hs1.Bd hp)) hn ⟨hf.1,by rw[hsA,xx.2];exact hf.2⟩ hv⟩}
 ·obtain⟨v,lo,tn,⟨hf1,hf2,hK⟩,hI⟩:=Lx hP h;refine(hI Γ w a s g3 c ⟨fun _ _ h _=>h,fun _ _ h=>h⟩ (UB hf1 hf2) xn).mono ?_;rintro u w' ⟨Γ',gle,hp,c',hv⟩;exact⟨_,_,hK,LW hd (g1.trans gle) (gle.gl.trans g3) c' (LG rfl (hs.Bd hp)) hn hf hv⟩
 ·obtain⟨v,s1,hK,hsA,he,hT⟩:=WI hP h;refine(hT Γ w a g3 c xn).mono ?_;rintro u w' ⟨Γ',gle,hp,c',hv⟩;exact⟨_,_,hK,LW hd (g1.trans gle) (gle.gl.trans g3) c' (LG he (hs.Bd hp)) hn ⟨hf.1,by rw[hsA];exact hf.2⟩ hv⟩
 ·obtain⟨v,hK,hI⟩:=YO hP h;refine(hI Γ w a s c xn).mono ?_;rintro u w' ⟨Γ',gle,hp,c',hv⟩;exact⟨_,_,hK,LW hd (g1.trans gle) (gle.gl.trans g3) c' (LG rfl (hs.Bd hp)) hn hf hv⟩
 ·obtain⟨v,s1,hK,hsA,he,hT⟩:=q6X hP h;refine(hT Γ w a c xn).mono ?_;rintro u w' ⟨Γ',gle,hp,c',hv⟩;exact⟨_,_,hK,LW hd (g1.trans gle) (gle.gl.trans g3) c' (LG he (hs.Bd hp)) hn ⟨hf.1,by rw[hsA];exact hf.2⟩ hv⟩
end
def DC (X:Cx) (n:Nat) (c:Code) (s:S) (Ψ:Exit->S->Prop):Prop:=
 ∀(Γ0:G) (a:Act) (w:World),At X n Γ0 s a w->c.wp X.P (fun e a w=>∃s',Ψ e s'/\At X n Γ0 s' a w) a w
def Dd (X:Cx) (n:Nat) (s s':S):Prop:=∀(Γ0:G) (a:Act) (w:World),At X n Γ0 s a w->At X n Γ0 s' a w
section
variable {X:Cx} {n:Nat} {s:S} {Ψ:Exit->S->Prop}
theorem q17 {Γ:G} {ops:Array Oper} {a:Act} {o:Oper} {j t:Nat} {want b:Bool} (hg:o.guard=some (j,want)) (ht:Fw ops j=some t)
  (hs:AE Γ (.d .bool (.bool b)) (a.tmps.getD t undef)):ji o (yielded ops a.tmps)=(b==want):=by
 have e2:a.tmps.getD t undef= .bool b:=(FM hs).1;have z48:a.tmps[t]? =some (.bool b):=by
  rw[il]at e2;cases h:a.tmps[t]? with
  |none=>rw[h]at e2;simp[undef]at e2|some v=>rw[h]at e2;simp at e2;rw[e2]
 simp only[Fw]at ht;simp[ji,hg,yielded,ht,z48]
theorem mS {Γ:G} {ops:Array Oper} {a:Act} {o:Oper} {j t:Nat} {want:Bool} {c:C} (hg:o.guard=some (j,want)) (ht:Fw ops j=some t)
  (hs:AE Γ (.d .bool c) (a.tmps.getD t undef)):ji o (yielded ops a.tmps)=(c.toBool==want):=by
 obtain⟨_,e⟩:=FM hs;rw[e]at hs;exact q17 hg ht hs
theorem mT {Γ:G} {ops:Array Oper} {a:Act} {o:Oper} {j t:Nat} {want:Bool} (hg:o.guard=some (j,want)) (ht:Fw ops j=some t)
  (hs:AE Γ (.tup []) (a.tmps.getD t undef)):ji o (yielded ops a.tmps)=false:=by
 obtain⟨vs,e,_⟩:=hs;have hnb:∀b,a.tmps[t]?≠some (.bool b):=by intro b h;rw[il,h]at e;simp at e
 simp only[Fw]at ht;simp only[ji,hg,yielded,ht,Option.bind_some];rfl
theorem eI (hP:Al X.P=true) {Γ0:G} {md:List (Nat × Nat)} {ops:Array Oper} {Φ:S->Prop} {Q:Exit->Act->World->Prop} (hQ:∀s a w,Φ s->At X n Γ0 s a w->Q .normal a w):
  ∀(rest:List Oper) (s:S) (a:Act) (w:World),(∀o∈rest,Hl n o=true)->vc X md ops Φ rest s->At X n Γ0 s a w->wpList X.P ops Q rest a w
 | [],s,a,w,_,h,hat=>hQ s a w h hat|o::rest,s,a,w,hok,h,hat=>by
  have run:(sop X md (AY o) o s fun v s'=>vc X md ops Φ rest (s'.set o.dst v))->o.wp X.P a w (wpList X.P ops Q rest) Q:=by intro h;refine q7b hP (hok o (by simp)) h hat _ _ ?_;rintro u w' ⟨v,s',hv,zm⟩;exact eI hP hQ rest _ _ _ (fun o ho=>hok o (by simp[ho])) hv zm
  have skip:vc X md ops Φ rest (s.set o.dst (.tup []))->wpList X.P ops Q rest (a.put o.dst undef) w:=by
   intro h;obtain⟨Γ,g1,g3,c,hs,hn,hf⟩:=hat;have hd:match o.dst with|some d=>decide (d<n)=true|none=>True:=by
    have:=hok o (by simp);simp only[Hl,bz]at this;cases ho:o.dst with
    |none=>trivial|some d=>have:=this.2;rw[ho]at this;exact this
   exact eI hP hQ rest _ _ _ (fun o ho=>hok o (by simp[ho])) h (LW hd g1 g3 c hs hn hf vH)
  simp only[vc]at h;simp only[wpList];split at h
  ·rename_i hg;have:ji o (yielded ops a.tmps)=true:=by simp[ji,hg]
   rw[if_pos this];exact .inl (run h)
  ·rename_i j want hg;cases ht:Fw ops j with
   |none=>simp[gv,ht,gx]at h|some t=>
    simp only[gv,ht]at h;unfold gx at h;obtain⟨Γ,g1,g3,c,hs,hn,hf⟩:=id hat;have hst:=hs t;split at h;{rename_i cb hb;rw[hb]at hst;rw[mS hg ht hst];by_cases hbw:cb.toBool=want;{rw[if_pos (by simp[hbw])];exact .inl (run (h.1 hbw))};{rw[if_neg (by simp[hbw])];exact skip (h.2 hbw)}};{rename_i hb;rw[hb]at hst;rw[if_neg (by rw[mT hg ht hst];simp)];exact skip h};{exact h.elim}
theorem DC.mono {c:Code} {Ψ':Exit->S->Prop} (h:DC X n c s Ψ) (hq:∀e s,Ψ e s->Ψ' e s):DC X n c s Ψ':=
 fun Γ0 a w hat=>wp_mono (h Γ0 a w hat) fun e a w ⟨s',h1,h2⟩=>⟨s',hq _ _ h1,h2⟩
theorem DC.LM {c:Code} {s':S} (hw:Dd X n s s') (h:DC X n c s' Ψ):DC X n c s Ψ:=
 fun Γ0 a w hat=>h Γ0 a w (hw Γ0 a w hat)
theorem Dd.refl (s:S):Dd X n s s:=fun _ _ _ h=>h
theorem Dd.trans {s s' s'':S} (h:Dd X n s s') (h':Dd X n s' s''):Dd X n s s'':=fun Γ0 a w hat=>h' Γ0 a w (h Γ0 a w hat)
theorem Da (hP:Al X.P=true) (md:List (Nat × Nat)) {id:Nat} {l:List Oper} (hok:l.all (Hl n)=true) (h:vc X md l.toArray (fun s'=>Ψ .normal s') l s):DC X n (.region id l.toArray false) s Ψ:=by intro Γ0 a w hat;refine wp_region_lit (eI hP (fun s' a w hΨ hat=>⟨s',hΨ,hat⟩) l s a w (fun o ho=>List.all_eq_true.1 hok o ho) h hat)
theorem Ce {c c':Code} (h:DC X n c s fun e s'=>match e with| .normal=>DC X n c' s' Ψ|e=>Ψ e s'):DC X n (c.seq c') s Ψ:=by
 intro Γ0 a w hat;refine wp_seq (wp_mono (h Γ0 a w hat) ?_);rintro e a w ⟨s',h1,h2⟩;cases e with
 |normal=>exact h1 Γ0 a w h2|exit _|goto _|ret|panic _|outgrown=>exact⟨s',h1,h2⟩
theorem IK (h:Ψ .normal s):DC X n .skip s Ψ:=fun _ _ _ hat=>wp_skip ⟨s,h,hat⟩
theorem iZ {l:Nat} (h:Ψ .normal s):DC X n (.label l) s Ψ:=fun _ _ _ hat=>wp_label ⟨s,h,hat⟩
theorem Gb (h:Ψ .ret s):DC X n .ret s Ψ:=fun _ _ _ hat=>wp_ret ⟨s,h,hat⟩
theorem F2 {id:Nat} (h:Ψ (.exit id) s):DC X n (.exit id) s Ψ:=fun _ _ _ hat=>wp_exit ⟨s,h,hat⟩
theorem F3 {id:Nat} (h:Ψ (.goto id) s):DC X n (.goto id) s Ψ:=fun _ _ _ hat=>wp_goto ⟨s,h,hat⟩
theorem TZ {id:Nat} {c:Code} (h:DC X n c s fun e s'=>match e with| .exit id'=>if id'=id then Ψ .normal s' else Ψ (.exit id') s'|e=>Ψ e s'):DC X n (.block id c) s Ψ:=by
 intro Γ0 a w hat;refine wp_block (wp_mono (h Γ0 a w hat) ?_);rintro e a w ⟨s',h1,h2⟩;cases e with
 |exit id'=>
  simp only[Exit.inBlock]at h1 ⊢;split;{rename_i hid;rw[if_pos hid]at h1;exact⟨s',h1,h2⟩};{rename_i hid;rw[if_neg hid]at h1;exact⟨s',h1,h2⟩}
 |normal|goto _|ret|panic _|outgrown=>exact⟨s',h1,h2⟩
theorem az {Γ0:G} {a:Act} {w:World} {t:Nat} {b:Bool} (hat:At X n Γ0 s a w) (h:s.get t= .d .bool (.bool b)):a.eval (.tmp t)= .bool b:=by obtain⟨Γ,g1,g3,c,hs,hn,hf⟩:=hat;have:=hs t;rw[h]at this;exact(FM this).1
theorem NR {t:Nat} {c c':Code} (b:Bool) (hb:s.get t= .d .bool (.bool b)) (h1:b=true->DC X n c s Ψ) (h2:b=false->DC X n c' s Ψ):DC X n (.cond (.tmp t) c c') s Ψ:=by
 intro Γ0 a w hat;refine wp_cond (t:=b) (az hat hb) ?_;cases b with
 |true=>exact h1 rfl Γ0 a w hat|false=>exact h2 rfl Γ0 a w hat
theorem iY {t:Nat} {c c':Code} {v:C} (hv:s.get t= .d .bool v) (h1:v.toBool=true->DC X n c s Ψ) (h2:v.toBool=false->DC X n c' s Ψ):DC X n (.cond (.tmp t) c c') s Ψ:=by
 intro Γ0 a w hat;have he:a.eval (.tmp t)= .bool v.toBool:=by obtain⟨Γ,g1,g3,c,hs,hn,hf⟩:=hat;have:=hs t;rw[hv]at this;exact(FM this).1
 refine wp_cond (t:=v.toBool) he ?_;cases hb:v.toBool with
 |true=>exact h1 hb Γ0 a w hat|false=>exact h2 hb Γ0 a w hat
end
end
end Go.E
