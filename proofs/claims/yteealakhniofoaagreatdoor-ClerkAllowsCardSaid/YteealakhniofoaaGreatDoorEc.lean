/-
 A framework for runs of Go code over abstract data: what it needs, and that it is sound, part 3.
 Conditions: none.
-/
import Derived.Test.YteealakhniofoaaGreatDoorEb
import Derived.MapKept
import Derived.WideKeyRuns
import Derived.Laws.IdiomStrings
set_option linter.all false
noncomputable section
set_option maxRecDepth 100000
set_option maxHeartbeats 4000000
open And renaming imp->ub
open Array renaming getElem?_eq_getElem->dw,getElem?_eq_some_iff->mg,getElem?_push->pj
open Bool renaming and_eq_true->bg,false_eq_true->fq
open Go.Builtin renaming firstCells->fx,lenOf->vx,zeroCells->fm
open Go.Conv renaming bytesToString->vj
open Go.E.C renaming eqb->sc
open Go.E.Ext renaming alloc->uj
open Go.E.G renaming addKey->mz
open Go.E.Hp renaming le_refl->gy
open Go.E.S renaming live->xx,obj->jt
open Go.E.Ty renaming child->jq,isAgg->ja
open Go.E.V renaming get->xy,plain->rp,ty->qk
open Go.Instr renaming checkKey->jo,findAsking->qq,findKey->tg,findNow->qb,lookup->ud,mapUpdate->oa,sameBits->mc,sameNow->nm
open Go.MapKept renaming run_getObj_map->jb,run_setObj_map->sx
open Go.Result renaming andThen->sg,andThen_ok->cu
open Go.Sem renaming run_bind->cz,run_pure->ej
open Go.Value renaming cells->ek
open List renaming all_eq_true->dv,cons_append->ow,eq_nil_of_length_eq_zero->fl,ext_getElem?->fb,forIn_cons->wj,getD->bt,getElem?_append_left->ft,getElem?_append_right->gh,getElem?_cons_succ->fu,getElem?_eq_getElem->bo,getElem?_eq_none->gb,getElem?_eq_some_iff->cd,getElem?_map->db,map_cons->dt,mem_append->eh,mem_of_getElem?->fa,nil_append->jr,size_toArray->iq
open Nat renaming div_add_mod->xc,div_lt_iff_lt_mul->ux,eq_zero_or_pos->oy,le_refl->bx,mul_one->rh,sub_zero->rj,zero_add->bf,zero_le->dr,zero_mul->gq
open Option renaming bind_some->gm,getD_none->rm,getD_some->jg,map_some->gj
open Option.some renaming inj->oz
open Or renaming imp->wb
open Std.Legacy.Range renaming forIn_eq_forIn_range'->wq,size->wu
namespace Go.E
open Go
section
mutual
def V.sites (lv:Nat->Option Nat):List Nat->V->List (Nat × List Nat)
 |p,.sl _ _ cs t=>if lv t=some cs.length then[(t,p)]else[]|p,.agg _ vs=>V.TN lv p 0 vs|_,_=>[]
def V.TN (lv:Nat->Option Nat):List Nat->Nat->List V->List (Nat × List Nat)
 |_,_,[]=>[]|p,i,x::xs=>V.sites lv (p++[i]) x++V.TN lv p (i+1) xs
end
mutual
def V.Cf (σ:List (Nat × List Nat)) (lv:Nat->Option Nat):List Nat->V->V
 |p,.sl eb e cs t=>if look σ t=some p/\lv t=some cs.length then .ts eb e cs else .d (.slice eb e) (.slice cs)|p,.agg τ vs=>.agg τ (V.IG σ lv p 0 vs)|_,x=>x
def V.IG (σ:List (Nat × List Nat)) (lv:Nat->Option Nat):List Nat->Nat->List V->List V
 |_,_,[]=>[]|p,i,x::xs=>V.Cf σ lv (p++[i]) x::V.IG σ lv p (i+1) xs
end
theorem V.oW (σ:List (Nat × List Nat)) (lv:Nat->Option Nat):∀(p:List Nat) (i:Nat) (xs:List V),(V.IG σ lv p i xs).length=xs.length
 |_,_,[]=>rfl|p,i,x::xs=>by simp[V.IG,V.oW σ lv p (i+1) xs]
theorem V.Rk (σ:List (Nat × List Nat)) (lv:Nat->Option Nat) (p:List Nat) (x:V):(x.Cf σ lv p).ty=x.ty:=by cases x <;> simp only[V.Cf] <;> (try split) <;> simp[qk]
theorem V.oU (σ:List (Nat × List Nat)) (lv:Nat->Option Nat) (p:List Nat) (x:V):(x.Cf σ lv p).plain=x.plain:=by cases x <;> simp only[V.Cf] <;> (try split) <;> simp[rp]
mutual
def V.okH:V->Bool
 | .fn _ vs=>V.DB vs| .agg _ vs=>V.SU vs| .tup _=>false|_=>true
def V.SU:List V->Bool
 | []=>true|x::xs=>x.okH&&V.SU xs
end
mutual
theorem V.ZV (σ:List (Nat × List Nat)) (lv:Nat->Option Nat):∀(x:V) (p:List Nat),x.okH=true->(x.Cf σ lv p).BW=true
 | .sl eb e cs t,p,_=>by simp only[V.Cf];split <;> rfl
 | .agg τ vs,p,h=>by simp only[V.Cf,V.BW];exact V.oX σ lv vs p 0 (by simpa[V.okH]using h)
 | .fn f vs,p,h=>by simpa[V.Cf,V.BW,V.okH]using h
 | .tup _,p,h=>by simp[V.okH]at h
 | .d _ _,_,_| .ts _ _ _,_,_| .emp _ _,_,_| .ye,_,_| .ptr _ _ _,_,_| .yf _ _,_,_| .sr _ _ _ _ _ _ _,_,_| .mp _,_,_| .top _,_,_| .any,_,_=>by simp[V.Cf,V.BW]
theorem V.oX (σ:List (Nat × List Nat)) (lv:Nat->Option Nat):∀(xs:List V) (p:List Nat) (i:Nat),V.SU xs=true->V.DB (V.IG σ lv p i xs)=true
 | [],_,_,_=>rfl|x::xs,p,i,h=>by simp only[V.SU,bg]at h;simp only[V.IG,V.DB,bg];exact⟨V.ZV σ lv x _ h.1,V.oX σ lv xs _ _ h.2⟩
end
def G.home (Γ:G) (k:Key) (σ:List (Nat × List Nat)):G:=
 {Γ with κ:=fun b=>match Γ.κ b with
   |some (.tok t,sz)=>match look σ t with|some p=>some (.home k p,sz)|none=>some (.tok t,sz)
   |x=>x}
def Jy (σ:List (Nat × List Nat)):List (Nat × Option Nat):=σ.map fun x=>(x.1,none)
theorem VY (σ:List (Nat × List Nat)) (tk:List (Nat × Option Nat)) (t:Nat):look (Jy σ++tk) t=match look σ t with|some _=>some none|none=>look tk t:=by
 induction σ with
 |nil=>rfl|cons x σ ih=>
  obtain⟨u,p⟩:=x;simp only[Jy,dt,ow,look]at ih ⊢;split;{rfl};{exact ih}
section
variable {P:Program} {Γ:G} {w w':World} {s:S}
theorem Bg.home (Γ:G) (k:Key) (σ:List (Nat × List Nat)):Bg Γ (Γ.home k σ):=⟨gy _,fun _ _ h=>h,fun t x L h=>⟨x,L,h,bx _,fun _=>rfl⟩,fun _ _ h=>h⟩
mutual
theorem AA.Cf (c:AY Γ w s) (k:Key) (σ:List (Nat × List Nat)):∀(x:V) {p:List Nat} {vs:List Value},AA Γ none p x vs->AA (Γ.home k σ) (some k) p (x.Cf σ s.live p) vs
 | .sl eb e cs t,p,vs,h=>by
  simp only[AA]at h;obtain⟨a,n,cap,rfl,h2,x,L,h3,h4,h5⟩:=h;simp only[V.Cf];split
  ·rename_i hc;obtain⟨hσ,hl⟩:=hc;obtain⟨x',h6,h7⟩:=c.tok t _ hl;rw[h3]at h6;cases h6;have h5:=h5 rfl;simp only[AA];refine⟨a,n,cap,k,rfl,rfl,h2,?_⟩;cases x with
   |none=>exact .inl h5|some y=>
    obtain⟨b,pos,sz⟩:=y;simp only at h5;obtain⟨⟨l,a1,a2⟩,a3⟩:=h7 b pos sz rfl;exact .inr ⟨b,l,sz,h5.1,a1,by rw[a2];exact h5.2.1,by simp[G.home,a3,hσ],h5.2.2⟩
  ·simp only[AA];exact h2
 | .agg τ xs,p,vs,h=>by simp only[AA]at h;simp only[V.Cf,AA];exact⟨h.1,h.2.1,by rw[V.oW];exact h.2.2.1,h.2.2.2.1,Ag.Cf c k σ xs h.2.2.2.2⟩
 | .ts _ _ _,_,_,h=>by simp only[AA]at h;obtain⟨_,_,_,_,h0,_⟩:=h;cases h0
 | .tup _,_,_,h=>by simp only[AA]at h
 | .d τ cc,_,_,h=>by simp only[V.Cf];exact(AA.Bn (Bg.home Γ k σ) (hm:=none) trivial _ h).EZ
 | .emp _ _,_,_,h=>by simp only[V.Cf];exact(AA.Bn (Bg.home Γ k σ) (hm:=none) trivial _ h).EZ
 | .ye,_,_,h=>by simp only[V.Cf];exact(AA.Bn (Bg.home Γ k σ) (hm:=none) trivial _ h).EZ
 | .ptr _ _ _,_,_,h=>by simp only[V.Cf];exact(AA.Bn (Bg.home Γ k σ) (hm:=none) trivial _ h).EZ
 | .yf _ _,_,_,h=>by simp only[V.Cf];exact(AA.Bn (Bg.home Γ k σ) (hm:=none) trivial _ h).EZ
 | .sr _ _ _ _ _ _ _,_,_,h=>by simp only[V.Cf];exact(AA.Bn (Bg.home Γ k σ) (hm:=none) trivial _ h).EZ
 | .mp _,_,_,h=>by simp only[V.Cf];exact(AA.Bn (Bg.home Γ k σ) (hm:=none) trivial _ h).EZ
 | .fn _ _,_,_,h=>by simp only[V.Cf];exact(AA.Bn (Bg.home Γ k σ) (hm:=none) trivial _ h).EZ
 | .top _,_,_,h=>by simp only[V.Cf];exact(AA.Bn (Bg.home Γ k σ) (hm:=none) trivial _ h).EZ
 | .any,_,_,_=>by simp only[V.Cf,AA]
theorem Ag.Cf (c:AY Γ w s) (k:Key) (σ:List (Nat × List Nat)):∀(xs:List V) {p:List Nat} {i:Nat} {τ:Ty} {vs:List Value},Ag Γ none p i τ xs vs->Ag (Γ.home k σ) (some k) p i τ (V.IG σ s.live p i xs) vs
 | [],_,_,_,_,_=>by simp only[V.IG,Ag]
 |x::xs,_,_,_,_,h=>by simp only[Ag]at h;simp only[V.IG,Ag,V.Rk];obtain⟨⟨o,f,h1,h2,h3,h4⟩,h5⟩:=h;exact⟨⟨o,f,h1,h2,h3,AA.Cf c k σ x h4⟩,Ag.Cf c k σ xs h5⟩
end
theorem AY.home (c:AY Γ w s) (k:Key) (σ:List (Nat × List Nat)):AY (Γ.home k σ) w {s with tk:=Jy σ++s.tk}/\GLe Γ (Γ.home k σ):=by
 refine⟨?_,⟨gy _,rfl,fun _ _=>rfl,fun _ _ h=>h,rfl,rfl,fun _ _ h=>h,fun _ h=>h⟩⟩;have z8i:∀t L,xx {s with tk:=Jy σ++s.tk} t=some L->look σ t=none/\s.live t=some L:=by
  intro t L h;unfold xx Ed at h;simp only[VY]at h;cases hs:look σ t with
  |some p=>simp[hs]at h|none=>rw[hs]at h;exact⟨rfl,h⟩
 refine c.change (Bg.home Γ k σ) rfl rfl rfl rfl c.hH (fun _ _=>rfl) (fun b o sz h=>?_) (fun j o h=>?_) (fun _ h _=>h) c.dom c.hσ c.inj (fun t L h=>?_) (fun t h=>?_) (bx _)
 ·simp only[G.home]at h;cases hk:Γ.κ b with
  |none=>simp[hk]at h|some y=>
   obtain⟨o',sz'⟩:=y;have:sz'=sz:=by
    cases o' with
    |home=>simp[hk]at h;exact h.2|tok t=>simp only[hk]at h;split at h <;> simp at h <;> exact h.2
   subst this;obtain⟨a1,a2,arr,T,a3,a4,a5⟩:=c.hκ b o' sz' hk;refine⟨a1,a2,arr,T,a3,a4,?_⟩;cases o' with
   |home=>simp[hk]at h;rw[<-h];exact a5|tok t=>simp only[hk]at h;split at h <;> simp at h <;> rw[<-h] <;> trivial
 ·refine .inl ⟨h,fun hd=>⟨fun b p sz hb=>⟨by simp[G.home,hb],rfl⟩,fun b τ hb=>?_⟩⟩;obtain⟨a1,_⟩:=c.FR hb h hd;exact⟨rfl,a1⟩
 ·obtain⟨h1,h2⟩:=z8i t L h;obtain⟨x,h3,h4⟩:=c.tok t L h2;refine⟨x,h3,fun b pos sz hx=>?_⟩;obtain⟨a1,a2⟩:=h4 b pos sz hx;exact⟨a1,by simp[G.home,a2,h1]⟩
 ·have:=c.yu t h;unfold S.known at this ⊢;rw[VY];split;{rfl};{exact this}
theorem q5i (c:AY Γ w s) {n:Nat} (hn:s.obj (.l n)=none) {x:V} {cells:Array Value} {T:TypeId} (he:Ext w w') (hw:w'.heap[w.heap.size]? =some (.cells cells T (0,0))) (hsz:x.ty.size<=cells.size)
  (hx:AA Γ none [] x (chunk cells.toList 0 x.ty.size)) (hp:x.plain=true) (hok:x.okH=true):
  BX Γ w {s with loc:=(.l n,.box (x.Cf (x.sites s.live []) s.live []))::s.loc,tk:=Jy (x.sites s.live [])++s.tk} (.ptr (.l n) [] x.ty) (.pointer (some ⟨w.heap.size,0,none⟩)) w':=by
 obtain⟨c0,g0⟩:=c.home (.l n) (x.sites s.live []);have p0:=Bg.home Γ (.l n) (x.sites s.live []);have hx':=hx.Cf c (.l n) (x.sites s.live [])
 obtain⟨h1,h2,h3⟩:=c0.addKey (k:=.l n) hn he (τ:=x.ty) (o:=.box (x.Cf (x.sites s.live []) s.live [])) fun Γ' hpr hkh hι hH hZ=>
  ⟨_,cells,T,by rw[V.Rk];exact hι,hH,hZ,⟨(0,0),hw,.inl (bx _)⟩,by rw[V.Rk];exact hsz,by rw[V.Rk];exact hx'.Bn hpr hkh,by rw[V.oU];exact hp,V.ZV _ _ _ _ hok⟩
 exact⟨_,g0.trans h3,p0.trans h2,h1,QK (τ0:=x.ty) (by simp[mz,EW]) rfl⟩
theorem q0N (c:AY Γ w s) {o:Oper} {a:Act} {T:TypeId} {x:Operand} {n:Nat} {y:V} (ho:o.op= .box T x) (hn:s.obj (.l n)=none) (hr:AK Γ y (a.eval x)) (hpl:y.plain=true) (hok:y.okH=true):
  BU P o a w (BX Γ w {s with loc:=(.l n,.box (y.Cf (y.sites s.live []) s.live []))::s.loc,tk:=Jy (y.sites s.live [])++s.tk} (.ptr (.l n) [] y.ty)):=by
 obtain⟨h1,_⟩:=(Ca hpl).1 hr;have hlen:=h1.length hpl;have hb:=q5i c hn (T:=T) (x:=y) (cells:=(a.eval x).cells) (uj w _) (heap_alloc_new w (.cells (a.eval x).cells T)) (by rw[<-hlen];simp) (by rw[<-hlen,MW];exact h1) hpl hok;refine BU.val (v:=.pointer (some ⟨w.heap.size,0,none⟩)) (w':=w.alloc (.cells (a.eval x).cells T)) ?_ hb;unfold execOp;simp only[ho,Instr.box];simp[newVar,newRow]
theorem bL:∀{xs:List V} {i:Nat} {y:V},V.DB xs=true->y.BW=true->V.DB (xs.set i y)=true
 | [],_,_,_,_=>rfl|x::xs,0,y,h,hy=>by simp[V.DB]at h ⊢;exact⟨hy,h.2⟩
 |x::xs,i+1,y,h,hy=>by simp[V.DB]at h ⊢;exact⟨h.1,bL h.2 hy⟩
theorem sU (c:C):∀(j:Nat) (fs:List Ty),V.DB (Hg c j fs)=true
 |_,[]=>rfl|j,f::fs=>by simp[Hg,V.DB,V.BW,sU c (j+1) fs]
theorem V.q5l:∀(x:V) (i:Nat) (y:V),x.BW=true->y.BW=true->(x.set i y).BW=true
 | .d τ c,i,y,_,hy=>by cases y <;> simp only[V.set] <;> first|rfl|(simp only[V.BW];exact bL (sU _ _ _) hy)
 | .agg τ vs,i,y,hx,hy=>by simp only[V.set,V.BW];exact bL (by simpa[V.BW]using hx) hy
 | .sl _ _ _ _,_,_,h,_=>by simp[V.BW]at h
 | .ts _ _ _,_,_,_,_| .emp _ _,_,_,_,_| .ye,_,_,_,_| .ptr _ _ _,_,_,_,_| .yf _ _,_,_,_,_| .sr _ _ _ _ _ _ _,_,_,_,_| .mp _,_,_,_,_| .fn _ _,_,_,_,_| .tup _,_,_,_,_| .top _,_,_,_,_| .any,_,_,_,_=>by simp[V.set,V.BW]
theorem sV:∀{xs:List V} {i:Nat} {x:V},V.DB xs=true->xs[i]? =some x->x.BW=true
 | [],_,_,_,h=>by simp at h
 |y::ys,0,x,h,hx=>by simp[V.DB]at h;simp at hx;subst hx;exact h.1
 |y::ys,i+1,x,h,hx=>by simp[V.DB]at h;exact sV h.2 (by simpa using hx)
theorem V.q5k {x:V} (h:x.BW=true) (i:Nat):(x.get i).BW=true:=by
 cases x <;> simp only[xy] <;> (try rfl)
 case agg τ vs=>
  cases hi:vs[i]? with
  |none=>simp[bt,hi,V.BW]|some y=>simp[bt,hi];exact sV (by simpa[V.BW]using h) hi
theorem V.Vt:∀(q:List Nat) (x y:V),x.BW=true->y.BW=true->(x.setAt q y).BW=true
 | [],_,_,_,hy=>hy|i::q,x,y,hx,hy=>by simp only[V.setAt];exact V.q5l x i _ hx (V.Vt q _ y (V.q5k hx i) hy)
theorem AY.BW (c:AY Γ w s) {k:Key} {x:V} {y:Nat × Ty} (hι:Γ.ι k=some y) (h:s.obj k=some (.box x)):x.BW=true:=by obtain⟨_,_,_,_,_,_,_,_,_,_,h⟩:=c.own hι h;exact h
theorem q03 (hP:BS P=true) (c:AY Γ w s) {o:Oper} {a:Act} {T:TypeId} {p y:Operand} {k:Key} {q:List Nat} {τ:Ty} {x Y:V}
  (ho:o.op= .store T p y) (hr:AK Γ (.ptr k q τ) (a.eval p)) (hy:AK Γ Y (a.eval y)) (yi:s.obj k=some (.box x))
  (ht:τ=ty P T) (hk:τ.known=true) (hY:(Cj τ Y).ty=τ) (hYp:(Cj τ Y).plain=true) (hne:x.at q≠.any) (hd:x.ty.CP=true) (hok:(Cj τ Y).okH=true):
  BU P o a w (BX Γ w {s with loc:=(k,.box (x.setAt q ((Cj τ Y).Cf ((Cj τ Y).sites s.live q) s.live q)))::s.loc,tk:=Jy ((Cj τ Y).sites s.live q)++s.tk} .any):=by
 obtain⟨c0,g0⟩:=c.home k ((Cj τ Y).sites s.live q);have p0:=Bg.home Γ k ((Cj τ Y).sites s.live q);obtain⟨b,τ0,off,h1,h2,hpv⟩:=HF (hr.Bn p0);obtain⟨b2,cells,E,e1,e2,e3,e4,e5,e6,e7,e8⟩:=c0.own h1 yi;obtain⟨fr0,e4,zb⟩:=e4;rw[h1]at e1;cases e1;obtain⟨g1,g2,_⟩:=e6.at_ h2 hne e7;have hcl:(chunk cells.toList 0 x.ty.size).length=x.ty.size:=Ek _ _ _ (by simpa using e5);rw[hcl]at g2;have hy':=Xq (τ:=τ) hy;obtain⟨q1,q2⟩:=(Ca hYp).1 hy';have hlen:=q1.length hYp;rw[hY]at hlen;have q3:=(q1.EZ (hm:=none) (p':=q)).Cf c k ((Cj τ Y).sites s.live q);obtain⟨r1,r2,r3⟩:=AA.setAt (q:=q) (p:=[]) (y:=(Cj τ Y).Cf ((Cj τ Y).sites s.live q) s.live q) e6 e7 hd (by rw[V.Rk,hY];exact h2) hne q3 (by rw[V.oU];exact hYp);have zc:=q8B (w:=w) (T:=T) (τ:=τ) (v:=a.eval y) (off:=off) hP ht.symm hk e4 zb (by omega) hlen (q1.one hYp);have hlc:off+(a.eval y).cells.toList.length<=cells.toList.length:=by rw[hlen];simp;omega
 have hs2:(Bx cells.toList off (a.eval y).cells.toList).toArray.size=cells.size:=by simp only[iq,Ia hlc];simp
 have c':=c0.write (x':=x.setAt q ((Cj τ Y).Cf ((Cj τ Y).sites s.live q) s.live q)) (ym:=(Bx cells.toList off (a.eval y).cells.toList).toArray) (w':=w.setRow b (Bx cells.toList off (a.eval y).cells.toList).toArray) yi h1
  (setRow_heap w b cells _ E fr0 e4) (by rw[hs2];exact zb) (fun b' hb'=>setRow_other w b b' _ hb') rfl (by rw[r2,hs2];exact e5)
  (by rw[r2,List.toList_toArray,yR _ _ (by rw[hlen];exact g2) (by simpa using e5)];exact r1) r2 r3 (V.Vt q x _ (c0.BW h1 yi) (V.ZV _ _ _ _ hok)) (fun arr T fr h=>by rw[e4]at h;cases h;exact hs2)
 refine BU.skip (w':=w.setRow b (Bx cells.toList off (a.eval y).cells.toList).toArray) ?_ ⟨_,g0,p0,c',by simp[AK]⟩;unfold execOp;simp[ho,Instr.storeAt,hpv,Instr.sureAddr,zc]
def V.Lj:V->Bool
 | .ts _ _ _=>false|_=>true
mutual
theorem AA.Sb {Γ Γ':G} (hp:Bg Γ Γ') {k:Key} {q:List Nat} (hk:∀b p sz,Γ.κ b=some (.home k p,sz)->p≠q->Γ'.κ b=Γ.κ b/\Γ'.H b=Γ.H b):
  ∀(x:V) {p:List Nat} {vs:List Value},(∀r,p++r=q->(x.at r).Lj=true)->AA Γ (some k) p x vs->AA Γ' (some k) p x vs
 | .ts eb e cs,p,_,hn,h=>by
  simp only[AA]at h ⊢;obtain⟨a,n,cap,k',h0,h1,h2,h3⟩:=h;cases h0;refine⟨a,n,cap,k,rfl,h1,h2.mono hp.H,?_⟩;have hpq:p≠q:=by intro e;have:=hn [] (by simpa using e);simp[V.at,V.Lj]at this
  rcases h3 with h3|⟨b,l,sz,a1,a2,a3,a4,a5⟩;{exact .inl h3};{obtain⟨e1,e2⟩:=hk b p sz a4 (fun e=>hpq (by injection e));exact .inr ⟨b,l,sz,a1,by rw[e2,a2],a3,by rw[e1,a4],a5⟩}
 | .agg τ xs,p,vs,hn,h=>by simp only[AA]at h ⊢;refine⟨h.1,h.2.1,h.2.2.1,h.2.2.2.1,Ag.Sb hp hk xs (fun i r hr=>?_) h.2.2.2.2⟩;have:=hn (i::r) (by simpa using hr);simp only[V.at,xy]at this;simpa using this
 | .d _ _,_,_,_,h=>by simp only[AA]at h ⊢;exact h.mono hp.H
 | .sl eb e cs t,_,_,_,h=>by simp only[AA]at h ⊢;obtain⟨a,n,cap,h1,h2,h3⟩:=h;exact⟨a,n,cap,h1,h2.mono hp.H,h3.Bn hp⟩
 | .emp _ _,_,_,_,h=>by simpa only[AA]using h
 | .ye,_,_,_,h=>by simpa only[AA]using h
 | .ptr k q τ,_,_,_,h=>by simp only[AA]at h ⊢;obtain⟨b,τ0,o,h1,h2⟩:=h;exact⟨b,τ0,o,hp.ι _ _ h1,h2⟩
 | .yf τ c,_,_,_,h=>by simp only[AA]at h ⊢;obtain⟨b,off,l,h1,h2,h3,h4⟩:=h;obtain⟨l',a1,a2,a3⟩:=YT hp.H h2 h3 h4;exact⟨b,off,l',h1,a1,a2,a3⟩
 | .sr _ _ _ _ _ _ _,_,_,_,h=>by simp only[AA]at h ⊢;rcases h with h|⟨b,τ0,o,m,cap,h1,h2,h3,h4,h5,h6,h7,h8,h9⟩;{exact .inl h};exact .inr ⟨b,τ0,o,m,cap,hp.ι _ _ h1,h2,h3,h4,h5,h6,h7,h8,fun e=>(h9 e).imp id fun⟨sz,a1,a2⟩=>⟨sz,hp.σ _ _ a1,a2⟩⟩
 | .mp _,_,_,_,h=>by simp only[AA]at h ⊢;obtain⟨b,h1,h2⟩:=h;exact⟨b,hp.ι _ _ h1,h2⟩
 | .fn f yg,_,_,_,h=>by simp only[AA]at h ⊢;obtain⟨cv,h1,h2⟩:=h;exact⟨cv,h1,Bb.Bn hp yg h2⟩
 | .tup _,_,_,_,h=>by simp only[AA]at h
 | .top _,_,_,_,h=>by simpa only[AA]using h
 | .any,_,_,_,_=>by simp only[AA]
theorem Ag.Sb {Γ Γ':G} (hp:Bg Γ Γ') {k:Key} {q:List Nat} (hk:∀b p sz,Γ.κ b=some (.home k p,sz)->p≠q->Γ'.κ b=Γ.κ b/\Γ'.H b=Γ.H b):
  ∀(xs:List V) {p:List Nat} {i:Nat} {τ:Ty} {vs:List Value},(∀j r,p++[i+j]++r=q->((xs.getD j .any).at r).Lj=true)->Ag Γ (some k) p i τ xs vs->Ag Γ' (some k) p i τ xs vs
 | [],_,_,_,_,_,_=>by simp only[Ag]
 |x::xs,p,i,τ,vs,hn,h=>by simp only[Ag]at h ⊢;obtain⟨⟨o,f,h1,h2,h3,h4⟩,h5⟩:=h;refine⟨⟨o,f,h1,h2,h3,AA.Sb hp hk x (fun r hr=>?_) h4⟩,Ag.Sb hp hk xs (fun j r hr=>?_) h5⟩;{have:=hn 0 r (by simpa using hr);simpa using this};{have:=hn (j+1) r (by rw[show i+(j+1)=i+1+j by omega];exact hr);simpa using this}
end
theorem V.iU:∀(q:List Nat) (x:V) {τ:Ty} {c:C},(∃eb e cs,x.at q= .ts eb e cs)->(x.setAt q (.d τ c)).at q= .d τ c
 | [],_,_,_,_=>rfl|i::q,x,τ,c,hx=>by
  obtain⟨eb,e,cs,hx⟩:=hx;simp only[V.at]at hx;have ih:=V.iU q (x.get i) (τ:=τ) (c:=c) ⟨eb,e,cs,hx⟩;cases x <;> (try (simp only[xy,V.Ql]at hx;cases hx;done))
  case d τ' c'=>
   exfalso;have:∀(q:List Nat) (τ:Ty) (c:C),∃τ' c',(V.d τ c).at q= .d τ' c':=by
    intro q
    induction q with
    |nil=>intro τ c;exact⟨τ,c,rfl⟩|cons j q ih=>intro τ c;simp only[V.at,xy];exact ih _ _
   obtain⟨_,_,h⟩:=this q (τ'.get i) (c'.get i);simp only[xy]at hx;rw[h]at hx;cases hx
  case agg τ' vs=>
   have hlt:i<vs.length:=by rcases Nat.lt_or_ge i vs.length with h|h;{exact h};{simp[xy,bt,gb h,V.Ql]at hx}
   simp only[V.setAt,V.set,V.at];have:(V.agg τ' (vs.set i ((V.agg τ' vs).get i |>.setAt q (.d τ c)))).get i=((V.agg τ' vs).get i).setAt q (.d τ c):=by simp[xy,bt,hlt]
   rw[this];exact ih
theorem AY.take (c:AY Γ w s) {k:Key} {q:List Nat} {x:V} {eb:Nat} {e:Ty} {cs:List C} {t b:Nat} {τ0:Ty} {o0:Nat} (ho:s.obj k=some (.box x)) (hx:x.at q= .ts eb e cs) (hd:x.ty.CP=true) (ht:s.known t=false)
  (hι:Γ.ι k=some (b,τ0)) (hw:τ0.walk q=some (o0,.slice eb e)) {a:Option Addr} {n cap:Nat} (zj:w.cell? ⟨b,o0,none⟩=some (.slice a n cap)):
  ∃Γ',GLe Γ Γ'/\Bg Γ Γ'/\AY Γ' w {s with loc:=(k,.box (x.setAt q (.d (.slice eb e) (.slice cs))))::s.loc,tk:=(t,some cs.length)::s.tk}/\AK Γ' (.sl eb e cs t) (.slice a n cap):=by
 obtain⟨b2,cells,E,e1,e2,e3,e4,e5,e6,e7,e8⟩:=c.own hι ho;obtain⟨fr0,e4,zb⟩:=e4;rw[hι]at e1;cases e1;obtain⟨g1,g2,g3⟩:=e6.at_ hw (by rw[hx];simp) e7;have hcl:(chunk cells.toList 0 x.ty.size).length=x.ty.size:=Ek _ _ _ (by simpa using e5);rw[hcl]at g2;simp only[Ty.size]at g2 g3;have hch:chunk (chunk cells.toList 0 x.ty.size) o0 1=chunk cells.toList o0 1:=by rw[FB _ _ _ _ _ (by omega),bf]
 have hce:chunk cells.toList o0 1=[.slice a n cap]:=by
  apply fb;intro j;rw[EP];by_cases hj:j<1
  ·have:j=0:=by omega
   subst this;simp[World.cell?,e4]at zj;simpa using zj
  ·simp[hj]
 rw[hch,hce,hx]at g3;simp only[AA]at g3;obtain⟨a',n',z8r,k',hk',hv,hrc,z9g⟩:=g3;simp at hk' hv;subst hk';obtain⟨rfl,rfl,rfl⟩:=hv;have z94:Bx (chunk cells.toList 0 x.ty.size) o0 [.slice a n cap]=chunk cells.toList 0 x.ty.size:=by
  apply fb;intro j;rw[Gi (by simp;omega)];split
  ·rename_i hj;simp at hj;have:j=o0:=by omega
   subst this;have h0:(chunk (chunk cells.toList 0 x.ty.size) j 1)[0]? =some (.slice a n cap):=by rw[hch,hce];rfl
   rw[EP]at h0;simp at h0 ⊢;exact h0.symm
  ·rfl
 have hw':x.ty.walk q=some (o0,(V.d (.slice eb e) (.slice cs)).ty):=hw;obtain⟨r1,r2,r3⟩:=AA.setAt (p:=[]) (ws:=[.slice a n cap]) (y:=.d (.slice eb e) (.slice cs)) e6 e7 hd hw' (by rw[hx];simp) (by simpa only[AA]using hrc) rfl;rw[z94]at r1;have hns:(x.setAt q (.d (.slice eb e) (.slice cs))).BW=true:=V.Vt q x _ e8 rfl
 -- the object as it is then, first under the old ghost
 have c1:AY Γ w {s with loc:=(k,.box (x.setAt q (.d (.slice eb e) (.slice cs))))::s.loc}:=
  c.write ho hι e4 zb (fun _ _=>rfl) rfl (by rw[r2];exact e5) (by rw[r2];exact r1) r2 r3 hns (fun arr T fr h=>by rw[e4]at h;cases h;rfl)
 obtain⟨_,n1,y0p,f1,_,f2,f3,f4,f5,f6⟩:=JC hrc;simp at f1;obtain⟨rfl,rfl,rfl⟩:=f1;simp only[C.elems]at f2;rcases z9g with z9g|⟨b1,l,sz,rfl,h1,h2,h3,h4⟩;{obtain⟨c2,p2,g2'⟩:=c1.EE (t:=t) (x:=none) (L:=cs.length) ht (fun _ _ _ h=>by cases h);refine⟨_,g2',p2,c2,(Ch rfl rfl).2 ⟨?_,rfl⟩⟩;simp only[AA];exact⟨a,n,cap,rfl,hrc,none,cs.length,Dc _ _ _,bx _,fun _=>z9g⟩}
 ·have hτ:Γ.τ t=none:=c.u5 ht;obtain⟨z1,z2,arr,T,z3,z4,_⟩:=c.hκ b1 _ _ h3
  have hp:Bg Γ {Γ with τ:=CT Γ.τ t (some (b1,l.length,sz),cs.length),κ:=CT Γ.κ b1 (.tok t,sz)}:=
   ⟨gy _,fun _ _ h=>h,fun u y M h=>by
    have:u≠t:=by intro e;subst e;rw[hτ]at h;cases h
    exact⟨y,M,(Fj _ _ this).trans h,bx _,fun _=>rfl⟩,fun _ _ h=>h⟩
  have hne:∀b' o',Γ.κ b'=some o'->b'≠b1->CT Γ.κ b1 (.tok t,sz) b'=some o':=fun b' o' h hb=>(Fj _ _ hb).trans h;refine⟨{Γ with τ:=CT Γ.τ t (some (b1,l.length,sz),cs.length),κ:=CT Γ.κ b1 (.tok t,sz)},⟨gy _,rfl,fun _ _=>rfl,fun _ _ h=>h,rfl,rfl,fun _ _ h=>h,fun _ h=>h⟩,hp,?_,(Ch rfl rfl).2 ⟨?_,rfl⟩⟩
  ·refine c1.change hp rfl rfl rfl rfl c.hH (fun _ _=>rfl) (fun b' o' sz' h=>?_) (fun j o' h=>?_) (fun _ h _=>h) c1.dom c.hσ c1.inj (fun u M h=>?_) (fun u h=>?_) (bx _)
   ·by_cases e:b'=b1
    ·subst e;have h':sz=sz':=by have:=h;simp[CT]at this;exact this.2
     subst h';exact⟨z1,z2,arr,T,z3,z4,by have:=h;simp[CT]at this;rw[<-this];trivial⟩
    ·exact c.hκ b' o' sz' ((Fj _ _ e).symm.trans h)
   ·have h':jt {s with loc:=(k,.box (x.setAt q (.d (.slice eb e) (.slice cs))))::s.loc} j=some o':=h;by_cases hj:k=j
    ·subst hj;rw[DZ,if_pos rfl]at h';cases h';refine .inr ⟨b,cells,E,by rw[r2];exact hι,e2,e3,⟨fr0,e4,zb⟩,by rw[r2];exact e5,?_,r3,hns⟩;rw[r2];refine AA.Sb (q:=q) hp (fun b' p sz' hb hpq=>?_) _ (fun r hr=>?_) r1
     ·have:b'≠b1:=by intro e;subst e;rw[h3]at hb;simp at hb;exact hpq hb.1.symm
      exact⟨(hne b' _ hb this).trans hb.symm,rfl⟩
     ·rw[jr]at hr;subst hr;have:(x.setAt r (.d (.slice eb e) (.slice cs))).at r= .d (.slice eb e) (.slice cs):=V.iU r x ⟨_,_,_,hx⟩;rw[this];rfl
    ·refine .inl ⟨h',fun hd=>⟨fun b' p sz' hb=>?_,fun b' τ hb=>?_⟩⟩
     ·have:b'≠b1:=by intro e;subst e;rw[h3]at hb;simp at hb;exact hj hb.1.1
      exact⟨(hne b' _ hb this).trans hb.symm,rfl⟩
     ·obtain⟨a1,_⟩:=c1.FR hb h' hd;exact⟨rfl,a1⟩
   ·have h9:(if t=u then some cs.length else s.live u)=some M:=(ND {s with loc:=(k,.box (x.setAt q (.d (.slice eb e) (.slice cs))))::s.loc} t u (some cs.length)).symm.trans h;clear h;split at h9;{rename_i e;subst e;cases h9;refine⟨_,Dc _ _ _,fun b' pos sz' e=>?_⟩;cases e;exact⟨⟨l,h1,rfl⟩,Dc _ _ _⟩};{rename_i e;have e':u≠t:=fun h'=>e h'.symm;obtain⟨y,a1,a2⟩:=c.tok u M h9;refine⟨y,(Fj _ _ e').trans a1,fun b' pos sz' hy=>?_⟩;obtain⟨a3,a4⟩:=a2 b' pos sz' hy;exact⟨a3,hne b' _ a4 (fun e=>by subst e;rw[h3]at a4;cases a4)⟩}
   ·refine(Mw {s with loc:=(k,.box (x.setAt q (.d (.slice eb e) (.slice cs))))::s.loc} t u (some cs.length)).trans ?_;by_cases e:t=u;{simp[e]};{have e':u≠t:=fun h'=>e h'.symm;simp only[e,decide_false,Bool.false_or];refine c.yu u ?_;simpa[CT,e']using h}
  ·simp only[AA];exact⟨_,n,cap,rfl,hrc,_,_,Dc _ _ _,bx _,fun _=>⟨rfl,h2,h4⟩⟩
end
end
section
mutual
def V.ren (ρ:Key->Key) (θ:Nat->Nat):V->V
 | .sl eb e cs t=>.sl eb e cs (θ t)| .ptr k q τ=>.ptr (ρ k) q τ| .sr k q lo n cp eb e=>.sr (ρ k) q lo n cp eb e| .mp k=>.mp (ρ k)| .agg τ vs=>.agg τ (V.Dt ρ θ vs)| .fn f vs=>.fn f (V.Dt ρ θ vs)| .tup vs=>.tup (V.Dt ρ θ vs)| .d τ c=>.d τ c| .ts eb e cs=>.ts eb e cs| .emp eb e=>.emp eb e| .ye=>.ye| .yf τ c=>.yf τ c| .top τ=>.top τ| .any=>.any
def V.Dt (ρ:Key->Key) (θ:Nat->Nat):List V->List V
 | []=>[]|x::xs=>V.ren ρ θ x::V.Dt ρ θ xs
end
mutual
def Ty.FG:Ty->Bool
 | .int _| .bool| .str=>true| .arr _ e=>e.FG| .struct _ _ fs=>Ty.Sy fs|_=>false
def Ty.Sy:List Ty->Bool
 | []=>true|t::l=>t.FG&&Ty.Sy l
end
theorem wR:∀{l:List Ty} {i:Nat} {f:Ty},Ty.Sy l=true->l[i]? =some f->f.FG=true
 | [],_,_,_,h=>by simp at h
 |t::l,0,f,h,hi=>by simp only[Ty.Sy,bg]at h;simp at hi;subst hi;exact h.1
 |t::l,i+1,f,h,hi=>by simp only[Ty.Sy,bg]at h;simp at hi;exact wR h.2 hi
theorem wQ {τ f:Ty} {i o:Nat} (h:τ.FG=true) (hc:τ.child i=some (o,f)):f.FG=true:=by
 cases τ with
 |struct sz os fs=>
  simp only[Ty.FG]at h;simp only[jq]at hc;split at hc;{rename_i h1 h2;cases hc;exact wR h h2};{cases hc}
 |arr n e=>
  simp only[jq]at hc;split at hc;{cases hc;simpa only[Ty.FG]using h};{cases hc}
 |_=>simp only[jq]at hc;cases hc
def O.ren (ρ:Key->Key):O->O
 | .box x=>.box (x.ren ρ id)| .map kτ vτ es=>.map kτ vτ (bif vτ.FG then es else es.map fun c=>(c.1,c.2.ren ρ id))| .it l pos=>.it l pos| .dead τ=>.dead τ
theorem O.Sz (ρ:Key->Key) (o:O):(o.ren ρ).FL=o.FL:=by cases o <;> rfl
theorem V.JB (ρ:Key->Key) (θ:Nat->Nat) (x:V):(x.ren ρ θ).ty=x.ty:=by cases x <;> simp[V.ren,qk]
theorem V.dS (ρ:Key->Key) (θ:Nat->Nat) (x:V):(x.ren ρ θ).plain=x.plain:=by cases x <;> simp[V.ren,rp]
theorem V.wU (ρ:Key->Key) (θ:Nat->Nat):∀xs:List V,(V.Dt ρ θ xs).length=xs.length
 | []=>rfl|x::xs=>by simp[V.Dt,V.wU ρ θ xs]
mutual
theorem V.Wd (ρ:Key->Key) (θ:Nat->Nat):∀x:V,(x.ren ρ θ).BW=x.BW
 | .agg τ vs=>by simp only[V.ren,V.BW];exact V.Wf ρ θ vs
 | .fn f vs=>by simp only[V.ren,V.BW];exact V.Wf ρ θ vs
 | .tup vs=>by simp only[V.ren,V.BW];exact V.Wf ρ θ vs
 | .sl _ _ _ _| .ptr _ _ _| .sr _ _ _ _ _ _ _| .mp _| .d _ _| .ts _ _ _| .emp _ _| .ye| .yf _ _| .top _| .any=>by simp[V.ren,V.BW]
theorem V.Wf (ρ:Key->Key) (θ:Nat->Nat):∀xs:List V,V.DB (V.Dt ρ θ xs)=V.DB xs
 | []=>rfl|x::xs=>by simp only[V.Dt,V.DB,V.Wd ρ θ x,V.Wf ρ θ xs]
end
mutual
theorem V.Ka (ρ ρ':Key->Key) (h:∀k,ρ' (ρ k)=k):∀x:V,(x.ren ρ id).ren ρ' id=x
 | .agg τ vs=>by simp only[V.ren,V.Wg ρ ρ' h vs]
 | .fn f vs=>by simp only[V.ren,V.Wg ρ ρ' h vs]
 | .tup vs=>by simp only[V.ren,V.Wg ρ ρ' h vs]
 | .ptr _ _ _| .sr _ _ _ _ _ _ _| .mp _=>by simp[V.ren,h]
 | .sl _ _ _ _| .d _ _| .ts _ _ _| .emp _ _| .ye| .yf _ _| .top _| .any=>by simp[V.ren]
theorem V.Wg (ρ ρ':Key->Key) (h:∀k,ρ' (ρ k)=k):∀xs:List V,V.Dt ρ' id (V.Dt ρ id xs)=xs
 | []=>rfl|x::xs=>by simp only[V.Dt,V.Ka ρ ρ' h x,V.Wg ρ ρ' h xs]
end
theorem O.Ka (ρ ρ':Key->Key) (h:∀k,ρ' (ρ k)=k) (o:O):(o.ren ρ).ren ρ'=o:=by
 cases o with
 |box x=>simp[O.ren,V.Ka ρ ρ' h]|map kτ vτ es=>
  simp only[O.ren];cases vτ.FG
  case true=>rfl
  simp only[cond_false,List.map_map];congr 1;refine(List.map_congr_left (g:=id) fun c _=>?_).trans (List.map_id _);simp[V.Ka ρ ρ' h]
 |it=>rfl|dead=>rfl
structure HH (Γ Γ':G) (ρ:Key->Key) (hm:Option Key):Prop where
 H:Γ.H.le Γ'.H
 ι:∀k x,Γ.ι k=some x->Γ'.ι (ρ k)=some x
 σ:∀b sz,Γ.σ b=some sz->Γ'.σ b=some sz
 κ:∀k b p sz,hm=some k->Γ.κ b=some (.home k p,sz)->Γ'.κ b=some (.home (ρ k) p,sz)/\Γ'.H b=Γ.H b
section
variable {Γ Γ':G} {ρ:Key->Key} {θ:Nat->Nat}
mutual
theorem AA.ren {hm:Option Key} (hp:HH Γ Γ' ρ hm) (hτ:∀t x,Γ.τ t=some x->Γ'.τ (θ t)=some x):∀(x:V) {p:List Nat} {vs:List Value},AA Γ hm p x vs->AA Γ' (hm.map ρ) p (x.ren ρ θ) vs
 | .d τ c,_,_,h=>by simp only[AA,V.ren]at h ⊢;exact h.mono hp.H
 | .sl eb e cs t,_,_,h=>by simp only[AA,V.ren]at h ⊢;obtain⟨a,n,cap,h1,h2,x,L,h3,h4⟩:=h;exact⟨a,n,cap,h1,h2.mono hp.H,x,L,hτ t _ h3,h4⟩
 | .ts eb e cs,_,_,h=>by simp only[AA,V.ren]at h ⊢;obtain⟨a,n,cap,k,h0,h1,h2,h3⟩:=h;refine⟨a,n,cap,ρ k,by rw[h0];rfl,h1,h2.mono hp.H,?_⟩;rcases h3 with h3|⟨b,l,sz,a1,a2,a3,a4,a5⟩;{exact .inl h3};{obtain⟨e1,e2⟩:=hp.κ k b _ sz h0 a4;exact .inr ⟨b,l,sz,a1,by rw[e2,a2],a3,e1,a5⟩}
 | .emp _ _,_,_,h=>by simpa only[AA,V.ren]using h
 | .ye,_,_,h=>by simpa only[AA,V.ren]using h
 | .ptr k q τ,_,_,h=>by simp only[AA,V.ren]at h ⊢;obtain⟨b,τ0,o,h1,h2⟩:=h;exact⟨b,τ0,o,hp.ι _ _ h1,h2⟩
 | .yf τ c,_,_,h=>by simp only[AA,V.ren]at h ⊢;obtain⟨b,off,l,h1,h2,h3,h4⟩:=h;obtain⟨l',a1,a2,a3⟩:=YT hp.H h2 h3 h4;exact⟨b,off,l',h1,a1,a2,a3⟩
 | .sr k q lo n cp eb e,_,_,h=>by simp only[AA,V.ren]at h ⊢;rcases h with h|⟨b,τ0,o,m,cap,h1,h2,h3,h4,h5,h6,h7,h8,h9⟩;{exact .inl h};exact .inr ⟨b,τ0,o,m,cap,hp.ι _ _ h1,h2,h3,h4,h5,h6,h7,h8,fun e=>(h9 e).imp id fun⟨sz,a1,a2⟩=>⟨sz,hp.σ _ _ a1,a2⟩⟩
 | .mp k,_,_,h=>by simp only[AA,V.ren]at h ⊢;obtain⟨b,h1,h2⟩:=h;exact⟨b,hp.ι _ _ h1,h2⟩
 | .agg τ xs,_,_,h=>by simp only[AA,V.ren]at h ⊢;exact⟨h.1,h.2.1,by rw[V.wU];exact h.2.2.1,h.2.2.2.1,Ag.ren hp hτ xs h.2.2.2.2⟩
 | .fn f yg,_,_,h=>by simp only[AA,V.ren]at h ⊢;obtain⟨cv,h1,h2⟩:=h;exact⟨cv,h1,Bb.ren ⟨hp.H,hp.ι,hp.σ,fun _ _ _ _ h=>by cases h⟩ hτ yg h2⟩
 | .tup _,_,_,h=>by simp only[AA]at h
 | .top _,_,_,h=>by simpa only[AA,V.ren]using h
 | .any,_,_,_=>by simp only[AA,V.ren]
theorem Ag.ren {hm:Option Key} (hp:HH Γ Γ' ρ hm) (hτ:∀t x,Γ.τ t=some x->Γ'.τ (θ t)=some x):∀(xs:List V) {p:List Nat} {i:Nat} {τ:Ty} {vs:List Value},Ag Γ hm p i τ xs vs->Ag Γ' (hm.map ρ) p i τ (V.Dt ρ θ xs) vs
 | [],_,_,_,_,_=>by simp only[V.Dt,Ag]
 |x::xs,_,_,_,_,h=>by simp only[Ag,V.Dt,V.JB]at h ⊢;obtain⟨⟨o,f,h1,h2,h3,h4⟩,h5⟩:=h;exact⟨⟨o,f,h1,h2,h3,AA.ren hp hτ x h4⟩,Ag.ren hp hτ xs h5⟩
theorem Bb.ren (hp:HH Γ Γ' ρ none) (hτ:∀t x,Γ.τ t=some x->Γ'.τ (θ t)=some x):∀(xs:List V) {vs:List Value},Bb Γ xs vs->Bb Γ' (V.Dt ρ θ xs) vs
 | [],_,h=>by simpa only[Bb,V.Dt]using h
 |x::xs,_,h=>by simp only[Bb,V.Dt,V.JB]at h ⊢;obtain⟨v,vs',h1,h2,h3,h4⟩:=h;exact⟨v,vs',h1,by simpa using AA.ren hp hτ x h2,h3,Bb.ren hp hτ xs h4⟩
end
mutual
theorem AA.Jj {hm:Option Key}:∀(x:V) {p:List Nat} {vs:List Value},x.BW=true->AA Γ hm p x vs->AA {Γ with τ:=fun _=>none} hm p x vs
 | .sl _ _ _ _,_,_,h,_=>by simp[V.BW]at h
 | .agg τ xs,_,_,hn,h=>by simp only[AA]at h ⊢;exact⟨h.1,h.2.1,h.2.2.1,h.2.2.2.1,Ag.Jj xs (by simpa[V.BW]using hn) h.2.2.2.2⟩
 | .fn f yg,_,_,hn,h=>by simp only[AA]at h ⊢;obtain⟨cv,h1,h2⟩:=h;exact⟨cv,h1,Bb.Jj yg (by simpa[V.BW]using hn) h2⟩
 | .tup _,_,_,_,h=>by simp only[AA]at h
 | .ts _ _ _,_,_,_,h=>by simp only[AA]at h ⊢;exact h
 | .d _ _,_,_,_,h| .emp _ _,_,_,_,h| .ye,_,_,_,h| .ptr _ _ _,_,_,_,h| .yf _ _,_,_,_,h| .sr _ _ _ _ _ _ _,_,_,_,h| .mp _,_,_,_,h| .top _,_,_,_,h=>by simpa only[AA]using h
 | .any,_,_,_,_=>by simp only[AA]
theorem Ag.Jj {hm:Option Key}:∀(xs:List V) {p:List Nat} {i:Nat} {τ:Ty} {vs:List Value},V.DB xs=true->Ag Γ hm p i τ xs vs->Ag {Γ with τ:=fun _=>none} hm p i τ xs vs
 | [],_,_,_,_,_,_=>by simp only[Ag]
 |x::xs,_,_,_,_,hn,h=>by simp only[Ag]at h ⊢;simp only[V.DB,bg]at hn;obtain⟨⟨o,f,h1,h2,h3,h4⟩,h5⟩:=h;exact⟨⟨o,f,h1,h2,h3,AA.Jj x hn.1 h4⟩,Ag.Jj xs hn.2 h5⟩
theorem Bb.Jj:∀(xs:List V) {vs:List Value},V.DB xs=true->Bb Γ xs vs->Bb {Γ with τ:=fun _=>none} xs vs
 | [],_,_,h=>by simpa only[Bb]using h
 |x::xs,_,hn,h=>by simp only[Bb]at h ⊢;simp only[V.DB,bg]at hn;obtain⟨v,vs',h1,h2,h3,h4⟩:=h;exact⟨v,vs',h1,AA.Jj x hn.1 h2,h3,Bb.Jj xs hn.2 h4⟩
end
theorem AA.Ce {hm:Option Key} (hp:HH Γ Γ' ρ hm) {x:V} (hn:x.BW=true) {p:List Nat} {vs:List Value} (h:AA Γ hm p x vs):AA Γ' (hm.map ρ) p (x.ren ρ θ) vs:=by have h1:=AA.Jj x hn h;refine AA.ren (Γ:={Γ with τ:=fun _=>none}) (θ:=θ) ⟨hp.H,hp.ι,hp.σ,hp.κ⟩ (fun t x h=>by cases h) x h1
theorem O.XR {ρ:Key->Key} {o:O} (h:o.Jr):(o.ren ρ).Jr:=by cases o <;> simp only[O.Jr,O.ren]at h ⊢;obtain⟨e,rfl⟩:=h;exact⟨e,rfl⟩
mutual
theorem AA.rl {hm hm':Option Key} (hH:Γ.H.le Γ'.H):∀(x:V) {p p':List Nat} {vs:List Value},x.ty.FG=true->AA Γ hm p x vs->AA Γ' hm' p' x vs
 | .d τ c,_,_,_,_,h=>by simp only[AA]at h ⊢;exact h.mono hH
 | .agg τ xs,_,_,_,ht,h=>by simp only[AA]at h ⊢;exact⟨h.1,h.2.1,h.2.2.1,h.2.2.2.1,Ag.rl hH xs (by simpa[qk]using ht) h.2.2.2.2⟩
 | .top _,_,_,_,_,h=>by simp only[AA]at h ⊢;exact h
 | .any,_,_,_,_,_=>by simp only[AA]
 | .tup _,_,_,_,ht,_=>by simp[qk,Ty.FG]at ht
 | .sl _ _ _ _,_,_,_,ht,_| .ts _ _ _,_,_,_,ht,_| .emp _ _,_,_,_,ht,_| .ye,_,_,_,ht,_| .ptr _ _ _,_,_,_,ht,_| .yf _ _,_,_,_,ht,_| .sr _ _ _ _ _ _ _,_,_,_,ht,_| .mp _,_,_,_,ht,_| .fn _ _,_,_,_,ht,_=>by simp[qk,Ty.FG]at ht
theorem Ag.rl {hm hm':Option Key} (hH:Γ.H.le Γ'.H):∀(xs:List V) {p p':List Nat} {i:Nat} {τ:Ty} {vs:List Value},τ.FG=true->Ag Γ hm p i τ xs vs->Ag Γ' hm' p' i τ xs vs
 | [],_,_,_,_,_,_,_=>by simp only[Ag]
 |x::xs,_,_,_,_,_,ht,h=>by simp only[Ag]at h ⊢;obtain⟨⟨o,f,h1,h2,h3,h4⟩,h5⟩:=h;exact⟨⟨o,f,h1,h2,h3,AA.rl hH x (by rw[h2];exact wQ ht h1) h4⟩,Ag.rl hH xs ht h5⟩
end
theorem Own.ren {w w':World} {k:Key} {o:O} (hp:HH Γ Γ' ρ (some k)) (hb:o.FL=false->∀b τ,Γ.ι k=some (b,τ)->w'.heap[b]? =w.heap[b]?/\Γ'.H b=none/\Γ'.Z b=none) (hsz:w.heap.size<=w'.heap.size)
  (h:Own Γ w k o):Own Γ' w' (ρ k) (o.ren ρ):=by
 cases o with
 |box x=>
  obtain⟨b,cells,T,h1,h2,h3,h4,h5,h6,h7,h8⟩:=h;obtain⟨e1,e2,e3⟩:=hb rfl _ _ h1;exact⟨b,cells,T,by rw[V.JB];exact hp.ι _ _ h1,e2,e3,by obtain⟨fr,h4,hf⟩:=h4;exact⟨fr,by rw[e1,h4],hf⟩,by rw[V.JB];exact h5,by rw[V.JB];exact h6.Ce hp h8,by rw[V.dS];exact h7,by rw[V.Wd];exact h8⟩
 |map kτ vτ es=>
  obtain⟨b,ms,clock,h1,h2,h3,h4,h5,h6,h7⟩:=h;obtain⟨e1,e2,e3⟩:=hb rfl _ _ h1;cases hrl:vτ.FG
  case true=>
   refine⟨b,ms,clock,hp.ι _ _ h1,e2,e3,by rw[e1,h4],by simpa[hrl]using h5,fun i m c hm hc=>?_,h7⟩;simp only[hrl,cond_true]at hc;obtain⟨a1,a2,a3,a4,a5,a6,a7⟩:=h6 i m c hm hc;exact⟨a1.mono hp.H,a2,AA.rl hp.H c.2 (by rw[a5];exact hrl) a3,a4,a5,a6,a7⟩
  refine⟨b,ms,clock,hp.ι _ _ h1,e2,e3,by rw[e1,h4],by simpa[hrl]using h5,fun i m c hm hc=>?_,h7⟩;simp only[hrl,cond_false,db]at hc;cases hi:es[i]? with
  |none=>simp[hi]at hc|some c0=>
   simp[hi]at hc;subst hc;obtain⟨a1,a2,a3,a4,a5,a6,a7⟩:=h6 i m c0 hm hi;exact⟨a1.mono hp.H,a2,by simpa using AA.Ce (hm:=none) ⟨hp.H,hp.ι,hp.σ,fun _ _ _ _ h=>by cases h⟩ a7 a3,a4,by simp only[V.JB];exact a5,by simp only[V.dS];exact a6,by simp only[V.Wd];exact a7⟩
 |it l pos=>
  obtain⟨b,adr,v,h1,h2,h3,h4,h5,h6,h7⟩:=h;obtain⟨e1,e2,e3⟩:=hb rfl _ _ h1;refine⟨b,adr,v,hp.ι _ _ h1,e2,e3,by rw[e1,h4],h5,h6,?_⟩;rcases h7 with h7|⟨g,cap,g1,g2,g3,g4⟩;{exact .inl h7};{obtain⟨q1,q2⟩:=hp.κ _ g _ _ rfl g3;exact .inr ⟨g,cap,g1,by rw[q2];exact g2,q1,g4⟩}
 |dead τ=>
  obtain⟨b,h1,h4⟩:=h;exact⟨b,hp.ι _ _ h1,by omega⟩
mutual
def V.Cg:V->V
 | .sl eb e cs _=>.d (.slice eb e) (.slice cs)| .agg τ vs=>.agg τ (V.GS vs)| .fn f vs=>.fn f (V.GS vs)| .tup vs=>.tup (V.GS vs)|x=>x
def V.GS:List V->List V
 | []=>[]|x::xs=>V.Cg x::V.GS xs
end
theorem V.kX (x:V):x.Cg.ty=x.ty:=by cases x <;> simp[V.Cg,qk]
theorem V.kY:∀xs:List V,(V.GS xs).length=xs.length
 | []=>rfl|x::xs=>by simp[V.GS,V.kY xs]
mutual
theorem V.kW:∀x:V,x.Cg.BW=true
 | .agg τ vs=>by simp only[V.Cg,V.BW];exact V.UX vs
 | .fn f vs=>by simp only[V.Cg,V.BW];exact V.UX vs
 | .tup vs=>by simp only[V.Cg,V.BW];exact V.UX vs
 | .sl _ _ _ _| .ptr _ _ _| .sr _ _ _ _ _ _ _| .mp _| .d _ _| .ts _ _ _| .emp _ _| .ye| .yf _ _| .top _| .any=>by simp[V.Cg,V.BW]
theorem V.UX:∀xs:List V,V.DB (V.GS xs)=true
 | []=>rfl|x::xs=>by simp only[V.GS,V.DB,V.kW x,V.UX xs,Bool.and_self]
end
mutual
theorem AA.Cg {hm:Option Key}:∀(x:V) {p:List Nat} {vs:List Value},AA Γ hm p x vs->AA Γ hm p x.Cg vs
 | .sl _ _ _ _,_,_,h=>by simp only[AA,V.Cg]at h ⊢;obtain⟨a,n,cap,rfl,h2,_⟩:=h;exact h2
 | .agg τ xs,_,_,h=>by simp only[AA,V.Cg]at h ⊢;exact⟨h.1,h.2.1,by rw[V.kY];exact h.2.2.1,h.2.2.2.1,Ag.Cg xs h.2.2.2.2⟩
 | .fn f yg,_,_,h=>by simp only[AA,V.Cg]at h ⊢;obtain⟨cv,h1,h2⟩:=h;exact⟨cv,h1,Bb.Cg yg h2⟩
 | .tup _,_,_,h=>by simp only[AA]at h
 | .d _ _,_,_,h| .ts _ _ _,_,_,h| .emp _ _,_,_,h| .ye,_,_,h| .ptr _ _ _,_,_,h| .yf _ _,_,_,h| .sr _ _ _ _ _ _ _,_,_,h| .mp _,_,_,h| .top _,_,_,h=>by simpa only[AA,V.Cg]using h
 | .any,_,_,_=>by simp only[AA,V.Cg]
theorem Ag.Cg {hm:Option Key}:∀(xs:List V) {p:List Nat} {i:Nat} {τ:Ty} {vs:List Value},Ag Γ hm p i τ xs vs->Ag Γ hm p i τ (V.GS xs) vs
 | [],_,_,_,_,_=>by simp only[V.GS,Ag]
 |x::xs,_,_,_,_,h=>by simp only[Ag,V.GS,V.kX]at h ⊢;obtain⟨⟨o,f,h1,h2,h3,h4⟩,h5⟩:=h;exact⟨⟨o,f,h1,h2,h3,AA.Cg x h4⟩,Ag.Cg xs h5⟩
theorem Bb.Cg:∀(xs:List V) {vs:List Value},Bb Γ xs vs->Bb Γ (V.GS xs) vs
 | [],_,h=>by simpa only[Bb,V.GS]using h
 |x::xs,_,h=>by simp only[Bb,V.GS,V.kX]at h ⊢;obtain⟨v,vs',h1,h2,h3,h4⟩:=h;exact⟨v,vs',h1,AA.Cg x h2,h3,Bb.Cg xs h4⟩
end
theorem AK.Cg {x:V} {v:Value} (h:AK Γ x v):AK Γ x.Cg v:=by
 cases x <;> (try exact h)
 case sl=>obtain⟨h1,h2⟩:=h;exact⟨AA.Cg _ h1,h2⟩
 case agg=>obtain⟨h1,h2⟩:=h;exact⟨AA.Cg _ h1,h2⟩
 case fn=>obtain⟨h1,h2⟩:=h;exact⟨AA.Cg _ h1,h2⟩
 case tup=>obtain⟨vs,h1,h2⟩:=h;exact⟨vs,h1,Bb.Cg _ h2⟩
theorem AK.ren {x:V} {v:Value} (hp:HH Γ Γ' ρ none) (hτ:∀t x,Γ.τ t=some x->Γ'.τ (θ t)=some x) (h:AK Γ x v):AK Γ' (x.ren ρ θ) v:=by
 cases x
 case any=>trivial
 case tup vs=>obtain⟨us,h1,h2⟩:=h;exact⟨us,h1,Bb.ren hp hτ _ h2⟩
 all_goals
  obtain⟨h1,h2⟩:=h;have:=AA.ren hp hτ _ h1;exact(Ca (by simp[V.ren,rp])).2 ⟨this,by simpa[V.JB]using h2⟩
theorem AK.Ce {x:V} {v:Value} (hp:HH Γ Γ' ρ none) (hn:x.BW=true) (h:AK Γ x v):AK Γ' (x.ren ρ θ) v:=by
 cases x
 case any=>trivial
 case tup vs=>
  obtain⟨us,h1,h2⟩:=h;refine⟨us,h1,?_⟩;exact Bb.ren (Γ:={Γ with τ:=fun _=>none}) (θ:=θ) ⟨hp.H,hp.ι,hp.σ,hp.κ⟩ (fun t x h=>by cases h) _ (Bb.Jj _ (by simpa[V.BW]using hn) h2)
 all_goals
  obtain⟨h1,h2⟩:=h;have:=AA.Ce (θ:=θ) hp hn h1;exact(Ca (by simp[V.ren,rp])).2 ⟨this,by simpa[V.JB]using h2⟩
end
end
structure Cx where
 P:Program
 gl:Nat->Option (Ty × C)
def V.slot (n:Nat):V->V
 | .ts eb e cs=>.sl eb e cs n|x=>x
def Db:Nat->List V->List V
 |_,[]=>[]|n,x::xs=>x.slot n::Db (n+1) xs
def V.EH (n:Nat):V->List (Nat × Option Nat)
 | .ts _ _ cs=>[(n,some cs.length)]|_=>[]
def Gk:Nat->List V->List (Nat × Option Nat)
 |_,[]=>[]|n,x::xs=>x.EH n++Gk (n+1) xs
def V.Da (n:Nat):V->V
 | .tup vs=>.tup (Db n vs)|x=>x.slot n
def V.tkR (n:Nat):V->List (Nat × Option Nat)
 | .tup vs=>Gk n vs|x=>x.EH n
def Pf:Nat->List V->List (Nat × V)
 |_,[]=>[]|i,x::xs=>(i,x)::Pf (i+1) xs
def S.start (xs:List V) (A:Key->Option O):S:=⟨Pf 0 (Db 1000 xs),[],A,Gk 1000 xs⟩
def S.fin (v:V) (L:List (Key × O)) (A:Key->Option O):S:=⟨[],L,A,v.tkR 2000⟩
mutual
def V.ok (f g:Nat->Bool):V->Bool
 | .ptr (.l k) _ _| .mp (.l k)| .sr (.l k) _ _ _ _ _ _=>f k| .sl _ _ _ t=>g t| .agg _ vs| .fn _ vs| .tup vs=>V.oks f g vs|_=>true
def V.oks (f g:Nat->Bool):List V->Bool
 | []=>true|x::xs=>x.ok f g&&V.oks f g xs
end
def V.Ds (f g:Nat->Bool):List (C × V)->Bool
 | []=>true|x::xs=>x.2.ok f g&&V.Ds f g xs
mutual
def Ty.Ey:Ty->Bool
 | .int _| .bool| .str=>true| .arr _ e=>e.Ey| .struct _ _ fs=>Ty.SZ fs|_=>false
def Ty.SZ:List Ty->Bool
 | []=>true|t::l=>t.Ey&&Ty.SZ l
end
def O.ok (f g:Nat->Bool):O->Bool
 | .box x=>x.ok f g| .map _ _ es=>V.Ds f g es| .it _ _| .dead _=>true
def CQ:Nat->Bool:=fun _=>false
def AOk (A:Key->Option O):Prop:=∀k o,A k=some o->o.ok CQ CQ=true
def Cc (X:Cx) (f:FuncId) (xs:List V) (A:Key->Option O) (v:V) (L:List (Key × O)):Prop:=
 ∀(A':Key->Option O) (Γ:G) (w:World) (args:Array Value),(∀k o,A k=some o->A' k=some o)->Γ.gl=X.gl->AY Γ w (S.start xs A')/\AOk A'->xs.length=args.size->(∀(i:Nat) x u,(Db 1000 xs)[i]? =some x->args[i]? =some u->AK Γ x u)->
  Calls X.P f args w fun e w'=>∃u Γ',e= .returned u/\GLe Γ Γ'/\AY Γ' w' (S.fin v L A')/\AK Γ' (v.Da 2000) u
theorem fB:∀(n:Nat) (xs:List V),(Db n xs).length=xs.length
 |_,[]=>rfl|n,x::xs=>by simp[Db,fB (n+1) xs]
theorem TQ:∀(n:Nat) (xs:List V) (i:Nat),(Db n xs)[i]? =(xs[i]?).map (V.slot (n+i))
 |_,[],i=>by simp[Db]
 |n,x::xs,0=>by simp[Db]
 |n,x::xs,i+1=>by simp only[Db,fu,TQ (n+1) xs i];rw[show n+1+i=n+(i+1) by omega]
theorem NG {α:Type}:∀(l m:List (Nat × α)) (n:Nat),look (l++m) n=match look l n with|some x=>some x|none=>look m n
 | [],_,_=>rfl|(j,x)::l,m,n=>by simp only[ow,look];split;{rfl};{exact NG l m n}
theorem zM (n:Nat) (x:V) (t:Nat):look (x.EH n) t=if n=t then(match x with| .ts _ _ cs=>some (some cs.length)|_=>none)else none:=by cases x <;> simp[V.EH,look]
theorem Tc:∀(n:Nat) (xs:List V) (t:Nat),look (Gk n xs) t=if n<=t then(match xs[t-n]? with|some (.ts _ _ cs)=>some (some cs.length)|_=>none)else none
 |n,[],t=>by simp[Gk,look]
 |n,x::xs,t=>by
  simp only[Gk,NG,zM,Tc (n+1) xs t];by_cases h1:n=t
  ·subst h1;simp only[if_true,bx,Nat.sub_self,List.getElem?_cons_zero];cases x <;> simp
   all_goals (intro h;omega)
  ·rw[if_neg h1];by_cases h2:n<=t;{rw[if_pos h2,if_pos (by omega),show t-n=(t-(n+1))+1 by omega,fu]};{rw[if_neg h2,if_neg (by omega)]}
def V.bM:V->Bool
 | .ts _ _ _=>false|_=>true
def EO (P:Program) (tip:Bool) (s:S) (T:TypeId) (x:V):V:=
 match x with
 | .sl eb e cs t=>if tip=true/\s.live t=some cs.length then .ts eb e cs else .d (.slice eb e) (.slice cs)| .emp eb e=>if tip=true then .ts eb e []else .d (.slice eb e) (.slice [])| .ye=>match ty P T with| .slice eb e=>if tip=true then .ts eb e []else .d (.slice eb e) (.slice [])|_=>if tip=true then .ts 0 (.opq 0) []else .ye
 | .agg τ vs=>match Cl (.agg τ vs)with|some c=>.d τ c|none=>(V.agg τ vs).Cg.ren .g id
 |x=>x.Cg.ren .g id
def DU (P:Program) (tip:Bool) (s:S):List TypeId->List V->List V
 |T::Ts,x::xs=>EO P tip s T x::DU P tip s Ts xs|_,_=>[]
def DD (tip:Bool) (s:S) (x:V):Option (Option Nat):=
 match x with
 | .sl _ _ cs t=>if tip=true/\s.live t=some cs.length then some (some t)else none| .emp _ _| .ye=>if tip=true then some none else none|_=>none
def DQ (tip:Bool) (s:S):List V->List Nat
 | []=>[]|x::xs=>(match DD tip s x with|some (some t)=>[t] |_=>[])++DQ tip s xs
def HB:List Nat->Bool
 | []=>true|x::xs=> !(xs.contains x)&&HB xs
theorem Q5 {P:Program} {tip:Bool} {s:S} {T:TypeId} {x:V} {eb:Nat} {e:Ty} {cs:List C} (h:EO P tip s T x= .ts eb e cs) (hx:x.bM=true):
  (∃t,x= .sl eb e cs t/\DD tip s x=some (some t)/\s.live t=some cs.length)\/(cs=[]/\DD tip s x=some none):=by
 cases x <;> simp only[EO]at h
 case sl eb' e' cs' t=>
  split at h;{rename_i hc;cases h;exact .inl ⟨t,rfl,by simp[DD,hc],hc.2⟩};{cases h}
 case emp eb' e'=>
  split at h;{rename_i hc;cases h;exact .inr ⟨rfl,by simp[DD,hc]⟩};{cases h}
 case ye=>
  split at h;{split at h;{rename_i hc;cases h;exact .inr ⟨rfl,by simp[DD,hc]⟩};{cases h}};{split at h;{rename_i hc;cases h;exact .inr ⟨rfl,by simp[DD,hc]⟩};{cases h}}
 case agg=>split at h <;> simp[V.Cg,V.ren]at h
 case ts=>simp[V.bM]at hx
 all_goals (simp[V.Cg,V.ren]at h)
theorem SG {tip:Bool} {s:S}:∀{xs:List V} {i:Nat} {x:V} {t:Nat},xs[i]? =some x->DD tip s x=some (some t)->t∈DQ tip s xs
 | [],_,_,_,h,_=>by simp at h
 |y::ys,0,x,t,h,hx=>by simp at h;subst h;simp[DQ,hx]
 |y::ys,i+1,x,t,h,hx=>by simp only[DQ,eh];exact .inr (SG (by simpa using h) hx)
theorem uR {tip:Bool} {s:S}:∀{xs:List V} {i j:Nat} {x y:V} {t:Nat},HB (DQ tip s xs)=true->xs[i]? =some x->xs[j]? =some y->DD tip s x=some (some t)->DD tip s y=some (some t)->i=j
 | [],_,_,_,_,_,_,h,_,_,_=>by simp at h
 |z::zs,i,j,x,y,t,hn,hi,hj,hx,hy=>by
  have key:∀{k:Nat} {u:V},zs[k]? =some u->DD tip s u=some (some t)->DD tip s z=some (some t)->False:=by intro k u hk hu hz;have:=SG hk hu;simp[DQ,hz,HB]at hn;exact hn.1 this
  cases i with
  |zero=>
   simp at hi;subst hi;cases j with
   |zero=>rfl|succ j=>exact(key (by simpa using hj) hy hx).elim
  |succ i=>
   cases j with
   |zero=>simp at hj;subst hj;exact(key (by simpa using hi) hx hy).elim|succ j=>
    have hn':HB (DQ tip s zs)=true:=by simp only[DQ]at hn;split at hn;{simp[HB]at hn;exact hn.2};{simpa using hn}
    have:=uR (i:=i) (j:=j) hn' (by simpa using hi) (by simpa using hj) hx hy;omega
theorem UA {P:Program} {tip:Bool} {s:S}:∀{Ts:List TypeId} {xs:List V} {i:Nat} {z:V},(DU P tip s Ts xs)[i]? =some z->∃(T:TypeId) (x:V),Ts[i]? =some T/\xs[i]? =some x/\z=EO P tip s T x
 | [],_,_,_,h=>by simp[DU]at h
 |_::_,[],_,_,h=>by simp[DU]at h
 |T::Ts,x::xs,0,z,h=>by simp[DU]at h;exact⟨T,x,rfl,rfl,h.symm⟩
 |T::Ts,x::xs,i+1,z,h=>by simp only[DU,fu]at h;obtain⟨T',x',h1,h2,h3⟩:=UA h;exact⟨T',x',by simpa using h1,by simpa using h2,h3⟩
theorem Xo {P:Program} {tip:Bool} {s:S}:∀{Ts:List TypeId} {xs:List V},Ts.length=xs.length->(DU P tip s Ts xs).length=xs.length
 | [],[],_=>rfl|T::Ts,x::xs,h=>by simp[DU,Xo (Ts:=Ts) (xs:=xs) (by simpa using h)]
 | [],_::_,h=>by simp at h
 |_::_,[],h=>by simp at h
def Ea (tip:Bool) (s:S) (t:Nat):Nat->List V->Option Nat
 |_,[]=>none|i,x::xs=>if DD tip s x=some (some t)then some i else Ea tip s t (i+1) xs
theorem Tw {tip:Bool} {s:S} {t:Nat}:∀{xs:List V} {i j:Nat},Ea tip s t i xs=some j->∃(k:Nat) (x:V),j=i+k/\xs[k]? =some x/\DD tip s x=some (some t)
 | [],_,_,h=>by simp[Ea]at h
 |x::xs,i,j,h=>by simp only[Ea]at h;split at h;{rename_i hx;cases h;exact⟨0,x,rfl,rfl,hx⟩};{obtain⟨k,y,h1,h2,h3⟩:=Tw h;exact⟨k+1,y,by omega,by simpa using h2,h3⟩}
theorem iM {tip:Bool} {s:S} {t:Nat}:∀{xs:List V} {i:Nat},Ea tip s t i xs=none->t∉DQ tip s xs
 | [],_,_=>by simp[DQ]
 |x::xs,i,h=>by simp only[Ea]at h;split at h;{cases h};{rename_i hx;have:=iM h;simp only[DQ,eh,not_or];refine⟨?_,this⟩;cases ha:DD tip s x with|none=>simp|some o=>cases o with|none=>simp|some u=>simp;intro e;subst e;exact hx ha}
section
def G.call (Γ:G) (w:World) (tip:Bool) (s:S) (ys:List V):G:=
 {H:=Γ.H
  Z:=fun b=>match Γ.Z b with
   |some o=>some o|none=>match Γ.κ b with
    |some (.tok t,_)=>match Ea tip s t 0 ys with|some _=>none|none=>w.heap[b]?
    |_=>none
  ι:=fun k=>match k with| .l _=>none| .g k=>Γ.ι k
  τ:=fun m=>if 1000<=m then(match ys[m-1000]? with|some y=>(match DD tip s y with|some (some t)=>Γ.τ t|some none=>some (none,0)|none=>none)|none=>none)else none
  κ:=fun b=>match Γ.κ b with
   |some (.home k p,sz)=>some (.home (.g k) p,sz)|some (.tok t,sz)=>match Ea tip s t 0 ys with|some i=>some (.tok (1000+i),sz)|none=>none
   |none=>none
  gl:=Γ.gl
  oo:=Γ.oo
  σ:=Γ.σ}
def S.up (s:S):Key->Option O:=fun k=>(s.obj k).map (O.ren .g)
section
variable {P:Program} {Γ:G} {w:World} {s:S} {tip:Bool} {ys:List V} {Ts:List TypeId}
theorem jO (Γ:G) (w:World) (tip:Bool) (s:S) (ys:List V) {b:Nat} (hz:Γ.Z b=none) (h:∀t sz,Γ.κ b=some (.tok t,sz)->Ea tip s t 0 ys≠none):(Γ.call w tip s ys).Z b=none:=by
 simp only[G.call,hz];cases hk:Γ.κ b with
 |none=>rfl|some x=>
  obtain⟨o,sz⟩:=x;cases o with
  |home=>rfl|tok t=>
   simp only;cases ha:Ea tip s t 0 ys with
   |some _=>rfl|none=>exact absurd ha (h t sz hk)
theorem jP (Γ:G) (w:World) (tip:Bool) (s:S) (ys:List V) (hm:Option Key):HH Γ (Γ.call w tip s ys) .g hm:=
 ⟨gy _,fun k x h=>h,fun _ _ h=>h,fun k b p sz _ h=>⟨by simp[G.call,h],rfl⟩⟩
theorem Q4 {y:V} {u:Value} (c:AY Γ w s) (hr:AK Γ y u) {m:Option Nat} (h:DD tip s y=some m):
  ∀T,∃eb e cs,EO P tip s T y= .ts eb e cs:=by
 intro T;cases y <;> simp only[DD,reduceCtorEq]at h
 case sl eb e cs t=>
  split at h;{rename_i hc;exact⟨eb,e,cs,by simp[EO,hc]⟩};{cases h}
 case emp eb e=>
  split at h;{rename_i hc;exact⟨eb,e,[],by simp[EO,hc]⟩};{cases h}
 case ye=>
  split at h;{rename_i hc;simp only[EO,hc,if_true];split;{exact⟨_,_,_,rfl⟩};{exact⟨_,_,_,rfl⟩}};{cases h}
structure Nv (P:Program) (Γ:G) (tip:Bool) (s:S) (Ts:List TypeId) (ys:List V) (us:List Value):Prop where
 len:Ts.length=ys.length
 z9h:ys.length=us.length
 rep:∀(i:Nat) (y:V) (u:Value),ys[i]? =some y->us[i]? =some u->AK Γ y u
 nd:HB (DQ tip s ys)=true
theorem Nv.ix {us:List Value} (a:Nv P Γ tip s Ts ys us) {t i:Nat} {y:V} (hy:ys[i]? =some y) (ht:DD tip s y=some (some t)):Ea tip s t 0 ys=some i:=by
 cases h:Ea tip s t 0 ys with
 |none=>exact absurd (SG hy ht) (iM h)|some j=>
  obtain⟨k,x,h1,h2,h3⟩:=Tw h;have:=uR a.nd hy h2 ht h3;rw[h1,this];simp
theorem AY.call (c:AY Γ w s) {us:List Value} (a:Nv P Γ tip s Ts ys us):AY (Γ.call w tip s ys) w (S.start (DU P tip s Ts ys) s.up):=by
 have yi:∀k o,(S.start (DU P tip s Ts ys) s.up).obj k=some o->∃k' o',k= .g k'/\s.obj k'=some o'/\o=o'.ren .g:=by
  intro k o h;cases k with
  |l n=>simp[S.start,jt,Cs,AZ]at h|g k=>
   have h:s.up k=some o:=by simpa[S.start,jt,Cs,AZ]using h
   simp only[S.up]at h;cases ho:s.obj k with
   |none=>simp[ho]at h|some o'=>simp[ho]at h;exact⟨k,o',rfl,ho,h.symm⟩
 have yv:∀k,s.CY k=true->(S.start (DU P tip s Ts ys) s.up).CY (.g k)=true:=by
  intro k h;cases ho:s.obj k with
  |none=>simp[S.CY,Oa,ho]at h|some o=>
   have e:(S.start (DU P tip s Ts ys) s.up).obj (.g k)=some (o.ren .g):=by simp[S.start,jt,Cs,AZ,S.up]at ho ⊢;exact⟨o,ho,rfl⟩
   rw[FV e,O.Sz];rw[FV ho]at h;exact h
 refine⟨c.hH,fun b o h=>?_,fun b o sz h=>?_,fun k o h=>?_,fun k h=>?_,fun k k' b τ τ' h1 h2=>?_,fun m L h=>?_,fun m h=>?_,c.hgl,c.hoo,c.hσ⟩
 ·simp only[G.call]at h;cases hz:Γ.Z b with
  |some o'=>simp[hz]at h;subst h;exact c.hZ b _ hz|none=>
   simp only[hz]at h;cases hk:Γ.κ b with
   |none=>simp[hk]at h|some x=>
    obtain⟨t,sz⟩:=x;cases t with
    |home=>simp[hk]at h|tok t=>
     simp only[hk]at h;split at h;{cases h};{exact h}
 ·cases hk:Γ.κ b with
  |none=>simp[G.call,hk]at h|some x=>
   obtain⟨o',sz'⟩:=x;obtain⟨a1,a2,arr,T,a3,a4,a5⟩:=c.hκ b o' sz' hk;have hT:MN o T:=by
    cases o' with
    |home _ p=>simp[G.call,hk]at h;rw[<-h.1];cases p <;> exact a5
    |tok t=>
     simp only[G.call,hk]at h;cases hi:Ea tip s t 0 ys with
     |none=>simp[hi]at h|some i=>simp[hi]at h;rw[<-h.1];trivial
   have hsz:sz'=sz/\∀t,o'= .tok t->Ea tip s t 0 ys≠none:=by
    cases o' with
    |home=>simp[G.call,hk]at h;exact⟨h.2,fun t e=>by cases e⟩|tok t=>
     simp only[G.call,hk]at h;cases hi:Ea tip s t 0 ys with
     |none=>simp[hi]at h|some i=>simp[hi]at h;exact⟨h.2,fun t' e=>by cases e;rw[hi];simp⟩
   obtain⟨rfl,hix⟩:=hsz;exact⟨jO Γ w tip s ys a1 (fun t sz h=>by rw[hk]at h;cases h;exact hix t rfl),a2,arr,T,a3,a4,hT⟩
 ·obtain⟨k',o',rfl,ho,rfl⟩:=yi k o h;refine(c.obj k' o' ho).imp (fun h=>⟨h.1,O.XR h.2⟩) fun yp=>yp.ren (jP Γ w tip s ys _) (fun hd b τ hb=>?_) (bx _);obtain⟨a1,a2,_⟩:=c.FR hb ho hd;refine⟨rfl,a1,jO Γ w tip s ys a2 fun t sz hk=>?_⟩;exact absurd a1 (c.hκ b _ _ hk).2.1
 ·cases k with
  |l n=>simp[G.call]at h|g k=>
   have h':Γ.ι k≠none:=h;have:=c.dom k h';cases ho:s.obj k with
   |none=>exact absurd ho this|some o=>
    have:(S.start (DU P tip s Ts ys) s.up).obj (.g k)=s.up k:=by simp[S.start,jt,Cs,AZ]
    rw[this,S.up,ho];simp
 ·cases k with|l n=>simp[G.call]at h1|g k=>cases k' with|l n=>simp[G.call]at h2|g k'=>exact(c.inj k k' b τ τ' h1 h2).imp (congrArg Key.g) (ub (wb (yv k) (yv k')) id)
 · -- live tokens are those of arguments
  simp only[S.start,xx,Ed,Tc]at h;by_cases hm:1000<=m
  ·rw[if_pos hm]at h;cases hx:(DU P tip s Ts ys)[m-1000]? with
   |none=>simp[hx]at h|some z=>
    obtain⟨T,y,_,hy,hz⟩:=UA hx;have hlt:m-1000<us.length:=by rw[<-a.z9h];exact(cd.1 hy).1
    have hr:=a.rep _ y _ hy (bo hlt);have hnt:y.bM=true:=by cases y <;> (try rfl);obtain⟨h1,_⟩:=hr;simp only[AA]at h1;obtain⟨_,_,_,_,h0,_⟩:=h1;cases h0
    cases z <;> simp[hx]at h;rename_i eb e cs;subst h;rcases Q5 hz.symm hnt with⟨t,rfl,h2,h3⟩|⟨rfl,h2⟩;{obtain⟨x,h4,h5⟩:=c.tok t _ h3;refine⟨x,by simp[G.call,hm,hy,h2,h4],fun b pos sz hxx=>?_⟩;obtain⟨a1,a2⟩:=h5 b pos sz hxx;refine⟨a1,?_⟩;simp only[G.call,a2,a.ix hy h2];rw[show 1000+(m-1000)=m by omega]};{exact⟨none,by simp[G.call,hm,hy,h2],fun b pos sz h=>by cases h⟩}
  ·rw[if_neg hm]at h;cases h
 ·simp only[G.call]at h;by_cases hm:1000<=m
  ·rw[if_pos hm]at h;cases hy:ys[m-1000]? with
   |none=>simp[hy]at h|some y=>
    simp only[hy]at h;cases ht:DD tip s y with
    |none=>simp[ht]at h|some o=>
     have hlt:m-1000<us.length:=by rw[<-a.z9h];exact(cd.1 hy).1
     have hr:=a.rep _ y _ hy (bo hlt);have hlT:m-1000<Ts.length:=by rw[a.len];exact(cd.1 hy).1
     obtain⟨eb,e,cs,z8t⟩:∃eb e cs,(DU P tip s Ts ys)[m-1000]? =some (.ts eb e cs):=by
      have hl:m-1000<(DU P tip s Ts ys).length:=by rw[Xo a.len];exact(cd.1 hy).1
      cases hz:(DU P tip s Ts ys)[m-1000]? with
      |none=>rw[List.getElem?_eq_none_iff]at hz;omega|some z=>
       obtain⟨T,y',_,hy',hz'⟩:=UA hz;rw[hy]at hy';cases hy';obtain⟨eb,e,cs,h2⟩:=Q4 (P:=P) c hr ht T;exact⟨eb,e,cs,by rw[hz',h2]⟩
     simp[S.start,S.known,Tc,hm,z8t]
  ·rw[if_neg hm]at h;exact absurd rfl h
theorem Q3 (c:AY Γ w s) {us:List Value} (a:Nv P Γ tip s Ts ys us) {i:Nat} {T:TypeId} {y:V} {u:Value} (hy:ys[i]? =some y) (hr:AK Γ y u):
  AK (Γ.call w tip s ys) ((EO P tip s T y).slot (1000+i)) u:=by
 have pr:=jP Γ w tip s ys none;have hd:∀{eb:Nat} {e:Ty} {cs:List C} {vs:List Value},AU Γ.H (.slice eb e) vs (.slice cs)->AU (Γ.call w tip s ys).H (.slice eb e) vs (.slice cs):=fun h=>h;have gen:AK (Γ.call w tip s ys) (y.Cg.ren .g id) u:=AK.Ce pr (V.kW y) hr.Cg;cases y
 case sl eb e cs t=>
  obtain⟨h1,h2⟩:=(Ch rfl rfl).1 hr;simp only[AA]at h1;obtain⟨aa,n,cap,hv,hrc,htk⟩:=h1;simp at hv;subst hv;by_cases hc:tip=true/\s.live t=some cs.length
  ·have ha:DD tip s (.sl eb e cs t)=some (some t):=by simp[DD,hc]
   simp only[EO,if_pos hc,V.slot];refine(Ch rfl rfl).2 ⟨?_,rfl⟩;simp only[AA];obtain⟨x,L,q1,q2,q3⟩:=htk;exact⟨aa,n,cap,rfl,hrc,x,L,by simp[G.call,hy,ha,q1],q2,q3⟩
  ·simp only[EO,if_neg hc,V.slot];exact QL hrc
 case emp eb e=>
  obtain⟨h1,h2⟩:=(Ch rfl rfl).1 hr;simp only[AA]at h1;obtain⟨aa,hv⟩:=h1;simp at hv;subst hv;have hrc:AU (Γ.call w tip s ys).H (.slice eb e) [.slice aa 0 0] (.slice []):=Eg rfl (bx _) (dr _) (by rw[gq];exact dr _) (.inl rfl);by_cases hc:tip=true
  ·have ha:DD tip s (.emp eb e)=some none:=by simp[DD,hc]
   simp only[EO,if_pos hc,V.slot];refine(Ch rfl rfl).2 ⟨?_,rfl⟩;simp only[AA];exact⟨aa,0,0,rfl,hrc,none,0,by simp[G.call,hy,ha],bx _,fun _=>rfl⟩
  ·simp only[EO,if_neg hc,V.slot];exact QL hrc
 case ye=>
  have hts:∀(eb:Nat) (e:Ty),tip=true->AK (Γ.call w tip s ys) (V.slot (1000+i) (.ts eb e [])) (.slice none 0 0):=by
   intro eb e hc;have ha:DD tip s .ye=some none:=by simp[DD,hc]
   simp only[V.slot];refine(Ch rfl rfl).2 ⟨?_,rfl⟩;simp only[AA];exact⟨none,0,0,rfl,Eg rfl (bx _) (dr _) (by rw[gq];exact dr _) (.inl rfl),none,0,by simp[G.call,hy,ha],bx _,fun _=>rfl⟩
  rw[GM hr];simp only[EO];split;{split;{rename_i hc;exact hts _ _ hc};{simp only[V.slot];exact QL (Eg rfl (bx _) (dr _) (by rw[gq];exact dr _) (.inl rfl))}};{split;{rename_i hc;exact hts _ _ hc};{rw[<-GM hr];exact gen}}
 case agg τ vs=>
  simp only[EO];split;{rename_i cc hcc;obtain⟨h1,h2⟩:=hr;simp only[V.slot];exact EA.2 ⟨LC _ h1 hcc,h2⟩};{exact gen}
 case ts=>
  obtain⟨h1,_⟩:=hr;simp only[AA]at h1;obtain⟨_,_,_,_,h0,_⟩:=h1;cases h0
 all_goals exact gen
end
end
section
def rk (d:Nat) (j:Nat):Nat:=1000*(d+1)+j
def Hy (d:Nat) (n:Nat):Option Nat:=if 1000*(d+1)<=n then some (n-1000*(d+1))else none
theorem QP (d j:Nat):Hy d (rk d j)=some j:=by simp[Hy,rk]
theorem Lw {d n j:Nat} (h:Hy d n=some j):rk d j=n:=by unfold Hy at h;split at h;{have:=oz h;unfold rk;omega};{cases h}
def dn (d:Nat):Key->Key
 | .g k=>k| .l j=>.l (rk d j)
def dnL (d:Nat):List (Key × O)->List (Key × O)
 | []=>[]|(k,o)::l=>(dn d k,o.ren (dn d))::dnL d l
def dnT (d:Nat):List (Nat × Option Nat)->List (Nat × Option Nat)
 | []=>[]|(m,x)::l=>(rk d m,x)::dnT d l
def Hc:List Nat->List (Nat × Option Nat)
 | []=>[]|t::l=>(t,none)::Hc l
theorem aJ:∀(l:List Nat) (t:Nat),look (Hc l) t=if t∈l then some none else none
 | [],t=>by simp[Hc,look]
 |u::l,t=>by simp only[Hc,look,aJ l t,List.mem_cons];by_cases h:u=t;{subst h;simp};{have h':t≠u:=fun e=>h e.symm;simp[h,h']}
theorem VZ (d:Nat):∀(l:List (Nat × Option Nat)) (t:Nat),look (dnT d l) t=match Hy d t with|some m=>look l m|none=>none
 | [],t=>by simp only[dnT,look];split <;> rfl
 |(m,x)::l,t=>by
  simp only[dnT,look,VZ d l t];cases h:Hy d t with
  |none=>
   have:rk d m≠t:=by intro e;subst e;rw[QP]at h;cases h
   simp[this]
  |some j=>
   have ht:=Lw h;by_cases hm:m=j;{subst hm;simp[ht]}
   ·have:rk d m≠t:=by intro e;apply hm;have:Hy d (rk d m)=some j:=by rw[e];exact h
                      rw[QP]at this;exact oz this
    simp[this,hm]
def upL (d:Nat) (L:List (Key × O)) (k:Key):Option O:=
 match AZ L (.g k)with
 |some o=>some o|none=>match k with
  | .l n=>match Hy d n with|some j=>AZ L (.l j)|none=>none
  | .g _=>none
def bk (d:Nat):Option (Tip × Nat)->Option (Tip × Nat)
 |some (.home k p,sz)=>some (.home (dn d k) p,sz)|some (.tok m,sz)=>some (.tok (rk d m),sz)|none=>none
def G.back (Γ Γ':G) (tip:Bool) (s:S) (ys:List V) (d:Nat) (v:V) (L:List (Key × O)):G:=
 {H:=Γ'.H
  Z:=Γ.Z
  ι:=fun k=>match k with
   | .l n=>match Hy d n with
    |some j=>match AZ L (.l j)with|some _=>Γ'.ι (.l j)|none=>Γ.ι (.l n)
    |none=>Γ.ι (.l n)
   | .g k=>Γ.ι (.g k)
  τ:=fun t=>match Hy d t with
   |some m=>match look (v.tkR 2000) m with|some _=>Γ'.τ m|none=>Γ.τ t
   |none=>Γ.τ t
  κ:=fun b=>match Γ.κ b with
   |some (.tok u,sz)=>match Ea tip s u 0 ys with|some _=>bk d (Γ'.κ b)|none=>some (.tok u,sz)
   |_=>bk d (Γ'.κ b)
  gl:=Γ.gl
  oo:=Γ.oo
  σ:=Γ'.σ}
def S.back (s:S) (tip:Bool) (ys:List V) (d:Nat) (v:V) (L:List (Key × O)):S:=
 {s with loc:=dnL d L++s.loc,tk:=dnT d (v.tkR 2000)++(Hc (DQ tip s ys)++s.tk)}
theorem LZ {α:Type}:∀(l m:List (Key × α)) (n:Key),AZ (l++m) n=match AZ l n with|some x=>some x|none=>AZ m n
 | [],_,_=>rfl|(j,x)::l,m,n=>by simp only[ow,AZ];split;{rfl};{exact LZ l m n}
theorem aK (d:Nat):∀{L:List (Key × O)} {k:Key} {o:O},AZ (dnL d L) k=some o->(∃j o',dn d j=k/\AZ L j≠none/\o=O.ren (dn d) o')
 | [],_,_,h=>by simp[dnL,AZ]at h
 |(j,o')::L,k,o,h=>by simp only[dnL,AZ]at h;split at h;{rename_i e;cases h;exact⟨j,o',e,by simp[AZ],rfl⟩};{obtain⟨j2,o2,a1,a2,a3⟩:=aK d h;refine⟨j2,o2,a1,?_,a3⟩;simp only[AZ];split <;> simp[a2]}
theorem SA (d:Nat) {s:S}:∀{L:List (Key × O)} {k:Key},(∀k o,AZ L (.g k)=some o->s.obj k≠none)->(∀j o,AZ L (.l j)=some o->s.obj (.l (rk d j))=none)->
  (∀j o,AZ L j=some o->dn d j=k->AZ (dnL d L) k=some (o.ren (dn d)))
 | [],k,_,_,j,o,h,_=>by simp[AZ]at h
 |(i,oi)::L,k,hg,hl,j,o,h,hj=>by
  simp only[AZ]at h;simp only[dnL,AZ];by_cases hij:i=j;{subst hij;simp at h;subst h;simp[hj]}
  ·rw[if_neg hij]at h;have hne:dn d i≠k:=by
    intro e;have hi0:∃oi',AZ ((i,oi)::L) i=some oi':=⟨oi,by simp[AZ]⟩;obtain⟨oi',hi1⟩:=hi0;have hj1:AZ ((i,oi)::L) j=some o:=by simp only[AZ];rw[if_neg hij];exact h
    cases i with
    |g ki=>
     cases j with
     |g kj=>simp only[dn]at e hj;subst e;subst hj;exact hij rfl|l nj=>
      simp only[dn]at e hj;have h1:=hg ki _ hi1;have h2:=hl nj _ hj1;rw[<-e]at hj;rw[hj]at h2;exact h1 h2
    |l ni=>
     cases j with
     |g kj=>
      simp only[dn]at e hj;have h1:=hg kj _ hj1;have h2:=hl ni _ hi1;rw[<-hj]at e;rw[e]at h2;exact h1 h2
     |l nj=>
      simp only[dn]at e hj;rw[<-hj]at e;simp[rk]at e;exact hij (by rw[e])
   rw[if_neg hne]
   exact SA d (L:=L) (fun k0 o0 h0=>by
    by_cases e:i= .g k0;{subst e;exact hg k0 oi (by simp[AZ])}
    ·exact hg k0 o0 (by simp[AZ,e,h0])) (fun j0 o0 h0=>by
    by_cases e:i= .l j0;{subst e;exact hl j0 oi (by simp[AZ])}
    ·exact hl j0 o0 (by simp[AZ,e,h0])) j o h hj
section
variable {P:Program} {Γ Γ':G} {w w':World} {s:S} {tip:Bool} {ys:List V} {Ts:List TypeId} {v:V} {L:List (Key × O)} {d:Nat}
theorem AY.back (c:AY Γ w s) {us:List Value} (a:Nv P Γ tip s Ts ys us) (gle:GLe (Γ.call w tip s ys) Γ') (c':AY Γ' w' (S.fin v L s.up))
  (hg:∀k o,AZ L (.g k)=some o->s.obj k≠none) (hl:∀j o,AZ L (.l j)=some o->s.obj (.l (rk d j))=none) (ht:∀m x,look (v.tkR 2000) m=some x->s.known (rk d m)=false)
  {u:Value} (hv:AK Γ' (v.Da 2000) u):BX Γ w (s.back tip ys d v L) ((v.Da 2000).ren (dn d) (rk d)) u w':=by
 -- facts on the ghosts
 have hZu:∀b t sz,Γ.κ b=some (.tok t,sz)->Ea tip s t 0 ys=none->(Γ.call w tip s ys).Z b≠none:=by intro b t sz hk hi;obtain⟨a1,_,arr,T,a3,_⟩:=c.hκ b _ _ hk;simp only[G.call,a1,hk,hi,a3];simp
 have hZ0:∀b,Γ.Z b≠none->(Γ.call w tip s ys).Z b≠none:=by
  intro b h;cases hz:Γ.Z b with
  |none=>exact absurd hz h|some o=>simp[G.call,hz]
 have hιg:∀k x,Γ.ι k=some x->Γ'.ι (.g k)=some x:=fun k x h=>gle.g k x h;have z95:∀j,AZ L (.l j)≠none->Γ.ι (.l (rk d j))=none:=by
  intro j h;cases ho:AZ L (.l j)with
  |none=>exact absurd ho h|some o=>exact c.Qd (hl j o ho)
 have z8B:∀k,(S.fin v L s.up).obj k=match AZ L k with|some o=>some o|none=>match k with| .g k=>s.up k| .l _=>none:=fun k=>rfl
 have hκn:∀b x,Γ'.κ b=some x->(Γ.back Γ' tip s ys d v L).κ b=bk d (some x):=by
  intro b x h;have hz:=(c'.hκ b x.1 x.2 (by rw[h])).1;rw[gle.Z]at hz;simp only[G.back];cases hk:Γ.κ b with
  |none=>simp[h]|some y=>
   obtain⟨o,sz⟩:=y;cases o with
   |home=>simp[h]|tok t=>
    simp only;cases hi:Ea tip s t 0 ys with
    |some i=>simp[h]|none=>exact absurd hz (hZu b t sz hk hi)
 have hτn:∀m x,Γ'.τ m=some x->(Γ.back Γ' tip s ys d v L).τ (rk d m)=some x:=by intro m x h;have hk:=c'.yu m (by rw[h];simp);have hk':(look (v.tkR 2000) m).isSome=true:=hk;obtain⟨y,hy⟩:=Option.isSome_iff_exists.1 hk';simp[G.back,QP,hy,h]
 have hιn:∀k x,Γ'.ι k=some x->(Γ.back Γ' tip s ys d v L).ι (dn d k)=some x:=by
  intro k x h;cases k with
  |l j=>
   have hd:=c'.dom (.l j) (by rw[h];simp);rw[z8B]at hd;cases ho:AZ L (.l j)with
   |none=>simp[ho]at hd|some o=>simp[G.back,dn,QP,ho,h]
  |g k=>
   have hd:=c'.dom (.g k) (by rw[h];simp);rw[z8B]at hd;have hsk:s.obj k≠none:=by
    cases ho:AZ L (.g k)with
    |none=>
     simp only[ho,S.up]at hd;intro e;rw[e]at hd;simp at hd
    |some o=>exact hg k o ho
   cases hso:s.obj k with
   |none=>exact absurd hso hsk|some o=>
    rcases c.obj k o hso with hn|yp;{rw[gle.gn k hn.1]at h;cases h};obtain⟨b,τ,e1,_⟩:=yp.block;have e2:=hιg k _ e1;rw[h]at e2;cases e2;simp only[dn];cases k with
    |g k=>exact e1|l n=>
     simp only[G.back];split;{rename_i j hj;split;{rename_i o' ho';have:=hl j o' ho';rw[Lw hj]at this;exact absurd this hsk};{exact e1}};{exact e1}
 have pr:∀hm,HH Γ' (Γ.back Γ' tip s ys d v L) (dn d) hm:=fun hm=>
  ⟨gy _,hιn,fun _ _ h=>h,fun k b p sz _ h=>⟨by rw[hκn b _ h];rfl,rfl⟩⟩
 have hp:Bg Γ (Γ.back Γ' tip s ys d v L):=by
  refine⟨gle.H,fun k x h=>?_,fun t x M h=>⟨x,M,?_,bx _,fun _=>rfl⟩,fun b sz h=>gle.σ b sz h⟩
  ·cases k with
   |g k=>exact h|l n=>
    simp only[G.back];split;{rename_i j hj;split;{rename_i o ho;have:=z95 j (by rw[ho];simp);rw[Lw hj,h]at this;cases this};{exact h}};{exact h}
  ·simp only[G.back];split;{rename_i m hm;split;{rename_i y hy;have:=ht m y hy;rw[Lw hm]at this;have hk:=c.yu t (by rw[h];simp);rw[this]at hk;cases hk};{exact h}};{exact h}
 have z8z:∀k,(s.back tip ys d v L).obj k=match AZ (dnL d L) k with|some o=>some o|none=>s.obj k:=by intro k;unfold jt Cs S.back;simp only[LZ];cases AZ (dnL d L) k <;> rfl
 have hZn:∀b,Γ'.Z b=none->Γ.Z b=none:=by
  intro b h;rw[gle.Z]at h;cases hz:Γ.Z b with
  |none=>rfl|some o=>have:=hZ0 b (by rw[hz];simp);rw[h]at this;exact absurd rfl this
 have z9L:∀k,(S.fin v L s.up).obj k≠none->Γ'.ι k=none->(Γ.back Γ' tip s ys d v L).ι (dn d k)=none:=by
  intro k h hn;have hι0:∀k',k= .g k'->Γ.ι k'=none:=by
   intro k' e;subst e;cases hx:Γ.ι k' with
   |none=>rfl|some x=>rw[hιg k' x hx]at hn;cases hn
  rw[z8B]at h;cases k with
  |l j=>
   cases ho:AZ L (.l j)with
   |none=>simp[ho]at h|some o=>simp[G.back,dn,QP,ho,hn]
  |g k=>
   have hsk:s.obj k≠none:=by
    cases ho:AZ L (.g k)with
    |none=>
     simp only[ho,S.up]at h;intro e;rw[e]at h;simp at h
    |some o=>exact hg k o ho
   have h0:=hι0 k rfl;cases k with
   |g k=>exact h0|l n=>
    show(match Hy d n with
     |some j=>match AZ L (.l j)with|some _=>Γ'.ι (.l j)|none=>Γ.ι (.l n)
     |none=>Γ.ι (.l n))=none
    split;{rename_i j hj;split;{rename_i o' ho';exact absurd (Lw hj ▸ hl j o' ho') hsk};{exact h0}};{exact h0}
 have down:∀k o,(S.fin v L s.up).obj k=some o->((Γ.back Γ' tip s ys d v L).ι (dn d k)=none/\(o.ren (dn d)).Jr)\/Own (Γ.back Γ' tip s ys d v L) w' (dn d k) (o.ren (dn d)):=by intro k o h;refine(c'.obj k o h).imp (fun h1=>⟨z9L k (by rw[h];simp) h1.1,O.XR h1.2⟩) fun yp=>yp.ren (pr _) (fun hd b τ hb=>?_) (bx _);obtain⟨a1,a2,_⟩:=c'.FR hb h hd;exact⟨rfl,a1,hZn b a2⟩
 have yv:∀k,(S.fin v L s.up).CY k=true->(s.back tip ys d v L).CY (dn d k)=true:=by
  intro k h;unfold S.CY at h ⊢;rw[z8B]at h;rw[z8z];cases ho:AZ L k with
  |some o=>
   rw[ho]at h;rw[SA d hg hl k o ho rfl];show(o.ren _).FL=true;rw[O.Sz];exact h
  |none=>
   rw[ho]at h;cases k with
   |l n=>cases h
   |g k=>
    simp only[dn];cases hs:s.obj k with
    |none=>simp[S.up,hs,Oa]at h|some o=>
     have:AZ (dnL d L) k=none:=by
      cases hk:AZ (dnL d L) k with
      |none=>rfl|some o1=>
       obtain⟨j,_,e1,e2,_⟩:=aK d hk;cases j with
       |g j=>simp only[dn]at e1;subst e1;exact absurd ho e2|l j=>
        cases hj:AZ L (.l j)with
        |none=>exact absurd hj e2|some oj=>
         have:=hl j oj hj;simp only[dn]at e1;rw[e1,hs]at this;cases this
     rw[this];simp only[S.up,hs,gj,Oa]at h ⊢;rw[O.Sz]at h;exact h
 refine⟨Γ.back Γ' tip s ys d v L,⟨gle.H,rfl,fun b h=>gle.ZH b (hZ0 b h),fun _ _ h=>h,rfl,rfl,fun b sz h=>gle.σ b sz h,fun _ h=>h⟩,hp,?_,hv.ren (pr none) hτn⟩;refine⟨c'.hH,fun b o h=>?_,fun b o sz h=>?_,fun k o h=>?_,fun k h=>?_,fun k k' b τ τ' h1 h2=>?_,fun t M h=>?_,fun t h=>?_,fun g τ cc h=>?_,by rw[c'.hoo,gle.oo];rfl,c'.hσ⟩;{exact c'.hZ b o (by rw[gle.Z];simp[G.call,show Γ.Z b=some o from h])}
 · -- rooms
  have other:∀x,Γ'.κ b=some x->x.2=sz->Γ.Z b=none/\Γ'.H b≠none/\∃arr T,w'.heap[b]? =some (.cells arr T (0,0))/\arr.size=sz/\MN x.1 T:=by intro x hx e;obtain⟨a1,a2,a3⟩:=c'.hκ b x.1 x.2 hx;rw[e]at a3;exact⟨hZn b a1,a2,a3⟩
  have bkc:∀{x},bk d (Γ'.κ b)=some x->x.2=sz->Γ.Z b=none/\Γ'.H b≠none/\∃arr T,w'.heap[b]? =some (.cells arr T (0,0))/\arr.size=sz/\MN x.1 T:=by
   intro x hx e;cases hk':Γ'.κ b with
   |none=>rw[hk']at hx;simp[bk]at hx|some y=>
    have hz:y.2=sz:=by obtain⟨o',sz'⟩:=y;rw[hk']at hx;cases o' <;> simp[bk]at hx <;> subst hx <;> exact e
    obtain⟨q1,q2,arr,T,q3,q4,q5⟩:=other y hk' hz;refine⟨q1,q2,arr,T,q3,q4,?_⟩;obtain⟨o',sz'⟩:=y;rw[hk']at hx;cases o' with
    |home _ p=>simp[bk]at hx;subst hx;cases p <;> exact q5
    |tok=>simp[bk]at hx;subst hx;trivial
  simp only[G.back]at h;cases hk:Γ.κ b with
  |none=>simp only[hk]at h;exact bkc h rfl|some y=>
   obtain⟨o0,sz0⟩:=y;cases o0 with
   |home=>simp only[hk]at h;exact bkc h rfl|tok t=>
    simp only[hk]at h;cases hi:Ea tip s t 0 ys with
    |some i=>simp only[hi]at h;exact bkc h rfl|none=>
     simp[hi]at h;obtain⟨rfl,rfl⟩:=h;obtain⟨a1,a2,arr,T,a3,a4⟩:=c.hκ b _ _ hk;have hz:=hZu b t sz0 hk hi;have hH:Γ'.H b=Γ.H b:=gle.ZH b hz;have hw:w'.heap[b]? =w.heap[b]?:=by
      have:Γ'.Z b=w.heap[b]?:=by rw[gle.Z];simp[G.call,a1,hk,hi]
      rw[a3]at this ⊢;exact c'.hZ b _ this
     exact⟨a1,by show Γ'.H b≠none;rw[hH];exact a2,arr,T,by rw[hw];exact a3,a4⟩
 · -- objects
  rw[z8z]at h;cases hk:AZ (dnL d L) k with
  |some o1=>
   rw[hk]at h;cases h;obtain⟨j,_,e1,e2,_⟩:=aK d hk;cases hj:AZ L j with
   |none=>exact absurd hj e2|some oj=>
    have:=SA d hg hl j oj hj e1;rw[hk]at this;cases this;rw[<-e1];exact down j oj (by rw[z8B,hj])
  |none=>
   rw[hk]at h;have hLg:AZ L (.g k)=none:=by
    cases ho:AZ L (.g k)with
    |none=>rfl|some o0=>
     have this:AZ (dnL d L) k=_:=SA d hg hl (.g k) o0 ho rfl;rw[hk]at this;cases this
   have:=down (.g k) (o.ren .g) (by rw[z8B,hLg];simp only[S.up,h];rfl)
   rwa [O.Ka .g (dn d) (fun _=>rfl)]at this
 · -- every handle's object is there
  rw[z8z];cases hk:AZ (dnL d L) k with
  |some o=>simp|none=>
   simp only;cases k with
   |g k=>exact c.dom _ h|l n=>
    simp only[G.back]at h;split at h;{rename_i j hj;split at h;{rename_i o ho;have:=SA d hg hl (.l j) o ho (by simp only[dn];rw[Lw hj]);rw[hk]at this;cases this};{exact c.dom _ h}};{exact c.dom _ h}
 · -- blocks stay apart
  have key:∀k b τ,(Γ.back Γ' tip s ys d v L).ι k=some (b,τ)->(Γ.ι k=some (b,τ)/\Γ'.ι (.g k)=some (b,τ))\/∃j,k= .l (rk d j)/\Γ'.ι (.l j)=some (b,τ):=by
   intro k b τ h;cases k with
   |g k=>exact .inl ⟨h,hιg _ _ h⟩|l n=>
    simp only[G.back]at h;split at h;{rename_i j hj;split at h;{exact .inr ⟨j,by rw[Lw hj],h⟩};{exact .inl ⟨h,hιg _ _ h⟩}};{exact .inl ⟨h,hιg _ _ h⟩}
  rcases key k b τ h1 with⟨e1,e2⟩|⟨j,e1,e2⟩ <;> rcases key k' b τ' h2 with⟨f1,f2⟩|⟨j',f1,f2⟩;{exact(c'.inj _ _ _ _ _ e2 f2).imp (fun e=>by cases e;rfl) (ub (wb (yv _) (yv _)) id)};{subst f1;exact(c'.inj _ _ _ _ _ e2 f2).imp (fun e=>by cases e) (ub (wb (yv _) (yv _)) id)};{subst e1;exact(c'.inj _ _ _ _ _ e2 f2).imp (fun e=>by cases e) (ub (wb (yv _) (yv _)) id)};{subst e1;subst f1;exact(c'.inj _ _ _ _ _ e2 f2).imp (fun e=>by cases e;rfl) (ub (wb (yv _) (yv _)) id)}
 · -- live tokens
  simp only[S.back,xx,Ed,NG,VZ]at h;cases hr:Hy d t with
  |some m=>
   simp only[hr]at h;cases hm:look (v.tkR 2000) m with
   |some y=>
    simp only[hm]at h;cases y with
    |none=>simp at h|some M'=>
     simp at h;subst h;obtain⟨x,a1,a2⟩:=c'.tok m M' (by unfold xx Ed;rw[show(S.fin v L s.up).tk=v.tkR 2000 from rfl,hm]);refine⟨x,by simp[G.back,hr,hm,a1],fun b pos sz hx=>?_⟩;obtain⟨a3,a4⟩:=a2 b pos sz hx;refine⟨a3,?_⟩;rw[hκn b _ a4];simp only[bk,Lw hr]
   |none=>
    simp only[hm]at h;rw[aJ]at h;by_cases hp':t∈DQ tip s ys;{simp[hp']at h}
    ·simp only[hp',if_false]at h;obtain⟨x,a1,a2⟩:=c.tok t M h;refine⟨x,by simp[G.back,hr,hm,a1],fun b pos sz hx=>?_⟩;obtain⟨⟨l,a3,a5⟩,a4⟩:=a2 b pos sz hx;have hi:Ea tip s t 0 ys=none:=by
      cases hi:Ea tip s t 0 ys with
      |none=>rfl|some i=>obtain⟨k,y,_,h2,h3⟩:=Tw hi;exact absurd (SG h2 h3) hp'
     have hH:Γ'.H b=Γ.H b:=gle.ZH b (hZu b t sz a4 hi);exact⟨⟨l,by show Γ'.H b=some l;rw[hH];exact a3,a5⟩,by simp[G.back,a4,hi]⟩
  |none=>
   simp only[hr]at h;rw[aJ]at h;by_cases hp':t∈DQ tip s ys;{simp[hp']at h}
   ·simp only[hp',if_false]at h;obtain⟨x,a1,a2⟩:=c.tok t M h;refine⟨x,by simp[G.back,hr,a1],fun b pos sz hx=>?_⟩;obtain⟨⟨l,a3,a5⟩,a4⟩:=a2 b pos sz hx;have hi:Ea tip s t 0 ys=none:=by
     cases hi:Ea tip s t 0 ys with
     |none=>rfl|some i=>obtain⟨k,y,_,h2,h3⟩:=Tw hi;exact absurd (SG h2 h3) hp'
    have hH:Γ'.H b=Γ.H b:=gle.ZH b (hZu b t sz a4 hi);exact⟨⟨l,by show Γ'.H b=some l;rw[hH];exact a3,a5⟩,by simp[G.back,a4,hi]⟩
 · -- known tokens
  simp only[S.back,S.known,NG,VZ];have old:Γ.τ t≠none->(look s.tk t).isSome=true:=fun h=>c.yu t h;have z9M:Γ.τ t≠none->(match look (Hc (DQ tip s ys)) t with|some x=>some x|none=>look s.tk t).isSome=true:=by
   intro h;cases hd:look (Hc (DQ tip s ys)) t with
   |some y=>rfl|none=>exact old h
  simp only[G.back]at h;cases hr:Hy d t with
  |some m=>
   simp only[hr]at h;simp only;cases hm:look (v.tkR 2000) m with
   |some y=>rfl|none=>simp only[hm]at h;have:=z9M h;revert this;cases look (Hc (DQ tip s ys)) t <;> simp
  |none=>simp only[hr]at h;have:=z9M h;revert this;cases look (Hc (DQ tip s ys)) t <;> simp
 ·have h':(Γ.call w tip s ys).gl g=some (τ,cc):=h;rw[<-gle.gl]at h';exact c'.hgl g τ cc h'
end
end
section
def JR (P:Program) (f:FuncId):Bool:=
 match P.funcs[f]? with
 |some fn=>fn.name != "runtime.NumGoroutine" &&fn.body.isSome
 |none=>false
section
variable {P:Program} {Γ:G} {w:World} {s:S}
theorem xP {f:FuncId} (h:JR P f=true) (args:Array Value) (w:World):(callFunc f args).run P w= .ok (.enter f args) w:=by
 unfold JR at h;cases hf:P.funcs[f]? with
 |none=>simp[hf]at h|some fn=>
  simp[hf]at h;obtain⟨h1,h2⟩:=h;cases hb:fn.body with
  |none=>simp[hb]at h2|some b=>simp[callFunc,hf,h1,hb]
theorem q78 {x:V} {v:Value} (h1:AA Γ none [] x v.cells.toList) (h2:Bi v=x.ty.isAgg):AK Γ x v:=by cases x <;> first|exact⟨h1,h2⟩|trivial|(simp only[AA]at h1)
theorem jR:∀{xs:List V} {vs:List Value},Bb Γ xs vs->xs.length=vs.length/\∀(i:Nat) x v,xs[i]? =some x->vs[i]? =some v->AK Γ x v
 | [],vs,h=>by simp only[Bb]at h;subst h;simp
 |x::xs,vs,h=>by
  simp only[Bb]at h;obtain⟨v,vs',rfl,h2,h3,h4⟩:=h;obtain⟨e1,e2⟩:=jR h4;refine⟨by simp[e1],fun i y u hy hu=>?_⟩;cases i with
  |zero=>simp at hy hu;subst hy;subst hu;exact q78 h2 h3|succ i=>exact e2 i y u (by simpa using hy) (by simpa using hu)
theorem Wh {f:FuncId} {yg:List V} {v:Value} (h:AK Γ (.fn f yg) v):∃cv:Array Value,v= .func (.func f) #[] cv/\yg.length=cv.toList.length/\∀(i:Nat) x u,yg[i]? =some x->cv.toList[i]? =some u->AK Γ x u:=by obtain⟨h1,_⟩:=(Ch rfl rfl).1 h;simp only[AA]at h1;obtain⟨cv,hv,hc⟩:=h1;simp at hv;obtain⟨e1,e2⟩:=jR hc;exact⟨cv,hv,e1,e2⟩
def FA (as:List V) (yg:List V):List V:=as++yg
def Ju (ts:List TypeId) (yg:List V):List TypeId:=ts++List.replicate yg.length 0
mutual
theorem V.bU:∀(x:V),x.BW=true->(x.ren .g id).ok CQ CQ=true
 | .sl _ _ _ _,h=>by simp[V.BW]at h
 | .agg _ vs,h| .fn _ vs,h| .tup vs,h=>by simp only[V.ren,V.ok];exact V.tL vs (by simpa[V.BW]using h)
 | .ptr _ _ _,_| .mp _,_| .sr _ _ _ _ _ _ _,_| .d _ _,_| .ts _ _ _,_| .emp _ _,_| .ye,_| .yf _ _,_| .top _,_| .any,_=>by simp[V.ren,V.ok]
theorem V.tL:∀(xs:List V),V.DB xs=true->V.oks CQ CQ (V.Dt .g id xs)=true
 | [],_=>rfl|x::xs,h=>by simp only[V.DB,bg]at h;simp only[V.Dt,V.oks,bg];exact⟨V.bU x h.1,V.tL xs h.2⟩
end
theorem tI:∀(es:List (C × V)),(∀(i:Nat) (c:C × V),es[i]? =some c->c.2.BW=true)->V.Ds CQ CQ (es.map fun c=>(c.1,c.2.ren .g id))=true
 | [],_=>rfl|x::xs,h=>by simp only[dt,V.Ds,bg];exact⟨V.bU _ (h 0 x rfl),tI xs fun i c hc=>h (i+1) c (by simpa using hc)⟩
mutual
theorem AA.okl {f:Nat->Bool} {g:Nat->Bool} {hm:Option Key}:∀(x:V) {p:List Nat} {vs:List Value},x.ty.FG=true->AA Γ hm p x vs->x.ok f g=true
 | .d _ _,_,_,_,_=>by simp only[V.ok]
 | .agg τ xs,_,_,ht,h=>by simp only[AA]at h;simp only[V.ok];exact Ag.okl xs (by simpa[qk]using ht) h.2.2.2.2
 | .top _,_,_,_,_=>by simp only[V.ok]
 | .any,_,_,_,_=>by simp only[V.ok]
 | .tup _,_,_,ht,_=>by simp[qk,Ty.FG]at ht
 | .sl _ _ _ _,_,_,ht,_| .ts _ _ _,_,_,ht,_| .emp _ _,_,_,ht,_| .ye,_,_,ht,_| .ptr _ _ _,_,_,ht,_| .yf _ _,_,_,ht,_| .sr _ _ _ _ _ _ _,_,_,ht,_| .mp _,_,_,ht,_| .fn _ _,_,_,ht,_=>by simp[qk,Ty.FG]at ht
theorem Ag.okl {f:Nat->Bool} {g:Nat->Bool} {hm:Option Key}:∀(xs:List V) {p:List Nat} {i:Nat} {τ:Ty} {vs:List Value},τ.FG=true->Ag Γ hm p i τ xs vs->V.oks f g xs=true
 | [],_,_,_,_,_,_=>by simp only[V.oks]
 |x::xs,_,_,_,_,ht,h=>by simp only[Ag]at h;simp only[V.oks,bg];obtain⟨⟨o,f',h1,h2,h3,h4⟩,h5⟩:=h;exact⟨AA.okl x (by rw[h2];exact wQ ht h1) h4,Ag.okl xs ht h5⟩
end
theorem tE {f:Nat->Bool} {g:Nat->Bool}:∀(es:List (C × V)),(∀(i:Nat) (c:C × V),es[i]? =some c->c.2.ok f g=true)->V.Ds f g es=true
 | [],_=>rfl|x::xs,h=>by simp only[V.Ds,bg];exact⟨h 0 x rfl,tE xs fun i c hc=>h (i+1) c (by simpa using hc)⟩
theorem AY.Q0 (c:AY Γ w s):AOk s.up:=by
 intro k o h;unfold S.up at h;cases ho:s.obj k with
 |none=>simp[ho]at h|some o0=>
  simp only[ho,gj,Option.some.injEq]at h;subst h;rcases c.obj k o0 ho with⟨_,hv⟩|yp
  ·cases o0 with
   |box x=>obtain⟨e,rfl⟩:=hv;rfl
   |dead=>rfl|_=>exact hv.elim
  ·cases o0 with
   |box x=>
    obtain⟨b,cells,T,_,_,_,_,_,_,_,h8⟩:=yp;exact V.bU x h8
   |map kτ vτ es=>
    obtain⟨b,ms,clock,_,_,_,_,h5,h6,_⟩:=yp;cases hrl:vτ.FG
    case true=>
     simp only[O.ren,hrl,cond_true,O.ok];refine tE es fun i cc hcc=>?_;have hlt:i<ms.size:=by rw[h5];exact(cd.1 hcc).1
     obtain⟨_,_,a3,_,a5,_⟩:=h6 i ms[i] cc (dw hlt) hcc;exact AA.okl cc.2 (by rw[a5];exact hrl) a3
    simp only[O.ren,hrl,cond_false,O.ok];refine tI es fun i cc hcc=>?_;have hlt:i<ms.size:=by rw[h5];exact(cd.1 hcc).1
    exact(h6 i ms[i] cc (dw hlt) hcc).2.2.2.2.2.2
   |it=>rfl|dead=>rfl
theorem lJ {X:Cx} (hX:X.P=P) (hgl:Γ.gl=X.gl) (c:AY Γ w s) {o:Oper} {a:Act} {fo:Operand} {f:FuncId} {yg:List V} {as:Array Operand} {ts:Array TypeId} {ρa:Operand->V} {tip:Bool} {A:Key->Option O} {v:V} {L:List (Key × O)} {d:Nat}
  (ho:o.op= .call {callee:=.value fo,args:=as,argTypes:=ts}) (z9i:JR P f=true) (hts:ts.toList.length=as.toList.length)
  (hf:AK Γ (.fn f yg) (a.eval fo)) (hr:∀y∈as.toList,AK Γ (ρa y) (a.eval y)) (hnd:HB (DQ tip s (FA (as.toList.map ρa) yg))=true)
  (D:Cc X f (DU P tip s (Ju ts.toList yg) (FA (as.toList.map ρa) yg)) A v L) (hA:∀k o,A k=some o->s.up k=some o)
  (hg:∀k o,AZ L (.g k)=some o->s.obj k≠none) (hl:∀j o,AZ L (.l j)=some o->s.obj (.l (rk d j))=none) (ht:∀m x,look (v.tkR 2000) m=some x->s.known (rk d m)=false):
  BU P o a w (BX Γ w (s.back tip (FA (as.toList.map ρa) yg) d v L) ((v.Da 2000).ren (dn d) (rk d))):=by
 subst hX;obtain⟨cv,hfv,hcl,hcr⟩:=Wh hf;have run:(execOp a.eval o).run X.P w= .ok (.enter f (as.map a.eval++cv)) w:=by unfold execOp;simp[ho,resolve,hfv,Deferred.ofValue,invoke,xP z9i]
 have ha:Nv X.P Γ tip s (Ju ts.toList yg) (FA (as.toList.map ρa) yg) (as.map a.eval++cv).toList:=by
  refine⟨by simp[Ju,FA]at hts ⊢;omega,by simp[FA]at hcl ⊢;omega,fun i y u hy hu=>?_,hnd⟩;simp only[FA]at hy;simp only[Array.toList_append,Array.toList_map]at hu;by_cases hi:i<as.toList.length
  ·rw[ft (by simpa using hi)]at hy;rw[ft (by simpa using hi)]at hu;simp only[db]at hy hu;cases he:as.toList[i]? with
   |none=>simp[he]at hy|some z=>
    simp[he]at hy hu;subst hy;subst hu;exact hr z (fa he)
  ·rw[gh (by simpa using hi)]at hy;rw[gh (by simpa using hi)]at hu;simp only[List.length_map]at hy hu;exact hcr _ y u hy hu
 refine BU.enter run ?_;have cc:=c.call ha;refine(D s.up (Γ.call w tip s _) w (as.map a.eval++cv) hA hgl ⟨cc,c.Q0⟩ ?_ fun i x u hx hu=>?_).mono ?_;{rw[Xo ha.len,ha.z9h];simp}
 ·rw[TQ]at hx;cases hz:(DU X.P tip s (Ju ts.toList yg) (FA (as.toList.map ρa) yg))[i]? with
  |none=>simp[hz]at hx|some z=>
   simp[hz]at hx;subst hx;obtain⟨T,y,_,hy,rfl⟩:=UA hz;have hu':(as.map a.eval++cv).toList[i]? =some u:=by rw[Array.getElem?_toList];exact hu
   exact Q3 c ha hy (ha.rep i y u hy hu')
 ·rintro e w' ⟨u,Γ',rfl,gle,c',hv⟩;exact⟨u,rfl,c.back ha gle c' hg hl ht hv⟩
end
end
section
def Fz {α:Type}:List (C × α)->C->Option α
 | [],_=>none|(k,v)::es,c=>if sc c k=true then some v else Fz es c
def FF {α:Type}:List (C × α)->C->α->List (C × α)
 | [],c,v=>[(c,v)]|(k,u)::es,c,v=>if sc c k=true then(k,v)::es else(k,u)::FF es c v
def Eu {α:Type}:List (C × α)->C->Nat->Option Nat
 | [],_,_=>none|(k,_)::es,c,i=>if sc c k=true then some i else Eu es c (i+1)
def Ht (P:Program) (T:TypeId):Option (TypeId × TypeId):=match P.underlying T with|some (.map k e)=>some (k,e)|_=>none
section
variable {P:Program}
theorem eG (hP:BS P=true) (em:Bool):∀(f d:Nat) (T:TypeId),GV P f T=true->f<=d->∀(H:Hp) (a:Value) (c:C) (w:World),AU H (tyF P f T) a.cells.toList c->Bi a=(tyF P f T).isAgg->(jo em d T a).run P w= .ok () w
 |0,_,_,h,_=>by simp[GV]at h
 |f+1,0,_,_,hd=>by omega
 |f+1,d+1,T,h,hd=>by
  intro H a c w ra ha;simp only[GV,bg,decide_eq_true_eq]at h;obtain⟨hT,h⟩:=h;have ho:=Iz hP hT;unfold okT at ho;unfold tyF at ra ha;rw[if_pos hT]at ra ha;cases hu:P.underlying T with
  |none=>simp[hu]at h|some kd=>
   cases kd <;> simp only[hu,fq]at h ra ha ho
   case bool=>simp[jo,run_underlying hu]
   case int k=>simp[jo,run_underlying hu]
   case string=>simp[jo,run_underlying hu]
   case array n E=>
    simp[ja]at ha;cases a <;> simp[Bi]at ha;rename_i xs;simp only[ek]at ra;simp at ho;obtain⟨i,hi⟩:∃i,P.info? E=some i:=by
     cases hi:P.info? E with
     |none=>simp[Tables.info?,ho.2]at hi|some i=>exact⟨i,rfl⟩
    rw[jo];simp only[cz,run_underlying hu,cu];simp only[wq,wu,rj,Nat.add_one_sub_one,Nat.div_one];have each:∀j∈List.range' 0 n,j<n:=fun j hj=>by simp[List.mem_range']at hj;omega
    generalize List.range' 0 n=is at each
    induction is with
    |nil=>simp|cons j is ih=>
     obtain⟨g,rfl,hE,hk⟩:=Ui h;have hin:=each j (by simp);have hch:(Ty.arr n (tyF P (g+1) E)).child j=some (j*(tyF P (g+1) E).size,tyF P (g+1) E):=by simp only[jq];rw[if_pos hin]
     obtain⟨_,b1,r1⟩:=ra.get hch;obtain⟨u,p1,p2,p3⟩:=Lx (f:=g) hP hE rfl hk (by simpa using b1) ra.one w;have q:=eG hP em (g+1) d E h (by omega) H u _ w (p2 ▸ r1) p3;rw[Dq hP]at p1;have hsz:(sizeOf E).run P w= .ok (P.cellsOf E) w:=by
      have:=JD (f:=g+1) hP (w:=w) hE
      rwa [Dq hP]at this
     simp only[wj,cz,hsz,cu,p1,q,ej];exact ih (fun y hy=>each y (by simp[hy]))
   case struct fs=>
    simp[ja]at ha;cases a <;> simp[Bi]at ha;rename_i xs;simp only[ek]at ra;simp only[AU]at ra;obtain⟨cs,rfl,_,o1,f1⟩:=ra;simp only[bg,Bool.not_eq_true',dv,bne_iff_ne,ne_eq]at h;rw[jo];simp only[cz,run_underlying hu,cu];rw[<-Array.forIn_toList];have yq:=h.2;generalize fs.toList=L at f1 yq
    induction L generalizing cs with
    |nil=>simp|cons g L ih=>
     simp only[dt,CN]at f1;obtain⟨c,cs,rfl,b1,r1,f1⟩:=f1;obtain⟨hn,hok⟩:=yq g (by simp);obtain⟨f',rfl,hE,hk⟩:=Ui hok;obtain⟨u,p1,p2,p3⟩:=Lx (f:=f') hP hE rfl hk (by simpa using b1) o1 w;have q:=eG hP em (f'+1) d g.type hok (by omega) H u _ w (p2 ▸ r1) p3;simp only[wj,cz,hn,ne_eq,not_false_eq_true,if_true,cu,p1,q,ej];exact ih cs f1 (fun y hy=>yq y (by simp[hy]))
def HJ (H:Hp) (kτ:Ty) {α:Type}:List MapEntry->List (C × α)->Prop
 | [],[]=>True|m::ms,c::cs=>AU H kτ m.key.cells.toList c.1/\Bi m.key=kτ.isAgg/\HJ H kτ ms cs|_,_=>False
theorem xV (hP:BS P=true) {kt:TypeId} (hok:Cr P kt=true) {H:Hp} {k:Value} {c:C} (rk:AU H (ty P kt) k.cells.toList c) (hk:Bi k=(ty P kt).isAgg) (w:World) {α:Type}:
  ∀(ms:List MapEntry) (cs:List (C × α)) (i:Nat),HJ H (ty P kt) ms cs->(qq kt k ms i).run P w= .ok ((Eu cs c i).bind fun j=>(ms[j-i]?).map fun m=>(j,m.val)) w
 | [],[],i,_=>by simp[qq,Eu]
 |m::ms,(c1,v1)::cs,i,h=>by
  simp only[HJ]at h;have he:=xT hP hok w rk hk h.1 h.2.1;have ih:=xV hP hok rk hk w ms cs (i+1) h.2.2;simp only[qq,cz,he,cu,Eu];cases hc:sc c c1 with
  |true=>simp|false=>
   simp only[fq,if_false,ih];cases hf:Eu cs c (i+1)with
   |none=>rfl|some j=>
    have hj:i+1<=j:=by
     have:∀(cs:List (C × α)) (i j:Nat),Eu cs c i=some j->i<=j:=by
      intro cs
      induction cs with
      |nil=>intro i j h;simp[Eu]at h|cons x cs ih=>
       intro i j h;obtain⟨a,b⟩:=x;simp only[Eu]at h;split at h;{cases h;exact bx _};{have:=ih _ _ h;omega}
     exact this cs _ _ hf
    simp only[gm];rw[show j-i=(j-(i+1))+1 by omega,fu]
 | [],_::_,_,h=>by simp[HJ]at h
 |_::_,[],_,h=>by simp[HJ]at h
theorem q8D (hP:BS P=true) {kt:TypeId} (hok:Cr P kt=true) {H:Hp} {d:TypeDesc} (hd:P.underlying kt=some d) {k k':Value} {c c':C} (rk:AU H (ty P kt) k.cells.toList c) (hk:Bi k=(ty P kt).isAgg)
  (rk':AU H (ty P kt) k'.cells.toList c') (hk':Bi k'=(ty P kt).isAgg):nm d k k'=none\/nm d k k'=some (sc c c'):=by
 unfold Cr at hok;simp only[bg]at hok;have h:=hok.1;simp only[GV,bg,decide_eq_true_eq]at h;obtain⟨hT,h⟩:=h;unfold ty tyF at rk hk rk' hk';rw[if_pos hT]at rk hk rk' hk';cases d <;> simp only[hd,fq]at h rk hk rk' hk'
 case bool=>
  rw[DX (by simpa[ja]using hk)]at rk;rw[DX (by simpa[ja]using hk')]at rk';simp only[AU]at rk rk';obtain⟨x,rfl,e1⟩:=rk;obtain⟨y,rfl,e2⟩:=rk';simp at e1 e2;subst e1;subst e2;right;simp[nm,C.mQ]
 case int kk=>
  rw[DX (by simpa[ja]using hk)]at rk;rw[DX (by simpa[ja]using hk')]at rk';simp only[AU]at rk rk';obtain⟨x,rfl,e1,_⟩:=rk;obtain⟨y,rfl,e2,_⟩:=rk';simp at e1 e2;subst e1;subst e2;right;simp[nm,C.mR]
 case string=>
  rw[DX (by simpa[ja]using hk)]at rk;rw[DX (by simpa[ja]using hk')]at rk';simp only[AU]at rk rk';obtain⟨x,rfl,e1,_⟩:=rk;obtain⟨y,rfl,e2,_⟩:=rk';simp at e1 e2;subst e1;subst e2;right;simp[nm,C.mS,beq_toListBytes,ByteArray.toList_eq]
 all_goals (left;rfl)
theorem nJ (hP:BS P=true) {kt:TypeId} (hok:Cr P kt=true) {H:Hp} {d:TypeDesc} (hd:P.underlying kt=some d) {k:Value} {c:C} (rk:AU H (ty P kt) k.cells.toList c) (hk:Bi k=(ty P kt).isAgg) {α:Type}:
  ∀(ms:List MapEntry) (cs:List (C × α)) (i:Nat),HJ H (ty P kt) ms cs->qb d k ms i=none\/qb d k ms i=some ((Eu cs c i).bind fun j=>(ms[j-i]?).map fun m=>(j,m.val))
 | [],[],i,_=>by right;simp[qb,Eu]
 |m::ms,(c1,v1)::cs,i,h=>by
  simp only[HJ]at h;simp only[qb];rcases q8D hP hok hd rk hk h.1 h.2.1 with he|he;{rw[he];exact .inl rfl}
  ·rw[he];simp only[Eu];cases hc:sc c c1 with
   |true=>right;simp|false=>
    simp only[fq,if_false];rcases nJ hP hok hd rk hk ms cs (i+1) h.2.2 with ih|ih;{exact .inl ih}
    ·right;rw[ih];cases hf:Eu cs c (i+1)with
     |none=>rfl|some j=>
      have hj:i+1<=j:=by
       have:∀(cs:List (C × α)) (i j:Nat),Eu cs c i=some j->i<=j:=by
        intro cs
        induction cs with
        |nil=>intro i j h;simp[Eu]at h|cons x cs ih=>
         intro i j h;obtain⟨a,b⟩:=x;simp only[Eu]at h;split at h;{cases h;exact bx _};{have:=ih _ _ h;omega}
       exact this cs _ _ hf
      simp only[gm];rw[show j-i=(j-(i+1))+1 by omega,fu]
 | [],_::_,_,h=>by simp[HJ]at h
 |_::_,[],_,h=>by simp[HJ]at h
theorem q8x (hP:BS P=true) {kt:TypeId} (hok:Cr P kt=true) {H:Hp} {k:Value} {c:C} (rk:AU H (ty P kt) k.cells.toList c) (hk:Bi k=(ty P kt).isAgg) (w:World) {α:Type} {ms:List MapEntry} {cs:List (C × α)} (h:HJ H (ty P kt) ms cs):
  (tg kt k ms).run P w= .ok ((Eu cs c 0).bind fun j=>(ms[j]?).map fun m=>(j,m.val)) w:=by
 obtain⟨d,hd⟩:∃d,P.underlying kt=some d:=by
  cases hu:P.underlying kt with
  |some d=>exact⟨d,rfl⟩|none=>unfold Cr at hok;simp[GV,hu]at hok
 simp only[tg,cz,run_underlying hd,cu];rcases nJ hP hok hd rk hk ms cs 0 h with e|e;{rw[e];simp only;exact xV hP hok rk hk w ms cs 0 h};{rw[e];simp only[ej,rj]}
end
end
section
def Ty.flat:Ty->Bool
 | .int _| .bool| .str=>true| .arr _ e=>e.flat|_=>false
def TL:Value->Bool
 | .int _ _| .bool _| .string _=>true|_=>false
theorem wX {H H':Hp}:∀{τ:Ty} {vs vs':List Value} {c:C},τ.flat=true->AU H τ vs c->AU H' τ vs' c->vs=vs'
 | .int k,vs,vs',c,_,h,h'=>by simp only[AU]at h h';obtain⟨n,rfl,rfl,_⟩:=h;obtain⟨m,e,rfl,_⟩:=h';cases e;rfl
 | .bool,vs,vs',c,_,h,h'=>by simp only[AU]at h h';obtain⟨n,rfl,rfl⟩:=h;obtain⟨m,e,rfl⟩:=h';cases e;rfl
 | .str,vs,vs',c,_,h,h'=>by simp only[AU]at h h';obtain⟨n,rfl,rfl,_⟩:=h;obtain⟨m,e,rfl,_⟩:=h';cases e;rfl
 | .arr n e,vs,vs',c,hf,h,h'=>by
  simp only[AU]at h h';obtain⟨cs,rfl,h1,h2,_,h3⟩:=h;obtain⟨cs',e',h1',h2',_,h3'⟩:=h';cases e';refine fb fun j=>?_;by_cases hj:j<n*e.size
  ·have hs:0<e.size:=by rcases oy e.size with h|h;{rw[h,Nat.mul_zero]at hj;omega};{exact h}
   have hi:j / e.size<cs.length:=by rw[h1];exact(ux hs).2 hj
   have hdm:=xc j e.size;have z8f:=Nat.mod_lt j hs;have heq:=wX (τ:=e) hf (h3 _ _ (bo hi)) (h3' _ _ (bo hi));have:=congrArg (fun l:List Value=>l[j%e.size]?) heq;simp only[EP,if_pos z8f]at this;rw[Nat.mul_comm,hdm]at this;exact this
  ·rw[gb (by omega),gb (by omega)]
 | .slice _ _,_,_,_,hf,_,_| .struct _ _ _,_,_,_,hf,_,_| .ptr,_,_,_,hf,_,_| .map,_,_,_,hf,_,_| .func,_,_,_,hf,_,_| .iface,_,_,_,hf,_,_| .opq _,_,_,_,hf,_,_=>by simp[Ty.flat]at hf
theorem dU {H:Hp}:∀{τ:Ty} {vs:List Value} {c:C},τ.flat=true->AU H τ vs c->∀v∈vs,TL v=true
 | .int k,vs,c,_,h=>by simp only[AU]at h;obtain⟨n,rfl,rfl,_⟩:=h;intro v hv;simp at hv;subst hv;rfl
 | .bool,vs,c,_,h=>by simp only[AU]at h;obtain⟨n,rfl,rfl⟩:=h;intro v hv;simp at hv;subst hv;rfl
 | .str,vs,c,_,h=>by simp only[AU]at h;obtain⟨n,rfl,rfl,_⟩:=h;intro v hv;simp at hv;subst hv;rfl
 | .arr n e,vs,c,hf,h=>by
  simp only[AU]at h;obtain⟨cs,rfl,h1,h2,_,h3⟩:=h;intro v hv;obtain⟨j,hj⟩:=List.getElem?_of_mem hv;have hjl:j<n*e.size:=by rw[<-h2];exact(cd.1 hj).1
  have hs:0<e.size:=by rcases oy e.size with h|h;{rw[h,Nat.mul_zero]at hjl;omega};{exact h}
  have hi:j / e.size<cs.length:=by rw[h1];exact(ux hs).2 hjl
  have hdm:=xc j e.size;have z8f:=Nat.mod_lt j hs;refine dU (τ:=e) hf (h3 _ _ (bo hi)) v (fa (i:=j%e.size) ?_);rw[EP,if_pos z8f,Nat.mul_comm,hdm];exact hj
 | .slice _ _,_,_,hf,_| .struct _ _ _,_,_,hf,_| .ptr,_,_,hf,_| .map,_,_,hf,_| .func,_,_,hf,_| .iface,_,_,hf,_| .opq _,_,_,hf,_=>by simp[Ty.flat]at hf
theorem yB {n:Nat} {v:Value} (h:TL v=true):mc n v v=true:=by cases v <;> simp[TL]at h <;> cases n <;> simp[mc,beq_toListBytes]
theorem z0B (l:List Value):l.zip l=l.map fun x=>(x,x):=by
 induction l with
 |nil=>rfl|cons x l ih=>simp[ih]
theorem sameBits_self {n:Nat} {v:Value} (h:∀u∈v.cells.toList,TL u=true) (hv:Bi v=false->TL v=true):mc (n+1) v v=true:=by
 cases v
 case agg a=>
  simp only[ek]at h;simp only[mc,beq_self_eq_true,Bool.true_and,z0B,List.all_map,dv,Function.comp];exact fun u hu=>yB (h u hu)
 all_goals exact yB (hv rfl)
theorem z0f {u v:Value} (h:u.cells.toList=v.cells.toList) (h':Bi u=Bi v):u=v:=by
 cases hu:Bi u with
 |false=>
  rw[DX hu,DX (h' ▸ hu)]at h;simpa using h
 |true=>
  rw[hu]at h';cases u <;> simp[Bi]at hu;cases v <;> simp[Bi]at h';simp only[ek]at h;rw[Array.toList_inj.1 h]
section
variable {P:Program} {Γ:G} {w:World} {s:S}
theorem HJ.of {H:Hp} {kτ:Ty} {α:Type}:∀{ms:List MapEntry} {cs:List (C × α)},ms.length=cs.length->(∀(i:Nat) (m:MapEntry) (c:C × α),ms[i]? =some m->cs[i]? =some c->AU H kτ m.key.cells.toList c.1/\Bi m.key=kτ.isAgg)->HJ H kτ ms cs
 | [],[],_,_=>trivial|m::ms,c::cs,hl,h=>by obtain⟨h1,h2⟩:=h 0 m c rfl rfl;exact⟨h1,h2,HJ.of (by simpa using hl) fun i m c hm hc=>h (i+1) m c (by simpa using hm) (by simpa using hc)⟩
 | [],_::_,hl,_=>by simp at hl
 |_::_,[],hl,_=>by simp at hl
theorem Yv {α:Type}:∀(cs:List (C × α)) (c:C) (i:Nat),match Eu cs c i with|some j=>i<=j/\∃v,cs[j-i]? =some (c,v)/\Fz cs c=some v/\∀v',FF cs c v'=cs.set (j-i) (c,v')|none=>Fz cs c=none/\∀v',FF cs c v'=cs++[(c,v')]
 | [],_,_=>by simp[Eu,Fz,FF]
 |(k,v)::cs,c,i=>by simp only[Eu,Fz,FF];by_cases h:sc c k=true;{rw[if_pos h];have:=C.Gu.1 h;subst this;simp[h]};{rw[if_neg h];have ih:=Yv cs c (i+1);split at ih;{rename_i j hj;obtain⟨h1,v',h2,h3,h4⟩:=ih;rw[if_neg h];refine⟨by omega,v',?_,h3,fun u=>?_⟩;{rw[show j-i=(j-(i+1))+1 by omega,fu];exact h2};{rw[if_neg h,h4 u,show j-i=(j-(i+1))+1 by omega,List.set_cons_succ]}};{rename_i hj;rw[if_neg h];exact⟨ih.1,fun u=>by rw[if_neg h,ih.2 u];rfl⟩}}
theorem SE {T kt et:TypeId} (h:Ht P T=some (kt,et)):P.underlying T=some (.map kt et):=by unfold Ht at h;split at h;{rename_i hu;cases h;exact hu};{cases h}
theorem TF {k:Key} {v:Value} (h:AK Γ (.mp k) v):∃b,Γ.ι k=some (b,.map)/\v= .map (some b):=by obtain⟨h1,h2⟩:=(Ca rfl).1 h;rw[DX (by simpa[qk,ja]using h2)]at h1;simp only[AA]at h1;obtain⟨b,h1,h3⟩:=h1;exact⟨b,h1,by simpa using h3⟩
theorem xU (hP:BS P=true) (c:AY Γ w s) {k:Key} {kt:TypeId} {vτ:Ty} {es:List (C × V)} {key:Value} {cc:C} (yi:s.obj k=some (.map (ty P kt) vτ es)) (hok:Cr P kt=true)
  (hk:AK Γ (.d (ty P kt) cc) key) {b:Nat} (hι:Γ.ι k=some (b,.map)):∃ms clock,w.heap[b]? =some (.map ms clock)/\(∀em,(jo em 10000 kt key).run P w= .ok () w)/\
   (tg kt key ms.toList).run P w= .ok ((Eu es cc 0).bind fun j=>(ms.toList[j]?).map fun m=>(j,m.val)) w:=by
 obtain⟨b',ms,clock,e1,_,_,e4,e5,e6,_⟩:=c.own (by assumption) yi;rw[hι]at e1;cases e1;obtain⟨r1,r2⟩:=EA.1 hk;have z8n:=hok;unfold Cr at z8n;simp only[bg]at z8n;refine⟨ms,clock,e4,fun em=>eG hP em 12 10000 kt z8n.1 (by decide) Γ.H key cc w r1 r2,?_⟩;exact q8x hP hok r1 r2 w (HJ.of (by simpa using e5) fun i m c hm hc=>⟨(e6 i m c (by simpa using hm) hc).1,(e6 i m c (by simpa using hm) hc).2.1⟩)
theorem q0Y (c:AY Γ w s) {o:Oper} {a:Act} {T:TypeId} {n:Nat} {kτ vτ:Ty} (ho:o.op= .makeMap T none) (hn:s.obj (.l n)=none):
  BU P o a w (BX Γ w {s with loc:=(.l n,.map kτ vτ [])::s.loc} (.mp (.l n))):=by
 obtain⟨h1,h2,h3⟩:=c.addKey hn (uj w (.map #[] 0)) (τ:=.map) (o:=.map kτ vτ []) fun Γ' hpr _ hι hH hZ=>⟨w.heap.size,#[],0,hι,hH,hZ,heap_alloc_new w _,rfl,fun i m c hm=>by simp at hm,fun i m hm=>by simp at hm,fun i j m m' hm=>by simp at hm⟩;refine BU.val (v:=.map (some w.heap.size)) (w':=w.alloc (.map #[] 0)) ?_ ⟨_,h3,h2,h1,?_⟩;{unfold execOp;have hr:(Instr.makeMap T none).run P w= .ok (.map (some w.heap.size)) (w.alloc (.map #[] 0)):=rfl;simp[ho,hr]};{refine(Ca rfl).2 ⟨?_,by simp[qk,ja,Bi]⟩;simp only[AA];exact⟨w.heap.size,by simp[mz,EW],by simp[ek]⟩}
def Hr (P:Program) (et:TypeId) (es:List (C × V)) (c:C):V:=(Fz es c).getD (BI (ty P et))
theorem q0X (hP:BS P=true) (c:AY Γ w s) {o:Oper} {a:Act} {T kt et:TypeId} {x i:Operand} {zx:Bool} {k:Key} {vτ:Ty} {es:List (C × V)} {cc:C}
  (ho:o.op= .lookup T x i zx) (hT:Ht P T=some (kt,et)) (hx:AK Γ (.mp k) (a.eval x)) (hi:AK Γ (.d (ty P kt) cc) (a.eval i)) (yi:s.obj k=some (.map (ty P kt) vτ es)) (hok:Cr P kt=true) (hz:Cb P et=true):
  BU P o a w (BX Γ w s (if zx then .tup [Hr P et es cc,.d .bool (.bool (Fz es cc).isSome)]else Hr P et es cc)):=by
 obtain⟨b,hι,hxv⟩:=TF hx;obtain⟨ms,clock,hb,hck,hfk⟩:=xU hP c yi hok hi hι;obtain⟨z,hzr,hzo,hza⟩:=xZ hz;have hfl:=Yv es cc 0;obtain⟨b',ms',z9N,e1,_,_,e4,e5,e6,_⟩:=c.own (by assumption) yi;rw[hι]at e1;cases e1;rw[hb]at e4;cases e4;obtain⟨v,ok,hrv,y0t,zc⟩:∃v ok,(AK Γ (Hr P et es cc) v/\(Hr P et es cc).plain=true)/\ok=(Fz es cc).isSome/\(ud T (a.eval x) (a.eval i) zx).run P w= .ok (if zx then .tuple #[v,.bool ok]else v) w:=by
  cases hf:Eu es cc 0 with
  |none=>
   rw[hf]at hfl hfk;simp only at hfl;refine⟨z,false,⟨?_,?_⟩,by rw[hfl.1];rfl,?_⟩;{simp only[Hr,hfl.1,rm];exact(Ca (XY _)).2 ⟨XZ (ty P et) hzo,by rw[Nu];exact hza⟩};{simp only[Hr,hfl.1,rm];exact XY _};{simp[ud,hxv,run_underlying (SE hT),jb hb,hck,hfk,hzr]}
  |some j=>
   rw[hf]at hfl hfk;simp only[rj]at hfl;obtain⟨_,v0,h2,h3,_⟩:=hfl;obtain⟨m,hm⟩:∃m,ms[j]? =some m:=by
    have:j<ms.size:=by rw[e5];exact(cd.1 h2).1
    exact⟨_,dw this⟩
   obtain⟨_,_,q3,q4,q5,q6,q7⟩:=e6 j m _ hm h2;simp only at q3 q4 q5 q6;refine⟨m.val,true,⟨?_,?_⟩,by rw[h3];rfl,?_⟩;{simp only[Hr,h3,jg];exact(Ca q6).2 ⟨q3,by rw[q4,q5]⟩};{simp only[Hr,h3,jg];exact q6}
   ·have hm':ms.toList[j]? =some m:=by simpa using hm
    rw[gm,hm']at hfk;simp[ud,hxv,run_underlying (SE hT),jb hb,hck,hfk]
 refine BU.val (v:=if zx then .tuple #[v,.bool ok]else v) (w':=w) (by unfold execOp;simp[ho,zc]) (BX.same c ?_);cases zx with
 |false=>exact hrv.1|true=>
  refine⟨#[v,.bool ok],rfl,?_⟩;refine TB (by simp) fun i x u hx hu=>?_
  match i with
  |0=>simp at hx hu;subst hx;subst hu;exact⟨hrv.2,hrv.1⟩|1=>simp at hx hu;subst hx;subst hu;subst y0t;exact⟨rfl,Dn⟩|i+2=>simp at hx
theorem q8X {w w':World} {b:Nat} (hlt:b<w'.heap.size) (oth:∀b',b'≠b->w'.heap[b']? =w.heap[b']?):w.heap.size<=w'.heap.size:=
 eV (o:=w'.heap[b]) (by simp[hlt]) oth
theorem AY.w9 (c:AY Γ w s) {w':World} {k:Key} {o0 o1:O} {b:Nat} {τk:Ty}
  (ho:s.obj k=some o0) (hd0:o0.FL=false) (hι:Γ.ι k=some (b,τk)) (hnc:∀arr T fr,w.heap[b]?≠some (.cells arr T fr)) (z8j:b<w'.heap.size) (yx:∀b',b'≠b->w'.heap[b']? =w.heap[b']?) (hoo:oof w'=oof w) (yp:Γ.H b=none->Γ.Z b=none->Own Γ w' k o1):
  AY Γ w' {s with loc:=(k,o1)::s.loc}:=by
 obtain⟨hH,hZ,hlt,e2⟩:=c.FR hι ho hd0;refine c.change (.refl Γ) rfl rfl rfl hoo (fun b' l h=>?_) (fun b' h=>yx b' (fun e=>by subst e;exact h hZ)) (fun b' o sz h=>?_) (fun j o h=>?_) (fun _ h _=>h) (fun j h=>?_) (fun b' sz h=>?_) (c.KI (YX fun h=>by rw[FV ho,hd0]at h;cases h)) c.tok c.yu (q8X z8j yx);{rw[yx b' (fun e=>by subst e;rw[hH]at h;cases h)];exact c.hH b' l h};{obtain⟨a1,a2,a3⟩:=c.hκ b' o sz h;rw[yx b' (fun e=>by subst e;exact a2 hH)];exact⟨a1,a2,a3⟩};{rw[DZ]at h;split at h;{rename_i e;subst e;cases h;exact .inr (yp hH hZ)};{rename_i e;refine .inl ⟨h,fun hd=>⟨fun _ _ _ _=>⟨rfl,rfl⟩,fun b' τ' hb=>?_⟩⟩;obtain⟨a1,a2,a3,_⟩:=c.FR hb h hd;refine⟨yx b' (fun e'=>?_),a1⟩;subst e';exact e (c.ZX hι hb (by rw[FV ho];exact hd0) (by rw[FV h];exact hd))}};{rw[DZ];split;{simp};{exact c.dom j h}};{obtain⟨arr,T1,fr,a1,a2⟩:=c.hσ b' sz h;by_cases e:b'=b;{subst e;exact absurd a1 (hnc _ _ _)};{exact⟨arr,T1,fr,by rw[yx b' e];exact a1,a2⟩}}
theorem oT (w:World) (b b':Nat) (o:Obj) (h:b'≠b):({w with heap:=w.heap.setIfInBounds b o}:World).heap[b']? =w.heap[b']?:=by simp only[Array.getElem?_setIfInBounds_ne (fun e=>h e.symm)]
theorem VC (w:World) {b:Nat} {o o':Obj} (h:w.heap[b]? =some o'):({w with heap:=w.heap.setIfInBounds b o}:World).heap[b]? =some o:=by have:=(mg.1 h).1;simp[this]
theorem q00 (hP:BS P=true) (c:AY Γ w s) {o:Oper} {a:Act} {T kt et:TypeId} {x i y:Operand} {k:Key} {es:List (C × V)} {cc:C} {Y:V}
  (ho:o.op= .mapUpdate T x i y) (hT:Ht P T=some (kt,et)) (hx:AK Γ (.mp k) (a.eval x)) (hi:AK Γ (.d (ty P kt) cc) (a.eval i)) (hy:AK Γ Y (a.eval y)) (yi:s.obj k=some (.map (ty P kt) (ty P et) es)) (hok:Cr P kt=true) (hfl:(ty P kt).flat=true)
  (h1:Y.ty=ty P et) (h2:Y.plain=true) (h3:Y.BW=true):
  BU P o a w (BX Γ w {s with loc:=(k,.map (ty P kt) (ty P et) (FF es cc Y))::s.loc} .any):=by
 obtain⟨b,hι,hxv⟩:=TF hx;obtain⟨ms,clock,hb,hck,hfk⟩:=xU hP c yi hok hi hι;have hix:=Yv es cc 0;obtain⟨b',ms',z9N,e1,_,_,e4,e5,e6,e7,e8⟩:=c.own (by assumption) yi;rw[hι]at e1;cases e1;rw[hb]at e4;cases e4;obtain⟨k1,k2⟩:=EA.1 hi;obtain⟨y1,y2⟩:=(Ca h2).1 hy;cases hf:Eu es cc 0 with
 |none=>
  rw[hf]at hix hfk;simp only at hix;have zc:(oa T (a.eval x) (a.eval i) (a.eval y)).run P w= .ok () {w with heap:=w.heap.setIfInBounds b (.map (ms.push {key:=a.eval i,val:=a.eval y,born:=clock}) (clock+1))}:=by simp[oa,hxv,run_underlying (SE hT),jb hb,hck,hfk,sx _ hb]
  refine BU.skip (w':=_) (by unfold execOp;simp[ho,zc];rfl) ⟨Γ,.refl Γ,.refl Γ,c.w9 (o1:=.map (ty P kt) (ty P et) (FF es cc Y)) yi rfl hι (fun arr T fr h=>by rw[hb]at h;cases h) (IK (VC w hb)) (fun b' h=>oT w b b' _ h) rfl fun hH hZ=>?_,by simp[AK]⟩;refine⟨b,_,_,hι,hH,hZ,VC w hb,by rw[hix.2];simp[e5],fun j m c1 hm hc1=>?_,fun j m hm=>?_,fun j j' m m' hm hm' hbb=>?_⟩;{rw[hix.2]at hc1;rw[pj]at hm;by_cases hj:j=ms.size;{rw[if_pos hj]at hm;cases hm;rw[gh (by omega),hj,e5]at hc1;simp at hc1;subst hc1;exact⟨k1,k2,y1,by rw[y2,h1],h1,h2,h3⟩};{rw[if_neg hj]at hm;have hjl:j<ms.size:=(mg.1 hm).1;rw[ft (by omega)]at hc1;exact e6 j m c1 hm hc1}};{rw[pj]at hm;by_cases hj:j=ms.size;{rw[if_pos hj]at hm;cases hm;simp};{rw[if_neg hj]at hm;have:=e7 j m hm;omega}};{rw[pj]at hm hm';by_cases hj:j=ms.size <;> by_cases hj':j'=ms.size;{omega};{rw[if_pos hj]at hm;rw[if_neg hj']at hm';cases hm;have:=e7 j' m' hm';simp at hbb;omega};{rw[if_neg hj]at hm;rw[if_pos hj']at hm';cases hm';have:=e7 j m hm;simp at hbb;omega};{rw[if_neg hj]at hm;rw[if_neg hj']at hm';exact e8 j j' m m' hm hm' hbb}}
 |some j=>
  rw[hf]at hix hfk;simp only[rj]at hix;obtain⟨_,v0,g2,g3,g4⟩:=hix;obtain⟨m,hm⟩:∃m,ms[j]? =some m:=by
   have:j<ms.size:=by rw[e5];exact(cd.1 g2).1
   exact⟨_,dw this⟩
  obtain⟨q1,q2,_⟩:=e6 j m _ hm g2;simp only at q1;have y0u:m.key=a.eval i:=z0f (wX hfl q1 k1) (by rw[q2,k2]);have hsb:mc 10000 (((ms[j]?).map (·.key)).getD (a.eval i)) (a.eval i)=true:=by rw[hm];simp only[gj,jg,y0u];refine sameBits_self (dU hfl k1) fun hag=>?_;have:=dU hfl k1;rw[DX hag]at this;exact this _ (by simp)
  have hm':ms.toList[j]? =some m:=by simpa using hm
  rw[gm,hm']at hfk;have zc:(oa T (a.eval x) (a.eval i) (a.eval y)).run P w= .ok () {w with heap:=w.heap.setIfInBounds b (.map (ms.modify j fun e=>{e with key:=a.eval i,val:=a.eval y}) clock)}:=by simp only[gj]at hfk;simp[oa,hxv,run_underlying (SE hT),jb hb,hck,hfk,Instr.keyThatStays,hsb,sx _ hb]
  refine BU.skip (w':=_) (by unfold execOp;simp[ho,zc];rfl) ⟨Γ,.refl Γ,.refl Γ,c.w9 (o1:=.map (ty P kt) (ty P et) (FF es cc Y)) yi rfl hι (fun arr T fr h=>by rw[hb]at h;cases h) (IK (VC w hb)) (fun b' h=>oT w b b' _ h) rfl fun hH hZ=>?_,by simp[AK]⟩;have born:∀(j':Nat) (m':MapEntry),(ms.modify j fun e=>{e with key:=a.eval i,val:=a.eval y})[j']? =some m'->∃m0,ms[j']? =some m0/\m'.born=m0.born/\(j'≠j->m'=m0)/\(j'=j->m'={m0 with key:=a.eval i,val:=a.eval y}):=by intro j' m' h;rw[Array.getElem?_modify]at h;by_cases e:j=j';{subst e;rw[if_pos rfl,hm]at h;simp at h;subst h;exact⟨m,hm,rfl,fun h=>absurd rfl h,fun _=>rfl⟩};{rw[if_neg e]at h;exact⟨m',h,rfl,fun _=>rfl,fun h=>absurd h.symm e⟩}
  refine⟨b,_,_,hι,hH,hZ,VC w hb,by rw[g4];simp[e5],fun j' m' c1 hm1 hc1=>?_,fun j' m' hm1=>?_,fun j1 j2 m1 m2 hm1 hm2 hbb=>?_⟩;{obtain⟨m0,z1,_,z3,z4⟩:=born j' m' hm1;rw[g4]at hc1;by_cases e:j'=j;{rw[z4 e];subst e;have hlt:=(cd.1 g2).1;simp[hlt]at hc1;subst hc1;exact⟨k1,k2,y1,by rw[y2,h1],h1,h2,h3⟩};{rw[List.getElem?_set_ne (fun h=>e h.symm)]at hc1;rw[z3 e];exact e6 j' m0 c1 z1 hc1}};{obtain⟨m0,z1,z2,_⟩:=born j' m' hm1;rw[z2];exact e7 j' m0 z1};{obtain⟨n1,z1,z2,_⟩:=born j1 m1 hm1;obtain⟨n2,z1',z2',_⟩:=born j2 m2 hm2;exact e8 j1 j2 n1 n2 z1 z1' (by rw[<-z2,<-z2',hbb])}
end
end
section
section
variable {P:Program} {Γ:G} {w:World} {s:S}
theorem lG (hP:BS P=true) (c:AY Γ w s) {o:Oper} {a:Act} {x y:Operand} {t t':TypeId} {n:Nat} {X Y:V} {ys:List C} {eb:Nat} {e:Ty} (ho:OI o x y t t')
  (ht:ty P t= .slice eb e) (hz:Cb P (BK P t)=true) (hn:s.obj (.l n)=none)
  (hx:AK Γ X (a.eval x)) (hX:X= .ye\/∃eb' e',X= .emp eb' e') (hy:AK Γ Y (a.eval y)) (hel:Ki P s t' eb e Y ys) (hne:ys≠[]):
  BU P o a w (BX Γ w {s with loc:=(.l n,.box (.d (.arr ys.length e) (.agg ys)))::s.loc} (.sr (.l n) [] 0 ys.length none eb e)):=by
 obtain⟨hu,he,heb,hE⟩:=MD hP ht;obtain⟨a0,hx0⟩:∃a0,a.eval x= .slice a0 0 0:=by rcases hX with rfl|⟨eb',e',rfl⟩;{exact⟨none,GM hx⟩};{obtain⟨h1,_⟩:=(Ch rfl rfl).1 hx;simp only[AA]at h1;obtain⟨a0,h1⟩:=h1;exact⟨a0,by simpa using h1⟩}
 obtain⟨m,news,hs,r1,r2,r3,r4⟩:=TS c hy hel;obtain⟨i,z,hi,hzz,hzo,z8s⟩:=MJ hz;have hcz:=Nt hzo;have hsz:i.size=e.size:=by have:=Dq hP 11 (BK P t);rw[he,this];simp[Program.cellsOf,hi]
 have hby:i.bytes=eb:=by rw[heb];simp[Program.bytesOf,hi]
 rw[<-hsz]at hs;have hm:m≠0:=by intro h;subst h;exact hne (fl r1)
 have zg:((0+m:Nat):Int)<=9223372036854775807:=by unfold maxLen at r2;omega
 have hge:=grownCap_ge w (0+m) 0 (BK P t);have hcm:=grownCap_le_maxLen w (0+m) 0 (BK P t) (by omega);have hold:(fx i.size 0 (.slice a0 0 0)).run P w.drew= .ok ([]:List Value).toArray w.drew:=by
  cases a0 with
  |none=>exact run_firstCells_none w.drew i.size 0 0 0|some ad=>exact run_firstCells_some w.drew i.size 0 ad 0 0 [] (by simp) (by simp)
 have run:=run_append_grow_src (P:=P) w t t' o.type _ i z hu hi hzz a0 0 0 [] hold (a.eval y) m news hs (by omega) zg (by
  rw[hby];exact growslice_fits (by omega) (by rw[bf];exact r3))
 rw[<-hx0]at run;have z8h:Ext w (w.drew.alloc (.cells ((([]:List Value)++news).toArray++fm z.cells (grownCap w (0+m) 0 (BK P t)-(0+m))) (BK P t))):=(Ext.drew w).trans (uj _ _);have yo:=heap_alloc_new w.drew (.cells ((([]:List Value)++news).toArray++fm z.cells (grownCap w (0+m) 0 (BK P t)-(0+m))) (BK P t));have hnl:news.length=m*e.size:=by rw[hs.newsLen,hsz]
 have z8e:Dx news:=Ph r1 hnl r4;have yr:AA Γ none [] (.d (.arr ys.length e) (.agg ys)) news:=by simp only[AA,AU];exact⟨ys,rfl,rfl,by rw[r1];exact hnl,z8e,r4⟩
 have z8o:chunk ((([]:List Value)++news).toArray++fm z.cells (grownCap w (0+m) 0 (BK P t)-(0+m))).toList 0 (ys.length*e.size)=news:=by rw[r1,<-hnl];simp[chunk]
 obtain⟨h1,h2,h3⟩:=c.addKey (k:=.l n) hn z8h (τ:=.arr ys.length e) (o:=.box (.d (.arr ys.length e) (.agg ys))) fun Γ' hpr _ hι hH hZ=>
  ⟨_,_,BK P t,hι,hH,hZ,⟨(0,0),yo,.inl (bx _)⟩,by simp only[qk,Ty.size,r1,<-hnl];simp,by
   simp only[qk,Ty.size];rw[z8o];exact(yr.Bn hpr (by trivial)).EZ,rfl,rfl⟩
 obtain⟨k1,k2,k3⟩:=h1.HK (show _=_ from yo);refine BU.val (Kd ho run) ⟨_,h3.trans k3,h2.trans k2,k1,(Ch rfl rfl).2 ⟨?_,rfl⟩⟩;simp only[AA];rw[show 0+m=m by omega]at hge hcm ⊢;refine .inr ⟨w.heap.size,.arr ys.length e,0,ys.length,grownCap w m 0 (BK P t),by simp[G.HK,mz,EW],rfl,by omega,⟨some ⟨w.heap.size,0,none⟩,by rw[r1],.inr (by simp)⟩,by rw[r1];exact hge,hcm,by rw[r1];exact r3,(fun c h=>by cases h),fun _=>.inr ⟨_,Dc _ _ _,?_⟩⟩;have hzc:z.cells.size=e.size:=by have h1:=Dq hP 11 (BK P t);have h2:=Nn hP (BK P t);rw[he,h1,<-h2,<-hcz];simp
 simp only[jr,Array.size_append,iq,size_zeroCells,hzc,hnl,<-Nat.add_mul];rw[bf,bf];exact Nat.mul_le_mul_right _ (by omega)
theorem q0W (c:AY Γ w s) {o:Oper} {a:Act} {x:Operand} {T:TypeId} {k:Key} {kτ vτ:Ty} {es:List (C × V)} (ho:o.op= .call {callee:=.builtin .len,args:=#[x],argTypes:=#[T]})
  {kt et:TypeId} (hT:Ht P T=some (kt,et)) (hx:AK Γ (.mp k) (a.eval x)) (yi:s.obj k=some (.map kτ vτ es)) (hl:es.length<=9223372036854775807):BU P o a w (BX Γ w s (.d (.int .i64) (.int es.length))):=by
 obtain⟨b,hι,hxv⟩:=TF hx;obtain⟨b',ms,clock,e1,_,_,e4,e5,_⟩:=c.own (by assumption) yi;rw[hι]at e1;cases e1;refine BU.val (v:=.int .i64 es.length) (w':=w) ?_ (BX.same c (EB ?_ ?_));{unfold execOp;have hw:IntKind.i64.wrap (es.length:Int)=es.length:=IntWalk.i64_in _ (by omega);simp[ho,resolve,invoke,builtin,hxv,Builtin.len_,vx,run_underlying (SE hT),jb e4,e5,goInt,hw]}
 ·have:IntKind.i64.min= -9223372036854775808:=by decide
  omega
 ·have:IntKind.i64.max=9223372036854775807:=by decide
  omega
end
end
section
def Kz (c:C):UInt8:=UInt8.ofNat c.toInt.toNat
def Ty.Rl:Ty->Bool
 | .int .u8=>true|_=>false
theorem Ty.VG:∀{τ:Ty},τ.Rl=true->τ= .int .u8
 | .int .u8,_=>rfl
def strOf (P:Program) (s:S) (src dst:TypeId) (x:V):Option (List C):=
 match ty P src,ty P dst with
 | .slice eb e,.str=>if e.Rl=true/\eb=1 then(match x with| .ye=>some []|_=>(match FC s x with|some (eb',e',ys)=>if e'.Rl=true/\eb'=1 then some ys else none|none=>none))else none|_,_=>none
section
variable {P:Program} {Γ:G} {w:World} {s:S}
theorem gD {f:Nat} {T:TypeId} {k:IntKind} (h:tyF P (f+1) T= .int k):P.underlying T=some (.int k):=by unfold tyF at h;split at h;{cases hu:P.underlying T with|none=>simp[hu]at h|some d=>cases d <;> simp[hu]at h ⊢ <;> exact h};{cases h}
theorem yL {Y:V} {v:Value} {r:Nat × Ty × List C} (hr:AK Γ Y v) (he:FC s Y=some r):∃a n cap,v= .slice a n cap:=by
 obtain⟨eb,e,ys⟩:=r;have frozen:Y.Fk=some (eb,e,ys)->∃a n cap,v= .slice a n cap:=fun h=>by obtain⟨a,n,cap,hv,_⟩:=Kb hr h;exact⟨a,n,cap,hv⟩
 cases Y <;> (try exact frozen he)
 case sr k q lo n cp eb' e'=>
  obtain⟨cap,a,rfl,_⟩:=dV hr;exact⟨_,_,_,rfl⟩
theorem Y6 {c:C} {H:Hp} {vs:List Value} (h:AU H (.int .u8) vs c):vs=[.int .u8 ((Kz c).toNat:Int)]:=by
 simp only[AU]at h;obtain⟨n,rfl,rfl,h1,h2⟩:=h;have m1:IntKind.u8.min=0:=by decide
 have m2:IntKind.u8.max=255:=by decide
 have:((Kz (.int n)).toNat:Int)=n:=by simp only[Kz,C.toInt,UInt8.toNat_ofNat'];omega
 rw[this]
theorem q04 (hP:BS P=true) (c:AY Γ w s) {o:Oper} {a:Act} {src dst:TypeId} {x:Operand} (ho:o.op= .convert src dst x) {Y:V} {ys:List C} (h:strOf P s src dst Y=some ys)
  (hr:AK Γ Y (a.eval x)):BU P o a w (BX Γ w s (.d .str (.str (ys.map Kz)))):=by
 unfold strOf at h;split at h
 ·rename_i eb e ht hd;obtain⟨E,hu,hE,_,_⟩:=Ie hP ht;have hd':=Kk hd;split at h
  ·rename_i hc0;obtain⟨h0,rfl⟩:=hc0;obtain rfl:=Ty.VG h0;have hEu:P.underlying E=some (.int .u8):=gD hE.symm;split at h;{cases h;have hv:a.eval x= .slice none 0 0:=GM hr;refine BU.val (v:=.string ⟨#[]⟩) (w':=w) ?_ (BX.same c (TE (by simp)));unfold execOp;simp only[ho,hv,cz];rw[run_convert_bytes_string w src dst E none 0 0 hu hEu hd'];simp[vj,ej,sg];rfl}
   ·split at h
    ·rename_i eb' e' ys' he;split at h
     ·rename_i hc;obtain⟨h0',rfl⟩:=hc;obtain rfl:=Ty.VG h0';cases h;obtain⟨ad,n',cap,hv⟩:=yL hr he;obtain⟨n,news,hs,h1,h2,h3,h4⟩:=XB c hr he hu;rw[hv]at hs;have hn:n'=n:=by have:=hs.len w;simp[vx,ej]at this;exact this
      subst hn;have hsz:(Ty.int IntKind.u8).size=1:=rfl;have hnl:=hs.newsLen;rw[hsz,rh]at hnl;have z96:news=((ys.map Kz).map (fun b=>(b.toNat:Int))).map (Value.int .u8):=by
       apply fb;intro i;by_cases hi:i<ys.length
       ·have hy:=h4 i _ (bo hi);rw[hsz,rh]at hy;have hb:=Y6 hy;have hi':i<news.length:=by omega
        have zj:(chunk news i 1)[0]? =news[i]?:=by rw[EP];simp
        rw[hb]at zj;rw[<-zj];simp[bo hi]
       ·rw[gb (by omega),gb (by simp;omega)]
      refine BU.val (v:=.string ⟨(ys.map Kz).toArray⟩) (w':=w) ?_ (BX.same c (TE (by simp;omega)));unfold execOp;simp only[ho,hv,cz];rw[run_convert_bytes_string w src dst E ad n' cap hu hEu hd'];cases ad with
      |none=>
       have hc:=hs.cells;simp[fx,ej]at hc;have hn0:ys=[]:=by rw[hc]at hnl;simp at hnl;exact fl (by omega)
       subst hn0;simp[vj,ej,sg];rfl
      |some ad=>
       have hc:=hs.cells;simp only[fx,hsz,rh]at hc;rw[z96]at hc;rw[run_bytesToString w ad n' cap _ hc,foldl_push_byteCells];simp[sg,ej]
     ·cases h
    ·cases h
  ·cases h
 ·cases h
end
end
section
section
variable {P:Program} {Γ:G} {w w':World} {s:S}
theorem AY.kill (c:AY Γ w s) {k:Key} {o:O} (ho:s.obj k=some o):AY Γ w {s with loc:=(k,.dead o.ty)::s.loc}:=by refine⟨c.hH,c.hZ,c.hκ,fun j o' h=>?_,fun j h=>?_,c.KI (YX fun _=>rfl),c.tok,c.yu,c.hgl,c.hoo,c.hσ⟩;{rw[DZ]at h;split at h;{rename_i e;subst e;cases h;refine(c.obj _ _ ho).imp (fun h=>⟨h.1,trivial⟩) fun yp=>?_;obtain⟨b,τ,h1,_,h4,h5⟩:=yp.block;exact⟨b,by rw[<-h5];exact h1,h4⟩};{exact c.obj j o' h}};{rw[DZ];split;{simp};{exact c.dom j h}}
theorem AY.wS (c:AY Γ w s) {k j:Key} {x x':V} {b m m':Nat} {e:Ty} {ym:Array Value} {T:TypeId} {fz:Nat × Nat}
  (ho:s.obj k=some (.box x)) (hxt:x.ty= .arr m e) (hι:Γ.ι k=some (b,.arr m e)) (hj:s.obj j=none) (yo:w'.heap[b]? =some (.cells ym T fz)) (hfz:fz.2<=fz.1\/ym.size<=fz.1) (yx:∀b',b'≠b->w'.heap[b']? =w.heap[b']?) (hoo:oof w'=oof w)
  (ht:x'.ty= .arr m' e) (hsz:x'.ty.size<=ym.size) (hx:AA Γ none [] x' (chunk ym.toList 0 x'.ty.size)) (hp:x'.plain=true) (hns:x'.BW=true)
  (hcs:∀arr T fr,w.heap[b]? =some (.cells arr T fr)->ym.size=arr.size) (hkl:∀i,j≠.g i:=by intro i h;cases h):
  AY (Γ.addKey j b (.arr m' e)) w' {s with loc:=(j,.box x')::(k,.dead (.arr m e))::s.loc}/\Bg Γ (Γ.addKey j b (.arr m' e))/\GLe Γ (Γ.addKey j b (.arr m' e)):=by
 obtain⟨hH,hZ,hlt,_⟩:=c.FR hι ho rfl;have hkj:k≠j:=fun e=>by subst e;rw[ho]at hj;cases hj
 have hk0:=c.Qd hj;have hιk:∀i y,Γ.ι i=some y->(Γ.addKey j b (.arr m' e)).ι i=some y:=by
  intro i y hi;have:i≠j:=by intro e;subst e;rw[hk0]at hi;cases hi
  simp[mz,EW,this,hi]
 have hpr:Bg Γ (Γ.addKey j b (.arr m' e)):=⟨gy _,hιk,fun t x L h=>⟨x,L,h,bx _,fun _=>rfl⟩,fun _ _ h=>h⟩;have z9v:w.heap.size<=w'.heap.size:=by
  cases Nat.lt_or_ge w'.heap.size w.heap.size with
  |inr h=>exact h|inl y0v=>
   have h1:=IK yo;have h3:=yx w'.heap.size (by omega);rw[Array.getElem?_eq_none (bx _),dw y0v]at h3;cases h3
 have hdk:s.CY k=false:=by rw[FV ho];rfl
 have yi:∀i,jt {s with loc:=(j,.box x')::(k,.dead (.arr m e))::s.loc} i=if j=i then some (.box x')else if k=i then some (.dead (.arr m e))else s.obj i:=by intro i;rw[show jt {s with loc:=(j,.box x')::(k,.dead (.arr m e))::s.loc} i=jt {({s with loc:=(k,.dead (.arr m e))::s.loc}:S)with loc:=(j,.box x')::(k,.dead (.arr m e))::s.loc} i from rfl,DZ ({s with loc:=(k,.dead (.arr m e))::s.loc}:S),DZ s]
 have yv:∀i,s.CY i=true->S.CY {s with loc:=(j,.box x')::(k,.dead (.arr m e))::s.loc} i=true:=by intro i hi;unfold S.CY;rw[yi];by_cases h1:j=i;{subst h1;unfold S.CY at hi;rw[hj]at hi;cases hi};{rw[if_neg h1];by_cases h2:k=i;{rw[if_pos h2];rfl};{rw[if_neg h2];exact hi}}
 have y0w:S.CY {s with loc:=(j,.box x')::(k,.dead (.arr m e))::s.loc} k=true:=by unfold S.CY;rw[yi,if_neg (fun h=>hkj h.symm),if_pos rfl];rfl
 refine⟨?_,hpr,⟨gy _,rfl,fun _ _=>rfl,fun i y h=>hιk _ _ h,rfl,rfl,fun _ _ h=>h,fun i h=>by
  have:Key.g i≠j:=fun e=>hkl i e.symm;simpa[mz,EW,this]using h⟩⟩
 refine c.change hpr rfl rfl rfl hoo (fun b' l h=>?_) (fun b' h=>yx b' (fun e=>by subst e;exact h hZ)) (fun b' o sz h=>?_) (fun i o h=>?_) (fun i h h'=>by
  have:i≠j:=fun e=>by subst e;exact h' hj
  simpa[mz,EW,this]using h) (fun i h=>?_) (fun b' sz h=>?_) (fun i i' b' τ1 τ2 h1 h2=>?_) c.tok c.yu z9v
 ·have h':Γ.H b'=some l:=h;rw[yx b' (fun e=>by subst e;rw[hH]at h';cases h')];exact c.hH b' l h'
 ·obtain⟨a1,a2,a3⟩:=c.hκ b' o sz h;rw[yx b' (fun e=>by subst e;exact a2 hH)];exact⟨a1,a2,a3⟩
 ·rw[yi]at h;by_cases e1:j=i;{rw[if_pos e1]at h;subst e1;cases h;exact .inr ⟨b,ym,T,by rw[ht];simp[mz,EW],hH,hZ,⟨fz,yo,hfz⟩,hsz,(AA.Bn (hm:=none) hpr trivial _ hx).EZ,hp,hns⟩};{rw[if_neg e1]at h;by_cases e2:k=i;{rw[if_pos e2]at h;subst e2;cases h;exact .inr ⟨b,hιk _ _ hι,by omega⟩};{rw[if_neg e2]at h;refine .inl ⟨h,fun hd=>⟨fun _ _ _ _=>⟨rfl,rfl⟩,fun b' τ' hb=>?_⟩⟩;obtain⟨a1,a2,a3,_⟩:=c.FR hb h hd;refine⟨yx b' (fun e'=>?_),a1⟩;subst e';exact e2 (c.ZX hι hb hdk (by rw[FV h];exact hd))}}
 ·rw[yi];by_cases e1:j=i;{rw[if_pos e1];simp};{rw[if_neg e1];by_cases e2:k=i;{rw[if_pos e2];simp};{rw[if_neg e2];refine c.dom i ?_;have:i≠j:=fun h=>e1 h.symm;simpa[mz,EW,this]using h}}
 ·obtain⟨arr,T1,fr,a1,a2⟩:=c.hσ b' sz h;by_cases e:b'=b;{subst e;exact⟨ym,T,fz,yo,by rw[hcs _ _ _ a1];exact a2⟩};{exact⟨arr,T1,fr,by rw[yx b' e];exact a1,a2⟩}
 ·have key:∀i b' τ',(Γ.addKey j b (.arr m' e)).ι i=some (b',τ')->(i=j/\b'=b/\τ'= .arr m' e)\/(i≠j/\Γ.ι i=some (b',τ')):=by intro i b' τ' h;by_cases hij:i=j;{left;simp[mz,EW,hij]at h;exact⟨hij,h.1.symm,h.2.symm⟩};{right;exact⟨hij,by simpa[mz,EW,hij]using h⟩}
  have old:∀i τ',Γ.ι i=some (b,τ')->S.CY {s with loc:=(j,.box x')::(k,.dead (.arr m e))::s.loc} i=true/\τ'.Mu=true:=by intro i τ' h;rcases c.inj i k b _ _ h hι with rfl|⟨h1|h1,h2,_⟩;{rw[hι]at h;cases h;exact⟨y0w,rfl⟩};{exact⟨yv i h1,h2⟩};{rw[hdk]at h1;cases h1}
  rcases key i b' τ1 h1 with⟨e1,e2,e3⟩|⟨e1,e2⟩ <;> rcases key i' b' τ2 h2 with⟨f1,f2,f3⟩|⟨f1,f2⟩;{exact .inl (by rw[e1,f1])};{subst e2;obtain⟨g1,g2⟩:=old i' τ2 f2;exact .inr ⟨.inr g1,by rw[e3];rfl,g2⟩};{subst f2;obtain⟨g1,g2⟩:=old i τ1 e2;exact .inr ⟨.inl g1,g2,by rw[f3];rfl⟩};{exact(c.inj _ _ _ _ _ e2 f2).imp id (ub (wb (yv _) (yv _)) id)}
end
end
end Go.E
