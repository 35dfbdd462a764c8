/-
Runs of Go code over abstract data are sound, part 3.
Conditions: none.
-/
import Derived.Test.YtgdonkaoajbclaaGreatDoorEb
import Derived.MapKept
import Derived.WideKeyRuns
import Derived.Laws.IdiomStrings
set_option linter.all false
noncomputable section
set_option maxRecDepth 100000
set_option maxHeartbeats 4000000
open And renaming imp->ti
open Array renaming getElem?_eq_getElem->ee,getElem?_eq_some_iff->mg,getElem?_push->ow,length_toList->jf,size_append->qn,toList_append->ue,toList_inj->vk,toList_map->lr
open Bool renaming and_eq_true->az,false_eq_true->fe
open ByteArray renaming data_extract->rn
open Go.Builtin renaming append_->nm,copy_->vw,firstCells->fv,lenOf->vx,zeroCells->fp
open Go.Conv renaming bytesToString->vf
open Go.E.C renaming elems->ao,eqb->rp
open Go.E.Ext renaming alloc->xi
open Go.E.Hp renaming le_refl->gq
open Go.E.S renaming obj->jj
open Go.E.Ty renaming isAgg->jb,size->iy
open Go.E.Ty.arr renaming injEq->qd
open Go.E.V renaming ty->pz
open Go.Instr renaming checkKey->jm,findAsking->qk,findKey->sv,findNow->pk,lookup->tp,mapUpdate->nv,sameBits->mf,sameNow->na
open Go.MapKept renaming run_getObj_map->je,run_setObj_map->sq
open Go.Program renaming bytesOf->np,cellsOf->il
open Go.Result renaming andThen->ru,andThen_ok->cr
open Go.Result.ok renaming injEq->uo
open Go.Sem renaming run_bind->cu,run_pure->fb
open Go.Value renaming cells->fc
open List renaming all_eq_true->eh,append_assoc->dp,cons_append->ji,drop_zero->ia,eq_nil_of_length_eq_zero->fh,ext_getElem?->fk,forIn_cons->wz,getElem?_append_left->fm,getElem?_append_right->ft,getElem?_cons_succ->gf,getElem?_drop->jo,getElem?_eq_getElem->bg,getElem?_eq_none->gb,getElem?_eq_some_iff->bu,getElem?_map->dg,getElem?_take->fu,length_append->bt,length_take->kg,map_cons->dy,mem_append->dw,mem_cons->fz,mem_of_getElem?->fg,size_toArray->iv,take_left'->xc,toList_toArray->mj
open Nat renaming add_mul->dc,div_add_mod->xq,div_lt_iff_lt_mul->uk,eq_zero_or_pos->og,le_refl->bx,min_eq_left->rz,mul_le_mul_right->bz,mul_one->sc,sub_zero->qx,zero_add->cm,zero_le->dv,zero_mul->gy
open Option renaming bind_some->gh,getD_none->qy,getD_some->jh,map_some->gj
open Option.some renaming inj->oh,injEq->ek
open Or renaming imp->wc
open Prod.mk renaming injEq->gm
open Std.Legacy.Range renaming forIn_eq_forIn_range'->xf,size->xg
namespace Go.E
open Go
section
mutual
def V.ren (ρ:Key->Key) (θ:Nat->Nat):V->V
 | .sl eb e cs t=>.sl eb e cs (θ t)| .ptr k q τ=>.ptr (ρ k) q τ| .sr k q lo n cp eb e=>.sr (ρ k) q lo n cp eb e| .mp k=>.mp (ρ k)| .agg τ vs=>.agg τ (V.Cr ρ θ vs)| .fn f vs=>.fn f (V.Cr ρ θ vs)| .tup vs=>.tup (V.Cr ρ θ vs)| .d τ c=>.d τ c| .ts eb e cs=>.ts eb e cs| .emp eb e=>.emp eb e| .ym=>.ym| .yn τ c=>.yn τ c| .top τ=>.top τ| .any=>.any
def V.Cr (ρ:Key->Key) (θ:Nat->Nat):List V->List V
 | []=>[]|x::xs=>V.ren ρ θ x::V.Cr ρ θ xs
end
def O.ren (ρ:Key->Key):O->O
 | .box x=>.box (x.ren ρ id)| .map kτ vτ es=>.map kτ vτ (es.map fun c=>(c.1,c.2.ren ρ id))| .it l pos=>.it l pos| .dead τ=>.dead τ
def O.UG (ρ:Key->Key) (o:O):(o.ren ρ).EY=o.EY:=by cases o <;> rfl
def V.Iu (ρ:Key->Key) (θ:Nat->Nat) (x:V):(x.ren ρ θ).ty=x.ty:=by cases x <;> simp[V.ren,pz]
def V.lT (ρ:Key->Key) (θ:Nat->Nat) (x:V):(x.ren ρ θ).plain=x.plain:=by cases x <;> simp[V.ren,V.plain]
def V.q00 (ρ:Key->Key) (θ:Nat->Nat):∀xs:List V,(V.Cr ρ θ xs).length=xs.length
 | []=>rfl|x::xs=>by simp[V.Cr,V.q00 ρ θ xs]
mutual
def V.YE (ρ:Key->Key) (θ:Nat->Nat):∀x:V,(x.ren ρ θ).Ay=x.Ay
 | .agg τ vs=>by simp only[V.ren,V.Ay];exact V.YF ρ θ vs
 | .fn f vs=>by simp only[V.ren,V.Ay];exact V.YF ρ θ vs
 | .tup vs=>by simp only[V.ren,V.Ay];exact V.YF ρ θ vs
 | .sl _ _ _ _| .ptr _ _ _| .sr _ _ _ _ _ _ _| .mp _| .d _ _| .ts _ _ _| .emp _ _| .ym| .yn _ _| .top _| .any=>by simp[V.ren,V.Ay]
def V.YF (ρ:Key->Key) (θ:Nat->Nat):∀xs:List V,V.CF (V.Cr ρ θ xs)=V.CF xs
 | []=>rfl|x::xs=>by simp only[V.Cr,V.CF,V.YE ρ θ x,V.YF ρ θ xs]
end
mutual
def V.KO (ρ ρ':Key->Key) (h:∀k,ρ' (ρ k)=k):∀x:V,(x.ren ρ id).ren ρ' id=x
 | .agg τ vs=>by simp only[V.ren,V.YG ρ ρ' h vs]
 | .fn f vs=>by simp only[V.ren,V.YG ρ ρ' h vs]
 | .tup vs=>by simp only[V.ren,V.YG ρ ρ' h vs]
 | .ptr _ _ _| .sr _ _ _ _ _ _ _| .mp _=>by simp[V.ren,h]
 | .sl _ _ _ _| .d _ _| .ts _ _ _| .emp _ _| .ym| .yn _ _| .top _| .any=>by simp[V.ren]
def V.YG (ρ ρ':Key->Key) (h:∀k,ρ' (ρ k)=k):∀xs:List V,V.Cr ρ' id (V.Cr ρ id xs)=xs
 | []=>rfl|x::xs=>by simp only[V.Cr,V.KO ρ ρ' h x,V.YG ρ ρ' h xs]
end
def O.KO (ρ ρ':Key->Key) (h:∀k,ρ' (ρ k)=k) (o:O):(o.ren ρ).ren ρ'=o:=by
 cases o with
 |box x=>simp[O.ren,V.KO ρ ρ' h]|map kτ vτ es=>
  simp only[O.ren,List.map_map];congr 1;refine(List.map_congr_left (g:=id) fun c _=>?_).trans (List.map_id _);simp[V.KO ρ ρ' h]
 |it=>rfl|dead=>rfl
structure Gf (Γ Γ':G) (ρ:Key->Key) (hm:Option Key):Prop where
 H:Γ.H.le Γ'.H
 ι:∀k x,Γ.ι k=some x->Γ'.ι (ρ k)=some x
 σ:∀b sz,Γ.σ b=some sz->Γ'.σ b=some sz
 κ:∀k b p sz,hm=some k->Γ.κ b=some (.home k p,sz)->Γ'.κ b=some (.home (ρ k) p,sz)/\Γ'.H b=Γ.H b
section
variable {Γ Γ':G} {ρ:Key->Key} {θ:Nat->Nat}
mutual
def AA.ren {hm:Option Key} (hp:Gf Γ Γ' ρ hm) (hτ:∀t x,Γ.τ t=some x->Γ'.τ (θ t)=some x):∀(x:V) {p:List Nat} {vs:List Value},AA Γ hm p x vs->AA Γ' (hm.map ρ) p (x.ren ρ θ) vs
 | .d τ c,_,_,h=>by simp only[AA,V.ren]at h ⊢;exact h.mono hp.H
 | .sl eb e cs t,_,_,h=>by simp only[AA,V.ren]at h ⊢;obtain⟨a,n,cap,h1,h2,x,L,h3,h4⟩:=h;exact⟨a,n,cap,h1,h2.mono hp.H,x,L,hτ t _ h3,h4⟩
 | .ts eb e cs,_,_,h=>by simp only[AA,V.ren]at h ⊢;obtain⟨a,n,cap,k,h0,h1,h2,h3⟩:=h;refine⟨a,n,cap,ρ k,by rw[h0];rfl,h1,h2.mono hp.H,?_⟩;rcases h3 with h3|⟨b,l,sz,a1,a2,a3,a4,a5⟩;{exact .inl h3};{obtain⟨e1,e2⟩:=hp.κ k b _ sz h0 a4;exact .inr ⟨b,l,sz,a1,by rw[e2,a2],a3,e1,a5⟩}
 | .emp _ _,_,_,h=>by simpa only[AA,V.ren]using h
 | .ym,_,_,h=>by simpa only[AA,V.ren]using h
 | .ptr k q τ,_,_,h=>by simp only[AA,V.ren]at h ⊢;obtain⟨b,τ0,o,h1,h2⟩:=h;exact⟨b,τ0,o,hp.ι _ _ h1,h2⟩
 | .yn τ c,_,_,h=>by simp only[AA,V.ren]at h ⊢;obtain⟨b,off,l,h1,h2,h3,h4⟩:=h;obtain⟨l',a1,a2,a3⟩:=aO hp.H h2 h3 h4;exact⟨b,off,l',h1,a1,a2,a3⟩
 | .sr k q lo n cp eb e,_,_,h=>by simp only[AA,V.ren]at h ⊢;rcases h with h|⟨b,τ0,o,m,cap,h1,h2,h3,h4,h5,h6,h7,h8,h9⟩;{exact .inl h};exact .inr ⟨b,τ0,o,m,cap,hp.ι _ _ h1,h2,h3,h4,h5,h6,h7,h8,fun e=>(h9 e).imp id fun⟨sz,a1,a2⟩=>⟨sz,hp.σ _ _ a1,a2⟩⟩
 | .mp k,_,_,h=>by simp only[AA,V.ren]at h ⊢;obtain⟨b,h1,h2⟩:=h;exact⟨b,hp.ι _ _ h1,h2⟩
 | .agg τ xs,_,_,h=>by simp only[AA,V.ren]at h ⊢;exact⟨h.1,h.2.1,by rw[V.q00];exact h.2.2.1,h.2.2.2.1,Aa.ren hp hτ xs h.2.2.2.2⟩
 | .fn f yp,_,_,h=>by simp only[AA,V.ren]at h ⊢;obtain⟨cv,h1,h2⟩:=h;exact⟨cv,h1,BF.ren ⟨hp.H,hp.ι,hp.σ,fun _ _ _ _ h=>by cases h⟩ hτ yp h2⟩
 | .tup _,_,_,h=>by simp only[AA]at h
 | .top _,_,_,h=>by simpa only[AA,V.ren]using h
 | .any,_,_,_=>by simp only[AA,V.ren]
def Aa.ren {hm:Option Key} (hp:Gf Γ Γ' ρ hm) (hτ:∀t x,Γ.τ t=some x->Γ'.τ (θ t)=some x):∀(xs:List V) {p:List Nat} {i:Nat} {τ:Ty} {vs:List Value},Aa Γ hm p i τ xs vs->Aa Γ' (hm.map ρ) p i τ (V.Cr ρ θ xs) vs
 | [],_,_,_,_,_=>by simp only[V.Cr,Aa]
 |x::xs,_,_,_,_,h=>by simp only[Aa,V.Cr,V.Iu]at h ⊢;obtain⟨⟨o,f,h1,h2,h3,h4⟩,h5⟩:=h;exact⟨⟨o,f,h1,h2,h3,AA.ren hp hτ x h4⟩,Aa.ren hp hτ xs h5⟩
def BF.ren (hp:Gf Γ Γ' ρ none) (hτ:∀t x,Γ.τ t=some x->Γ'.τ (θ t)=some x):∀(xs:List V) {vs:List Value},BF Γ xs vs->BF Γ' (V.Cr ρ θ xs) vs
 | [],_,h=>by simpa only[BF,V.Cr]using h
 |x::xs,_,h=>by simp only[BF,V.Cr,V.Iu]at h ⊢;obtain⟨v,vs',h1,h2,h3,h4⟩:=h;exact⟨v,vs',h1,by simpa using AA.ren hp hτ x h2,h3,BF.ren hp hτ xs h4⟩
end
mutual
def AA.Jd {hm}:∀(x:V) {p:List Nat} {vs:List Value},x.Ay=true->AA Γ hm p x vs->AA {Γ with τ:=fun _=>none} hm p x vs
 | .sl _ _ _ _,_,_,h,_=>by simp[V.Ay]at h
 | .agg τ xs,_,_,hn,h=>by simp only[AA]at h ⊢;exact⟨h.1,h.2.1,h.2.2.1,h.2.2.2.1,Aa.Jd xs (by simpa[V.Ay]using hn) h.2.2.2.2⟩
 | .fn f yp,_,_,hn,h=>by simp only[AA]at h ⊢;obtain⟨cv,h1,h2⟩:=h;exact⟨cv,h1,BF.Jd yp (by simpa[V.Ay]using hn) h2⟩
 | .tup _,_,_,_,h=>by simp only[AA]at h
 | .ts _ _ _,_,_,_,h=>by simp only[AA]at h ⊢;exact h
 | .d _ _,_,_,_,h| .emp _ _,_,_,_,h| .ym,_,_,_,h| .ptr _ _ _,_,_,_,h| .yn _ _,_,_,_,h| .sr _ _ _ _ _ _ _,_,_,_,h| .mp _,_,_,_,h| .top _,_,_,_,h=>by simpa only[AA]using h
 | .any,_,_,_,_=>by simp only[AA]
def Aa.Jd {hm}:∀(xs:List V) {p:List Nat} {i:Nat} {τ:Ty} {vs:List Value},V.CF xs=true->Aa Γ hm p i τ xs vs->Aa {Γ with τ:=fun _=>none} hm p i τ xs vs
 | [],_,_,_,_,_,_=>by simp only[Aa]
 |x::xs,_,_,_,_,hn,h=>by simp only[Aa]at h ⊢;simp only[V.CF,az]at hn;obtain⟨⟨o,f,h1,h2,h3,h4⟩,h5⟩:=h;exact⟨⟨o,f,h1,h2,h3,AA.Jd x hn.1 h4⟩,Aa.Jd xs hn.2 h5⟩
def BF.Jd:∀(xs:List V) {vs:List Value},V.CF xs=true->BF Γ xs vs->BF {Γ with τ:=fun _=>none} xs vs
 | [],_,_,h=>by simpa only[BF]using h
 |x::xs,_,hn,h=>by simp only[BF]at h ⊢;simp only[V.CF,az]at hn;obtain⟨v,vs',h1,h2,h3,h4⟩:=h;exact⟨v,vs',h1,AA.Jd x hn.1 h2,h3,BF.Jd xs hn.2 h4⟩
end
def AA.Bg {hm:Option Key} (hp:Gf Γ Γ' ρ hm) {x:V} (hn:x.Ay=true) {p:List Nat} {vs} (h:AA Γ hm p x vs):AA Γ' (hm.map ρ) p (x.ren ρ θ) vs:=by have h1:=AA.Jd x hn h;refine AA.ren (Γ:={Γ with τ:=fun _=>none}) (θ:=θ) ⟨hp.H,hp.ι,hp.σ,hp.κ⟩ (fun t x h=>by cases h) x h1
def O.Yr {ρ} {o:O} (h:o.Jl):(o.ren ρ).Jl:=by cases o <;> simp only[O.Jl,O.ren]at h ⊢;obtain⟨e,rfl⟩:=h;exact⟨e,rfl⟩
def Own.ren {w w':World} {k} {o:O} (hp:Gf Γ Γ' ρ (some k)) (hb:o.EY=false->∀b τ,Γ.ι k=some (b,τ)->w'.heap[b]? =w.heap[b]?/\Γ'.H b=none/\Γ'.Z b=none) (hsz:w.heap.size<=w'.heap.size)
  (h:Own Γ w k o):Own Γ' w' (ρ k) (o.ren ρ):=by
 cases o with
 |box x=>
  obtain⟨b,cells,T,h1,h2,h3,h4,h5,h6,h7,h8⟩:=h;obtain⟨e1,e2,e3⟩:=hb rfl _ _ h1;exact⟨b,cells,T,by rw[V.Iu];exact hp.ι _ _ h1,e2,e3,by rw[e1,h4],by rw[V.Iu];exact h5,by rw[V.Iu];exact h6.Bg hp h8,by rw[V.lT];exact h7,by rw[V.YE];exact h8⟩
 |map kτ vτ es=>
  obtain⟨b,ms,clock,h1,h2,h3,h4,h5,h6,h7⟩:=h;obtain⟨e1,e2,e3⟩:=hb rfl _ _ h1;refine⟨b,ms,clock,hp.ι _ _ h1,e2,e3,by rw[e1,h4],by simpa using h5,fun i m c hm hc=>?_,h7⟩;simp only[dg]at hc;cases hi:es[i]? with
  |none=>simp[hi]at hc|some c0=>
   simp[hi]at hc;subst hc;obtain⟨a1,a2,a3,a4,a5,a6,a7⟩:=h6 i m c0 hm hi;exact⟨a1.mono hp.H,a2,by simpa using AA.Bg (hm:=none) ⟨hp.H,hp.ι,hp.σ,fun _ _ _ _ h=>by cases h⟩ a7 a3,a4,by simp only[V.Iu];exact a5,by simp only[V.lT];exact a6,by simp only[V.YE];exact a7⟩
 |it l pos=>
  obtain⟨b,adr,v,h1,h2,h3,h4,h5,h6,h7⟩:=h;obtain⟨e1,e2,e3⟩:=hb rfl _ _ h1;refine⟨b,adr,v,hp.ι _ _ h1,e2,e3,by rw[e1,h4],h5,h6,?_⟩;rcases h7 with h7|⟨g,cap,g1,g2,g3,g4⟩;{exact .inl h7};{obtain⟨q1,q2⟩:=hp.κ _ g _ _ rfl g3;exact .inr ⟨g,cap,g1,by rw[q2];exact g2,q1,g4⟩}
 |dead τ=>
  obtain⟨b,h1,h4⟩:=h;exact⟨b,hp.ι _ _ h1,by omega⟩
mutual
def V.Bj:V->V
 | .sl eb e cs _=>.d (.slice eb e) (.slice cs)| .agg τ vs=>.agg τ (V.Fi vs)| .fn f vs=>.fn f (V.Fi vs)| .tup vs=>.tup (V.Fi vs)|x=>x
def V.Fi:List V->List V
 | []=>[]|x::xs=>V.Bj x::V.Fi xs
end
def V.sJ (x:V):x.Bj.ty=x.ty:=by cases x <;> simp[V.Bj,pz]
def V.sK:∀xs:List V,(V.Fi xs).length=xs.length
 | []=>rfl|x::xs=>by simp[V.Fi,V.sK xs]
mutual
def V.sI:∀x:V,x.Bj.Ay=true
 | .agg τ vs=>by simp only[V.Bj,V.Ay];exact V.Vf vs
 | .fn f vs=>by simp only[V.Bj,V.Ay];exact V.Vf vs
 | .tup vs=>by simp only[V.Bj,V.Ay];exact V.Vf vs
 | .sl _ _ _ _| .ptr _ _ _| .sr _ _ _ _ _ _ _| .mp _| .d _ _| .ts _ _ _| .emp _ _| .ym| .yn _ _| .top _| .any=>by simp[V.Bj,V.Ay]
def V.Vf:∀xs:List V,V.CF (V.Fi xs)=true
 | []=>rfl|x::xs=>by simp only[V.Fi,V.CF,V.sI x,V.Vf xs,Bool.and_self]
end
mutual
def AA.Bj {hm}:∀(x:V) {p:List Nat} {vs:List Value},AA Γ hm p x vs->AA Γ hm p x.Bj vs
 | .sl _ _ _ _,_,_,h=>by simp only[AA,V.Bj]at h ⊢;obtain⟨a,n,cap,rfl,h2,_⟩:=h;exact h2
 | .agg τ xs,_,_,h=>by simp only[AA,V.Bj]at h ⊢;exact⟨h.1,h.2.1,by rw[V.sK];exact h.2.2.1,h.2.2.2.1,Aa.Bj xs h.2.2.2.2⟩
 | .fn f yp,_,_,h=>by simp only[AA,V.Bj]at h ⊢;obtain⟨cv,h1,h2⟩:=h;exact⟨cv,h1,BF.Bj yp h2⟩
 | .tup _,_,_,h=>by simp only[AA]at h
 | .d _ _,_,_,h| .ts _ _ _,_,_,h| .emp _ _,_,_,h| .ym,_,_,h| .ptr _ _ _,_,_,h| .yn _ _,_,_,h| .sr _ _ _ _ _ _ _,_,_,h| .mp _,_,_,h| .top _,_,_,h=>by simpa only[AA,V.Bj]using h
 | .any,_,_,_=>by simp only[AA,V.Bj]
def Aa.Bj {hm}:∀(xs:List V) {p:List Nat} {i:Nat} {τ:Ty} {vs:List Value},Aa Γ hm p i τ xs vs->Aa Γ hm p i τ (V.Fi xs) vs
 | [],_,_,_,_,_=>by simp only[V.Fi,Aa]
 |x::xs,_,_,_,_,h=>by simp only[Aa,V.Fi,V.sJ]at h ⊢;obtain⟨⟨o,f,h1,h2,h3,h4⟩,h5⟩:=h;exact⟨⟨o,f,h1,h2,h3,AA.Bj x h4⟩,Aa.Bj xs h5⟩
def BF.Bj:∀(xs:List V) {vs:List Value},BF Γ xs vs->BF Γ (V.Fi xs) vs
 | [],_,h=>by simpa only[BF,V.Fi]using h
 |x::xs,_,h=>by simp only[BF,V.Fi,V.sJ]at h ⊢;obtain⟨v,vs',h1,h2,h3,h4⟩:=h;exact⟨v,vs',h1,AA.Bj x h2,h3,BF.Bj xs h4⟩
end
def AG.Bj {x:V} {v} (h:AG Γ x v):AG Γ x.Bj v:=by
 cases x <;> (try exact h)
 case sl=>obtain⟨h1,h2⟩:=h;exact⟨AA.Bj _ h1,h2⟩
 case agg=>obtain⟨h1,h2⟩:=h;exact⟨AA.Bj _ h1,h2⟩
 case fn=>obtain⟨h1,h2⟩:=h;exact⟨AA.Bj _ h1,h2⟩
 case tup=>obtain⟨vs,h1,h2⟩:=h;exact⟨vs,h1,BF.Bj _ h2⟩
def AG.ren {x:V} {v} (hp:Gf Γ Γ' ρ none) (hτ:∀t x,Γ.τ t=some x->Γ'.τ (θ t)=some x) (h:AG Γ x v):AG Γ' (x.ren ρ θ) v:=by
 cases x
 case any=>trivial
 case tup vs=>obtain⟨us,h1,h2⟩:=h;exact⟨us,h1,BF.ren hp hτ _ h2⟩
 all_goals
  obtain⟨h1,h2⟩:=h;have:=AA.ren hp hτ _ h1;exact(Bd (by simp[V.ren,V.plain])).2 ⟨this,by simpa[V.Iu]using h2⟩
def AG.Bg {x:V} {v} (hp:Gf Γ Γ' ρ none) (hn:x.Ay=true) (h:AG Γ x v):AG Γ' (x.ren ρ θ) v:=by
 cases x
 case any=>trivial
 case tup vs=>
  obtain⟨us,h1,h2⟩:=h;refine⟨us,h1,?_⟩;exact BF.ren (Γ:={Γ with τ:=fun _=>none}) (θ:=θ) ⟨hp.H,hp.ι,hp.σ,hp.κ⟩ (fun t x h=>by cases h) _ (BF.Jd _ (by simpa[V.Ay]using hn) h2)
 all_goals
  obtain⟨h1,h2⟩:=h;have:=AA.Bg (θ:=θ) hp hn h1;exact(Bd (by simp[V.ren,V.plain])).2 ⟨this,by simpa[V.Iu]using h2⟩
end
end
structure Cx where
 P:Program
 gl:Nat->Option (Ty × C)
def V.slot (n:Nat):V->V
 | .ts eb e cs=>.sl eb e cs n|x=>x
def CZ:Nat->List V->List V
 |_,[]=>[]|n,x::xs=>x.slot n::CZ (n+1) xs
def V.DR (n:Nat):V->List (Nat × Option Nat)
 | .ts _ _ cs=>[(n,some cs.length)]|_=>[]
def GA:Nat->List V->List (Nat × Option Nat)
 |_,[]=>[]|n,x::xs=>x.DR n++GA (n+1) xs
def V.CY (n:Nat):V->V
 | .tup vs=>.tup (CZ n vs)|x=>x.slot n
def V.tkR (n:Nat):V->List (Nat × Option Nat)
 | .tup vs=>GA n vs|x=>x.DR n
def PC:Nat->List V->List (Nat × V)
 |_,[]=>[]|i,x::xs=>(i,x)::PC (i+1) xs
def S.start (xs:List V) (A:Key->Option O):S:=⟨PC 0 (CZ 1000 xs),[],A,GA 1000 xs⟩
def S.fin (v:V) (L:List (Key × O)) (A:Key->Option O):S:=⟨[],L,A,v.tkR 2000⟩
mutual
def V.ok (f g:Nat->Bool):V->Bool
 | .ptr (.l k) _ _| .mp (.l k)| .sr (.l k) _ _ _ _ _ _=>f k| .sl _ _ _ t=>g t| .agg _ vs| .fn _ vs| .tup vs=>V.oks f g vs|_=>true
def V.oks (f g:Nat->Bool):List V->Bool
 | []=>true|x::xs=>x.ok f g&&V.oks f g xs
end
def V.DP (f g:Nat->Bool):List (C × V)->Bool
 | []=>true|x::xs=>x.2.ok f g&&V.DP f g xs
mutual
def Ty.EC:Ty->Bool
 | .int _| .bool| .str=>true| .arr _ e=>e.EC| .struct _ _ fs=>Ty.TD fs|_=>false
def Ty.TD:List Ty->Bool
 | []=>true|t::l=>t.EC&&Ty.TD l
end
def O.ok (f g:Nat->Bool):O->Bool
 | .box x=>x.ok f g| .map _ _ es=>V.DP f g es| .it _ _| .dead _=>true
def BS:Nat->Bool:=fun _=>false
def AOk (A:Key->Option O):Prop:=∀k o,A k=some o->o.ok BS BS=true
def Bo (X:Cx) (f:FuncId) (xs:List V) (A:Key->Option O) (v:V) (L:List (Key × O)):Prop:=
 ∀(A':Key->Option O) (Γ:G) (w:World) (args:Array Value),(∀k o,A k=some o->A' k=some o)->Γ.gl=X.gl->AQ Γ w (S.start xs A')/\AOk A'->xs.length=args.size->(∀(i:Nat) x u,(CZ 1000 xs)[i]? =some x->args[i]? =some u->AG Γ x u)->
  Calls X.P f args w fun e w'=>∃u Γ',e= .returned u/\GLe Γ Γ'/\AQ Γ' w' (S.fin v L A')/\AG Γ' (v.CY 2000) u
def mV:∀(n:Nat) (xs:List V),(CZ n xs).length=xs.length
 |_,[]=>rfl|n,x::xs=>by simp[CZ,mV (n+1) xs]
def Ue:∀(n:Nat) (xs:List V) (i:Nat),(CZ n xs)[i]? =(xs[i]?).map (V.slot (n+i))
 |_,[],i=>by simp[CZ]
 |n,x::xs,0=>by simp[CZ]
 |n,x::xs,i+1=>by simp only[CZ,gf,Ue (n+1) xs i];rw[show n+1+i=n+(i+1) by omega]
def Md {α:Type}:∀(l m:List (Nat × α)) (n:Nat),look (l++m) n=match look l n with|some x=>some x|none=>look m n
 | [],_,_=>rfl|(j,x)::l,m,n=>by simp only[ji,look];split;{rfl};{exact Md l m n}
def q2n (n:Nat) (x:V) (t:Nat):look (x.DR n) t=if n=t then(match x with| .ts _ _ cs=>some (some cs.length)|_=>none)else none:=by cases x <;> simp[V.DR,look]
def Um:∀(n:Nat) (xs:List V) (t:Nat),look (GA n xs) t=if n<=t then(match xs[t-n]? with|some (.ts _ _ cs)=>some (some cs.length)|_=>none)else none
 |n,[],t=>by simp[GA,look]
 |n,x::xs,t=>by
  simp only[GA,Md,q2n,Um (n+1) xs t];by_cases h1:n=t
  ·subst h1;simp only[if_true,bx,Nat.sub_self,List.getElem?_cons_zero];cases x <;> simp
   all_goals (intro h;omega)
  ·rw[if_neg h1];by_cases h2:n<=t;{rw[if_pos h2,if_pos (by omega),show t-n=(t-(n+1))+1 by omega,gf]};{rw[if_neg h2,if_neg (by omega)]}
def V.gE:V->Bool
 | .ts _ _ _=>false|_=>true
def DU (P:Program) (tip:Bool) (s:S) (T:TypeId) (x:V):V:=
 match x with
 | .sl eb e cs t=>if tip=true/\s.live t=some cs.length then .ts eb e cs else .d (.slice eb e) (.slice cs)| .emp eb e=>if tip=true then .ts eb e []else .d (.slice eb e) (.slice [])| .ym=>match ty P T with| .slice eb e=>if tip=true then .ts eb e []else .d (.slice eb e) (.slice [])|_=>if tip=true then .ts 0 (.opq 0) []else .ym
 | .agg τ vs=>match Bp (.agg τ vs)with|some c=>.d τ c|none=>(V.agg τ vs).Bj.ren .g id
 |x=>x.Bj.ren .g id
def CU (P:Program) (tip:Bool) (s:S):List TypeId->List V->List V
 |T::Ts,x::xs=>DU P tip s T x::CU P tip s Ts xs|_,_=>[]
def CH (tip:Bool) (s:S) (x:V):Option (Option Nat):=
 match x with
 | .sl _ _ cs t=>if tip=true/\s.live t=some cs.length then some (some t)else none| .emp _ _| .ym=>if tip=true then some none else none|_=>none
def CR (tip:Bool) (s:S):List V->List Nat
 | []=>[]|x::xs=>(match CH tip s x with|some (some t)=>[t] |_=>[])++CR tip s xs
def GX:List Nat->Bool
 | []=>true|x::xs=> !(xs.contains x)&&GX xs
def q3F {P} {tip:Bool} {s:S} {T:TypeId} {x:V} {eb:Nat} {e} {cs:List C} (h:DU P tip s T x= .ts eb e cs) (hx:x.gE=true):
  (∃t,x= .sl eb e cs t/\CH tip s x=some (some t)/\s.live t=some cs.length)\/(cs=[]/\CH tip s x=some none):=by
 cases x <;> simp only[DU]at h
 case sl eb' e' cs' t=>
  split at h;{rename_i hc;cases h;exact .inl ⟨t,rfl,by simp[CH,hc],hc.2⟩};{cases h}
 case emp eb' e'=>
  split at h;{rename_i hc;cases h;exact .inr ⟨rfl,by simp[CH,hc]⟩};{cases h}
 case ym=>
  split at h;{split at h;{rename_i hc;cases h;exact .inr ⟨rfl,by simp[CH,hc]⟩};{cases h}};{split at h;{rename_i hc;cases h;exact .inr ⟨rfl,by simp[CH,hc]⟩};{cases h}}
 case agg=>split at h <;> simp[V.Bj,V.ren]at h
 case ts=>simp[V.gE]at hx
 all_goals (simp[V.Bj,V.ren]at h)
def SP {tip:Bool} {s}:∀{xs:List V} {i:Nat} {x:V} {t:Nat},xs[i]? =some x->CH tip s x=some (some t)->t∈CR tip s xs
 | [],_,_,_,h,_=>by simp at h
 |y::ys,0,x,t,h,hx=>by simp at h;subst h;simp[CR,hx]
 |y::ys,i+1,x,t,h,hx=>by simp only[CR,dw];exact .inr (SP (by simpa using h) hx)
def W7 {tip:Bool} {s}:∀{xs:List V} {i j:Nat} {x y:V} {t:Nat},GX (CR tip s xs)=true->xs[i]? =some x->xs[j]? =some y->CH tip s x=some (some t)->CH tip s y=some (some t)->i=j
 | [],_,_,_,_,_,_,h,_,_,_=>by simp at h
 |z::zs,i,j,x,y,t,hn,hi,hj,hx,hy=>by
  have key:∀{k:Nat} {u:V},zs[k]? =some u->CH tip s u=some (some t)->CH tip s z=some (some t)->False:=by intro k u hk hu hz;have:=SP hk hu;simp[CR,hz,GX]at hn;exact hn.1 this
  cases i with
  |zero=>
   simp at hi;subst hi;cases j with
   |zero=>rfl|succ j=>exact(key (by simpa using hj) hy hx).elim
  |succ i=>
   cases j with
   |zero=>simp at hj;subst hj;exact(key (by simpa using hi) hx hy).elim|succ j=>
    have hn':GX (CR tip s zs)=true:=by simp only[CR]at hn;split at hn;{simp[GX]at hn;exact hn.2};{simpa using hn}
    have:=W7 (i:=i) (j:=j) hn' (by simpa using hi) (by simpa using hj) hx hy;omega
def VK {P} {tip:Bool} {s}:∀{Ts:List TypeId} {xs:List V} {i:Nat} {z:V},(CU P tip s Ts xs)[i]? =some z->∃(T:TypeId) (x:V),Ts[i]? =some T/\xs[i]? =some x/\z=DU P tip s T x
 | [],_,_,_,h=>by simp[CU]at h
 |_::_,[],_,_,h=>by simp[CU]at h
 |T::Ts,x::xs,0,z,h=>by simp[CU]at h;exact⟨T,x,rfl,rfl,h.symm⟩
 |T::Ts,x::xs,i+1,z,h=>by simp only[CU,gf]at h;obtain⟨T',x',h1,h2,h3⟩:=VK h;exact⟨T',x',by simpa using h1,by simpa using h2,h3⟩
def ZR {P} {tip:Bool} {s}:∀{Ts:List TypeId} {xs:List V},Ts.length=xs.length->(CU P tip s Ts xs).length=xs.length
 | [],[],_=>rfl|T::Ts,x::xs,h=>by simp[CU,ZR (Ts:=Ts) (xs:=xs) (by simpa using h)]
 | [],_::_,h=>by simp at h
 |_::_,[],h=>by simp at h
def De (tip:Bool) (s:S) (t:Nat):Nat->List V->Option Nat
 |_,[]=>none|i,x::xs=>if CH tip s x=some (some t)then some i else De tip s t (i+1) xs
def VH {tip:Bool} {s} {t:Nat}:∀{xs:List V} {i j:Nat},De tip s t i xs=some j->∃(k:Nat) (x:V),j=i+k/\xs[k]? =some x/\CH tip s x=some (some t)
 | [],_,_,h=>by simp[De]at h
 |x::xs,i,j,h=>by simp only[De]at h;split at h;{rename_i hx;cases h;exact⟨0,x,rfl,rfl,hx⟩};{obtain⟨k,y,h1,h2,h3⟩:=VH h;exact⟨k+1,y,by omega,by simpa using h2,h3⟩}
def pR {tip:Bool} {s} {t:Nat}:∀{xs:List V} {i:Nat},De tip s t i xs=none->t∉CR tip s xs
 | [],_,_=>by simp[CR]
 |x::xs,i,h=>by simp only[De]at h;split at h;{cases h};{rename_i hx;have:=pR h;simp only[CR,dw,not_or];refine⟨?_,this⟩;cases ha:CH tip s x with|none=>simp|some o=>cases o with|none=>simp|some u=>simp;intro e;subst e;exact hx ha}
section
def G.call (Γ:G) (w:World) (tip:Bool) (s:S) (ys:List V):G:=
 {H:=Γ.H
  Z:=fun b=>match Γ.Z b with
   |some o=>some o|none=>match Γ.κ b with
    |some (.tok t,_)=>match De tip s t 0 ys with|some _=>none|none=>w.heap[b]?
    |_=>none
  ι:=fun k=>match k with| .l _=>none| .g k=>Γ.ι k
  τ:=fun m=>if 1000<=m then(match ys[m-1000]? with|some y=>(match CH tip s y with|some (some t)=>Γ.τ t|some none=>some (none,0)|none=>none)|none=>none)else none
  κ:=fun b=>match Γ.κ b with
   |some (.home k p,sz)=>some (.home (.g k) p,sz)|some (.tok t,sz)=>match De tip s t 0 ys with|some i=>some (.tok (1000+i),sz)|none=>none
   |none=>none
  gl:=Γ.gl
  oo:=Γ.oo
  σ:=Γ.σ}
def S.up (s:S):Key->Option O:=fun k=>(s.obj k).map (O.ren .g)
section
variable {P:Program} {Γ:G} {w:World} {s:S} {tip:Bool} {ys:List V} {Ts:List TypeId}
def qT (Γ:G) (w:World) (tip:Bool) (s:S) (ys:List V) {b:Nat} (hz:Γ.Z b=none) (h:∀t sz,Γ.κ b=some (.tok t,sz)->De tip s t 0 ys≠none):(Γ.call w tip s ys).Z b=none:=by
 simp only[G.call,hz];cases hk:Γ.κ b with
 |none=>rfl|some x=>
  obtain⟨o,sz⟩:=x;cases o with
  |home=>rfl|tok t=>
   simp only;cases ha:De tip s t 0 ys with
   |some _=>rfl|none=>exact absurd ha (h t sz hk)
def qU (Γ:G) (w:World) (tip:Bool) (s:S) (ys:List V) (hm:Option Key):Gf Γ (Γ.call w tip s ys) .g hm:=
 ⟨gq _,fun k x h=>h,fun _ _ h=>h,fun k b p sz _ h=>⟨by simp[G.call,h],rfl⟩⟩
def q3E {y u} (c:AQ Γ w s) (hr:AG Γ y u) {m:Option Nat} (h:CH tip s y=some m):
  ∀T,∃eb e cs,DU P tip s T y= .ts eb e cs:=by
 intro T;cases y <;> simp only[CH,reduceCtorEq]at h
 case sl eb e cs t=>
  split at h;{rename_i hc;exact⟨eb,e,cs,by simp[DU,hc]⟩};{cases h}
 case emp eb e=>
  split at h;{rename_i hc;exact⟨eb,e,[],by simp[DU,hc]⟩};{cases h}
 case ym=>
  split at h;{rename_i hc;simp only[DU,hc,if_true];split;{exact⟨_,_,_,rfl⟩};{exact⟨_,_,_,rfl⟩}};{cases h}
structure NQ (P:Program) (Γ:G) (tip:Bool) (s:S) (Ts:List TypeId) (ys:List V) (us:List Value):Prop where
 len:Ts.length=ys.length
 z6V:ys.length=us.length
 rep:∀(i:Nat) (y:V) (u:Value),ys[i]? =some y->us[i]? =some u->AG Γ y u
 nd:GX (CR tip s ys)=true
def NQ.ix {us} (a:NQ P Γ tip s Ts ys us) {t i:Nat} {y} (hy:ys[i]? =some y) (ht:CH tip s y=some (some t)):De tip s t 0 ys=some i:=by
 cases h:De tip s t 0 ys with
 |none=>exact absurd (SP hy ht) (pR h)|some j=>
  obtain⟨k,x,h1,h2,h3⟩:=VH h;have:=W7 a.nd hy h2 ht h3;rw[h1,this];simp
def AQ.call (c:AQ Γ w s) {us} (a:NQ P Γ tip s Ts ys us):AQ (Γ.call w tip s ys) w (S.start (CU P tip s Ts ys) s.up):=by
 have yr:∀k o,(S.start (CU P tip s Ts ys) s.up).obj k=some o->∃k' o',k= .g k'/\s.obj k'=some o'/\o=o'.ren .g:=by
  intro k o h;cases k with
  |l n=>simp[S.start,jj,Bx,AR]at h|g k=>
   have h:s.up k=some o:=by simpa[S.start,jj,Bx,AR]using h
   simp only[S.up]at h;cases ho:s.obj k with
   |none=>simp[ho]at h|some o'=>simp[ho]at h;exact⟨k,o',rfl,ho,h.symm⟩
 have ze:∀k,s.Bb k=true->(S.start (CU P tip s Ts ys) s.up).Bb (.g k)=true:=by
  intro k h;cases ho:s.obj k with
  |none=>simp[S.Bb,Nv,ho]at h|some o=>
   have e:(S.start (CU P tip s Ts ys) s.up).obj (.g k)=some (o.ren .g):=by simp[S.start,jj,Bx,AR,S.up]at ho ⊢;exact⟨o,ho,rfl⟩
   rw[Ed e,O.UG];rw[Ed ho]at h;exact h
 refine⟨c.hH,fun b o h=>?_,fun b o sz h=>?_,fun k o h=>?_,fun k h=>?_,fun k k' b τ τ' h1 h2=>?_,fun m L h=>?_,fun m h=>?_,c.hgl,c.hoo,c.hσ⟩
 ·simp only[G.call]at h;cases hz:Γ.Z b with
  |some o'=>simp[hz]at h;subst h;exact c.hZ b _ hz|none=>
   simp only[hz]at h;cases hk:Γ.κ b with
   |none=>simp[hk]at h|some x=>
    obtain⟨t,sz⟩:=x;cases t with
    |home=>simp[hk]at h|tok t=>
     simp only[hk]at h;split at h;{cases h};{exact h}
 ·cases hk:Γ.κ b with
  |none=>simp[G.call,hk]at h|some x=>
   obtain⟨o',sz'⟩:=x;obtain⟨a1,a2,arr,T,a3,a4,a5⟩:=c.hκ b o' sz' hk;have hT:Ls o T:=by
    cases o' with
    |home _ p=>simp[G.call,hk]at h;rw[<-h.1];cases p <;> exact a5
    |tok t=>
     simp only[G.call,hk]at h;cases hi:De tip s t 0 ys with
     |none=>simp[hi]at h|some i=>simp[hi]at h;rw[<-h.1];trivial
   have hsz:sz'=sz/\∀t,o'= .tok t->De tip s t 0 ys≠none:=by
    cases o' with
    |home=>simp[G.call,hk]at h;exact⟨h.2,fun t e=>by cases e⟩|tok t=>
     simp only[G.call,hk]at h;cases hi:De tip s t 0 ys with
     |none=>simp[hi]at h|some i=>simp[hi]at h;exact⟨h.2,fun t' e=>by cases e;rw[hi];simp⟩
   obtain⟨rfl,hix⟩:=hsz;exact⟨qT Γ w tip s ys a1 (fun t sz h=>by rw[hk]at h;cases h;exact hix t rfl),a2,arr,T,a3,a4,hT⟩
 ·obtain⟨k',o',rfl,ho,rfl⟩:=yr k o h;refine(c.obj k' o' ho).imp (fun h=>⟨h.1,O.Yr h.2⟩) fun yw=>yw.ren (qU Γ w tip s ys _) (fun hd b τ hb=>?_) (bx _);obtain⟨a1,a2,_⟩:=c.Eb hb ho hd;refine⟨rfl,a1,qT Γ w tip s ys a2 fun t sz hk=>?_⟩;exact absurd a1 (c.hκ b _ _ hk).2.1
 ·cases k with
  |l n=>simp[G.call]at h|g k=>
   have h':Γ.ι k≠none:=h;have:=c.dom k h';cases ho:s.obj k with
   |none=>exact absurd ho this|some o=>
    have:(S.start (CU P tip s Ts ys) s.up).obj (.g k)=s.up k:=by simp[S.start,jj,Bx,AR]
    rw[this,S.up,ho];simp
 ·cases k with|l n=>simp[G.call]at h1|g k=>cases k' with|l n=>simp[G.call]at h2|g k'=>exact(c.inj k k' b τ τ' h1 h2).imp (congrArg Key.g) (ti (wc (ze k) (ze k')) id)
 · -- live tokens are those of arguments
  simp only[S.start,S.live,EA,Um]at h;by_cases hm:1000<=m
  ·rw[if_pos hm]at h;cases hx:(CU P tip s Ts ys)[m-1000]? with
   |none=>simp[hx]at h|some z=>
    obtain⟨T,y,_,hy,hz⟩:=VK hx;have hlt:m-1000<us.length:=by rw[<-a.z6V];exact(bu.1 hy).1
    have hr:=a.rep _ y _ hy (bg hlt);have hnt:y.gE=true:=by cases y <;> (try rfl);obtain⟨h1,_⟩:=hr;simp only[AA]at h1;obtain⟨_,_,_,_,h0,_⟩:=h1;cases h0
    cases z <;> simp[hx]at h;rename_i eb e cs;subst h;rcases q3F hz.symm hnt with⟨t,rfl,h2,h3⟩|⟨rfl,h2⟩;{obtain⟨x,h4,h5⟩:=c.tok t _ h3;refine⟨x,by simp[G.call,hm,hy,h2,h4],fun b pos sz hxx=>?_⟩;obtain⟨a1,a2⟩:=h5 b pos sz hxx;refine⟨a1,?_⟩;simp only[G.call,a2,a.ix hy h2];rw[show 1000+(m-1000)=m by omega]};{exact⟨none,by simp[G.call,hm,hy,h2],fun b pos sz h=>by cases h⟩}
  ·rw[if_neg hm]at h;cases h
 ·simp only[G.call]at h;by_cases hm:1000<=m
  ·rw[if_pos hm]at h;cases hy:ys[m-1000]? with
   |none=>simp[hy]at h|some y=>
    simp only[hy]at h;cases ht:CH tip s y with
    |none=>simp[ht]at h|some o=>
     have hlt:m-1000<us.length:=by rw[<-a.z6V];exact(bu.1 hy).1
     have hr:=a.rep _ y _ hy (bg hlt);have hlT:m-1000<Ts.length:=by rw[a.len];exact(bu.1 hy).1
     obtain⟨eb,e,cs,z58⟩:∃eb e cs,(CU P tip s Ts ys)[m-1000]? =some (.ts eb e cs):=by
      have hl:m-1000<(CU P tip s Ts ys).length:=by rw[ZR a.len];exact(bu.1 hy).1
      cases hz:(CU P tip s Ts ys)[m-1000]? with
      |none=>rw[List.getElem?_eq_none_iff]at hz;omega|some z=>
       obtain⟨T,y',_,hy',hz'⟩:=VK hz;rw[hy]at hy';cases hy';obtain⟨eb,e,cs,h2⟩:=q3E (P:=P) c hr ht T;exact⟨eb,e,cs,by rw[hz',h2]⟩
     simp[S.start,S.known,Um,hm,z58]
  ·rw[if_neg hm]at h;exact absurd rfl h
def q3D (c:AQ Γ w s) {us} (a:NQ P Γ tip s Ts ys us) {i:Nat} {T:TypeId} {y u} (hy:ys[i]? =some y) (hr:AG Γ y u):
  AG (Γ.call w tip s ys) ((DU P tip s T y).slot (1000+i)) u:=by
 have pr:=qU Γ w tip s ys none;have hd:∀{eb:Nat} {e:Ty} {cs:List C} {vs:List Value},AL Γ.H (.slice eb e) vs (.slice cs)->AL (Γ.call w tip s ys).H (.slice eb e) vs (.slice cs):=fun h=>h;have gen:AG (Γ.call w tip s ys) (y.Bj.ren .g id) u:=AG.Bg pr (V.sI y) hr.Bj;cases y
 case sl eb e cs t=>
  obtain⟨h1,h2⟩:=(Bi rfl rfl).1 hr;simp only[AA]at h1;obtain⟨aa,n,cap,hv,hrc,htk⟩:=h1;simp at hv;subst hv;by_cases hc:tip=true/\s.live t=some cs.length
  ·have ha:CH tip s (.sl eb e cs t)=some (some t):=by simp[CH,hc]
   simp only[DU,if_pos hc,V.slot];refine(Bi rfl rfl).2 ⟨?_,rfl⟩;simp only[AA];obtain⟨x,L,q1,q2,q3⟩:=htk;exact⟨aa,n,cap,rfl,hrc,x,L,by simp[G.call,hy,ha,q1],q2,q3⟩
  ·simp only[DU,if_neg hc,V.slot];exact Pz hrc
 case emp eb e=>
  obtain⟨h1,h2⟩:=(Bi rfl rfl).1 hr;simp only[AA]at h1;obtain⟨aa,hv⟩:=h1;simp at hv;subst hv;have hrc:AL (Γ.call w tip s ys).H (.slice eb e) [.slice aa 0 0] (.slice []):=Dm rfl (bx _) (dv _) (by rw[gy];exact dv _) (.inl rfl);by_cases hc:tip=true
  ·have ha:CH tip s (.emp eb e)=some none:=by simp[CH,hc]
   simp only[DU,if_pos hc,V.slot];refine(Bi rfl rfl).2 ⟨?_,rfl⟩;simp only[AA];exact⟨aa,0,0,rfl,hrc,none,0,by simp[G.call,hy,ha],bx _,fun _=>rfl⟩
  ·simp only[DU,if_neg hc,V.slot];exact Pz hrc
 case ym=>
  have hts:∀(eb:Nat) (e:Ty),tip=true->AG (Γ.call w tip s ys) (V.slot (1000+i) (.ts eb e [])) (.slice none 0 0):=by
   intro eb e hc;have ha:CH tip s .ym=some none:=by simp[CH,hc]
   simp only[V.slot];refine(Bi rfl rfl).2 ⟨?_,rfl⟩;simp only[AA];exact⟨none,0,0,rfl,Dm rfl (bx _) (dv _) (by rw[gy];exact dv _) (.inl rfl),none,0,by simp[G.call,hy,ha],bx _,fun _=>rfl⟩
  rw[Fb hr];simp only[DU];split;{split;{rename_i hc;exact hts _ _ hc};{simp only[V.slot];exact Pz (Dm rfl (bx _) (dv _) (by rw[gy];exact dv _) (.inl rfl))}};{split;{rename_i hc;exact hts _ _ hc};{rw[<-Fb hr];exact gen}}
 case agg τ vs=>
  simp only[DU];split;{rename_i cc hcc;obtain⟨h1,h2⟩:=hr;simp only[V.slot];exact Cz.2 ⟨Ki _ h1 hcc,h2⟩};{exact gen}
 case ts=>
  obtain⟨h1,_⟩:=hr;simp only[AA]at h1;obtain⟨_,_,_,_,h0,_⟩:=h1;cases h0
 all_goals exact gen
end
end
section
def rk (d:Nat) (j:Nat):Nat:=1000*(d+1)+j
def Hd (d:Nat) (n:Nat):Option Nat:=if 1000*(d+1)<=n then some (n-1000*(d+1))else none
def QE (d j:Nat):Hd d (rk d j)=some j:=by simp[Hd,rk]
def LZ {d n j:Nat} (h:Hd d n=some j):rk d j=n:=by unfold Hd at h;split at h;{have:=oh h;unfold rk;omega};{cases h}
def dn (d:Nat):Key->Key
 | .g k=>k| .l j=>.l (rk d j)
def dnL (d:Nat):List (Key × O)->List (Key × O)
 | []=>[]|(k,o)::l=>(dn d k,o.ren (dn d))::dnL d l
def dnT (d:Nat):List (Nat × Option Nat)->List (Nat × Option Nat)
 | []=>[]|(m,x)::l=>(rk d m,x)::dnT d l
def HB:List Nat->List (Nat × Option Nat)
 | []=>[]|t::l=>(t,none)::HB l
def fB:∀(l:List Nat) (t:Nat),look (HB l) t=if t∈l then some none else none
 | [],t=>by simp[HB,look]
 |u::l,t=>by simp only[HB,look,fB l t,fz];by_cases h:u=t;{subst h;simp};{have h':t≠u:=fun e=>h e.symm;simp[h,h']}
def Wm (d:Nat):∀(l:List (Nat × Option Nat)) (t:Nat),look (dnT d l) t=match Hd d t with|some m=>look l m|none=>none
 | [],t=>by simp only[dnT,look];split <;> rfl
 |(m,x)::l,t=>by
  simp only[dnT,look,Wm d l t];cases h:Hd d t with
  |none=>
   have:rk d m≠t:=by intro e;subst e;rw[QE]at h;cases h
   simp[this]
  |some j=>
   have ht:=LZ h;by_cases hm:m=j;{subst hm;simp[ht]}
   ·have:rk d m≠t:=by intro e;apply hm;have:Hd d (rk d m)=some j:=by rw[e];exact h
                      rw[QE]at this;exact oh this
    simp[this,hm]
def upL (d:Nat) (L:List (Key × O)) (k:Key):Option O:=
 match AR L (.g k)with
 |some o=>some o|none=>match k with
  | .l n=>match Hd d n with|some j=>AR L (.l j)|none=>none
  | .g _=>none
def bk (d:Nat):Option (Tip × Nat)->Option (Tip × Nat)
 |some (.home k p,sz)=>some (.home (dn d k) p,sz)|some (.tok m,sz)=>some (.tok (rk d m),sz)|none=>none
def G.back (Γ Γ':G) (tip:Bool) (s:S) (ys:List V) (d:Nat) (v:V) (L:List (Key × O)):G:=
 {H:=Γ'.H
  Z:=Γ.Z
  ι:=fun k=>match k with
   | .l n=>match Hd d n with
    |some j=>match AR L (.l j)with|some _=>Γ'.ι (.l j)|none=>Γ.ι (.l n)
    |none=>Γ.ι (.l n)
   | .g k=>Γ.ι (.g k)
  τ:=fun t=>match Hd d t with
   |some m=>match look (v.tkR 2000) m with|some _=>Γ'.τ m|none=>Γ.τ t
   |none=>Γ.τ t
  κ:=fun b=>match Γ.κ b with
   |some (.tok u,sz)=>match De tip s u 0 ys with|some _=>bk d (Γ'.κ b)|none=>some (.tok u,sz)
   |_=>bk d (Γ'.κ b)
  gl:=Γ.gl
  oo:=Γ.oo
  σ:=Γ'.σ}
def S.back (s:S) (tip:Bool) (ys:List V) (d:Nat) (v:V) (L:List (Key × O)):S:=
 {s with loc:=dnL d L++s.loc,tk:=dnT d (v.tkR 2000)++(HB (CR tip s ys)++s.tk)}
def LH {α:Type}:∀(l m:List (Key × α)) (n:Key),AR (l++m) n=match AR l n with|some x=>some x|none=>AR m n
 | [],_,_=>rfl|(j,x)::l,m,n=>by simp only[ji,AR];split;{rfl};{exact LH l m n}
def fC (d:Nat):∀{L:List (Key × O)} {k:Key} {o:O},AR (dnL d L) k=some o->(∃j o',dn d j=k/\AR L j≠none/\o=O.ren (dn d) o')
 | [],_,_,h=>by simp[dnL,AR]at h
 |(j,o')::L,k,o,h=>by simp only[dnL,AR]at h;split at h;{rename_i e;cases h;exact⟨j,o',e,by simp[AR],rfl⟩};{obtain⟨j2,o2,a1,a2,a3⟩:=fC d h;refine⟨j2,o2,a1,?_,a3⟩;simp only[AR];split <;> simp[a2]}
def SI (d:Nat) {s:S}:∀{L:List (Key × O)} {k:Key},(∀k o,AR L (.g k)=some o->s.obj k≠none)->(∀j o,AR L (.l j)=some o->s.obj (.l (rk d j))=none)->
  (∀j o,AR L j=some o->dn d j=k->AR (dnL d L) k=some (o.ren (dn d)))
 | [],k,_,_,j,o,h,_=>by simp[AR]at h
 |(i,oi)::L,k,hg,hl,j,o,h,hj=>by
  simp only[AR]at h;simp only[dnL,AR];by_cases hij:i=j;{subst hij;simp at h;subst h;simp[hj]}
  ·rw[if_neg hij]at h;have hne:dn d i≠k:=by
    intro e;have hi0:∃oi',AR ((i,oi)::L) i=some oi':=⟨oi,by simp[AR]⟩;obtain⟨oi',hi1⟩:=hi0;have hj1:AR ((i,oi)::L) j=some o:=by simp only[AR];rw[if_neg hij];exact h
    cases i with
    |g ki=>
     cases j with
     |g kj=>simp only[dn]at e hj;subst e;subst hj;exact hij rfl|l nj=>
      simp only[dn]at e hj;have h1:=hg ki _ hi1;have h2:=hl nj _ hj1;rw[<-e]at hj;rw[hj]at h2;exact h1 h2
    |l ni=>
     cases j with
     |g kj=>
      simp only[dn]at e hj;have h1:=hg kj _ hj1;have h2:=hl ni _ hi1;rw[<-hj]at e;rw[e]at h2;exact h1 h2
     |l nj=>
      simp only[dn]at e hj;rw[<-hj]at e;simp[rk]at e;exact hij (by rw[e])
   rw[if_neg hne]
   exact SI d (L:=L) (fun k0 o0 h0=>by
    by_cases e:i= .g k0;{subst e;exact hg k0 oi (by simp[AR])}
    ·exact hg k0 o0 (by simp[AR,e,h0])) (fun j0 o0 h0=>by
    by_cases e:i= .l j0;{subst e;exact hl j0 oi (by simp[AR])}
    ·exact hl j0 o0 (by simp[AR,e,h0])) j o h hj
section
variable {P:Program} {Γ Γ':G} {w w':World} {s:S} {tip:Bool} {ys:List V} {Ts:List TypeId} {v:V} {L:List (Key × O)} {d:Nat}
def AQ.back (c:AQ Γ w s) {us} (a:NQ P Γ tip s Ts ys us) (gle:GLe (Γ.call w tip s ys) Γ') (c':AQ Γ' w' (S.fin v L s.up))
  (hg:∀k o,AR L (.g k)=some o->s.obj k≠none) (hl:∀j o,AR L (.l j)=some o->s.obj (.l (rk d j))=none) (ht:∀m x,look (v.tkR 2000) m=some x->s.known (rk d m)=false)
  {u:Value} (hv:AG Γ' (v.CY 2000) u):BC Γ w (s.back tip ys d v L) ((v.CY 2000).ren (dn d) (rk d)) u w':=by
 -- facts on the ghosts
 have hZu:∀b t sz,Γ.κ b=some (.tok t,sz)->De tip s t 0 ys=none->(Γ.call w tip s ys).Z b≠none:=by intro b t sz hk hi;obtain⟨a1,_,arr,T,a3,_⟩:=c.hκ b _ _ hk;simp only[G.call,a1,hk,hi,a3];simp
 have hZ0:∀b,Γ.Z b≠none->(Γ.call w tip s ys).Z b≠none:=by
  intro b h;cases hz:Γ.Z b with
  |none=>exact absurd hz h|some o=>simp[G.call,hz]
 have hιg:∀k x,Γ.ι k=some x->Γ'.ι (.g k)=some x:=fun k x h=>gle.g k x h;have z7L:∀j,AR L (.l j)≠none->Γ.ι (.l (rk d j))=none:=by
  intro j h;cases ho:AR L (.l j)with
  |none=>exact absurd ho h|some o=>exact c.QR (hl j o ho)
 have z54:∀k,(S.fin v L s.up).obj k=match AR L k with|some o=>some o|none=>match k with| .g k=>s.up k| .l _=>none:=fun k=>rfl
 have hκn:∀b x,Γ'.κ b=some x->(Γ.back Γ' tip s ys d v L).κ b=bk d (some x):=by
  intro b x h;have hz:=(c'.hκ b x.1 x.2 (by rw[h])).1;rw[gle.Z]at hz;simp only[G.back];cases hk:Γ.κ b with
  |none=>simp[h]|some y=>
   obtain⟨o,sz⟩:=y;cases o with
   |home=>simp[h]|tok t=>
    simp only;cases hi:De tip s t 0 ys with
    |some i=>simp[h]|none=>exact absurd hz (hZu b t sz hk hi)
 have hτn:∀m x,Γ'.τ m=some x->(Γ.back Γ' tip s ys d v L).τ (rk d m)=some x:=by intro m x h;have hk:=c'.zc m (by rw[h];simp);have hk':(look (v.tkR 2000) m).isSome=true:=hk;obtain⟨y,hy⟩:=Option.isSome_iff_exists.1 hk';simp[G.back,QE,hy,h]
 have hιn:∀k x,Γ'.ι k=some x->(Γ.back Γ' tip s ys d v L).ι (dn d k)=some x:=by
  intro k x h;cases k with
  |l j=>
   have hd:=c'.dom (.l j) (by rw[h];simp);rw[z54]at hd;cases ho:AR L (.l j)with
   |none=>simp[ho]at hd|some o=>simp[G.back,dn,QE,ho,h]
  |g k=>
   have hd:=c'.dom (.g k) (by rw[h];simp);rw[z54]at hd;have hsk:s.obj k≠none:=by
    cases ho:AR L (.g k)with
    |none=>
     simp only[ho,S.up]at hd;intro e;rw[e]at hd;simp at hd
    |some o=>exact hg k o ho
   cases hso:s.obj k with
   |none=>exact absurd hso hsk|some o=>
    rcases c.obj k o hso with hn|yw;{rw[gle.gn k hn.1]at h;cases h};obtain⟨b,τ,e1,_⟩:=yw.block;have e2:=hιg k _ e1;rw[h]at e2;cases e2;simp only[dn];cases k with
    |g k=>exact e1|l n=>
     simp only[G.back];split;{rename_i j hj;split;{rename_i o' ho';have:=hl j o' ho';rw[LZ hj]at this;exact absurd this hsk};{exact e1}};{exact e1}
 have pr:∀hm,Gf Γ' (Γ.back Γ' tip s ys d v L) (dn d) hm:=fun hm=>
  ⟨gq _,hιn,fun _ _ h=>h,fun k b p sz _ h=>⟨by rw[hκn b _ h];rfl,rfl⟩⟩
 have hp:BI Γ (Γ.back Γ' tip s ys d v L):=by
  refine⟨gle.H,fun k x h=>?_,fun t x M h=>⟨x,M,?_,bx _,fun _=>rfl⟩,fun b sz h=>gle.σ b sz h⟩
  ·cases k with
   |g k=>exact h|l n=>
    simp only[G.back];split;{rename_i j hj;split;{rename_i o ho;have:=z7L j (by rw[ho];simp);rw[LZ hj,h]at this;cases this};{exact h}};{exact h}
  ·simp only[G.back];split;{rename_i m hm;split;{rename_i y hy;have:=ht m y hy;rw[LZ hm]at this;have hk:=c.zc t (by rw[h];simp);rw[this]at hk;cases hk};{exact h}};{exact h}
 have z6o:∀k,(s.back tip ys d v L).obj k=match AR (dnL d L) k with|some o=>some o|none=>s.obj k:=by intro k;unfold jj Bx S.back;simp only[LH];cases AR (dnL d L) k <;> rfl
 have hZn:∀b,Γ'.Z b=none->Γ.Z b=none:=by
  intro b h;rw[gle.Z]at h;cases hz:Γ.Z b with
  |none=>rfl|some o=>have:=hZ0 b (by rw[hz];simp);rw[h]at this;exact absurd rfl this
 have z7q:∀k,(S.fin v L s.up).obj k≠none->Γ'.ι k=none->(Γ.back Γ' tip s ys d v L).ι (dn d k)=none:=by
  intro k h hn;have hι0:∀k',k= .g k'->Γ.ι k'=none:=by
   intro k' e;subst e;cases hx:Γ.ι k' with
   |none=>rfl|some x=>rw[hιg k' x hx]at hn;cases hn
  rw[z54]at h;cases k with
  |l j=>
   cases ho:AR L (.l j)with
   |none=>simp[ho]at h|some o=>simp[G.back,dn,QE,ho,hn]
  |g k=>
   have hsk:s.obj k≠none:=by
    cases ho:AR L (.g k)with
    |none=>
     simp only[ho,S.up]at h;intro e;rw[e]at h;simp at h
    |some o=>exact hg k o ho
   have h0:=hι0 k rfl;cases k with
   |g k=>exact h0|l n=>
    show(match Hd d n with
     |some j=>match AR L (.l j)with|some _=>Γ'.ι (.l j)|none=>Γ.ι (.l n)
     |none=>Γ.ι (.l n))=none
    split;{rename_i j hj;split;{rename_i o' ho';exact absurd (LZ hj ▸ hl j o' ho') hsk};{exact h0}};{exact h0}
 have down:∀k o,(S.fin v L s.up).obj k=some o->((Γ.back Γ' tip s ys d v L).ι (dn d k)=none/\(o.ren (dn d)).Jl)\/Own (Γ.back Γ' tip s ys d v L) w' (dn d k) (o.ren (dn d)):=by intro k o h;refine(c'.obj k o h).imp (fun h1=>⟨z7q k (by rw[h];simp) h1.1,O.Yr h1.2⟩) fun yw=>yw.ren (pr _) (fun hd b τ hb=>?_) (bx _);obtain⟨a1,a2,_⟩:=c'.Eb hb h hd;exact⟨rfl,a1,hZn b a2⟩
 have ze:∀k,(S.fin v L s.up).Bb k=true->(s.back tip ys d v L).Bb (dn d k)=true:=by
  intro k h;unfold S.Bb at h ⊢;rw[z54]at h;rw[z6o];cases ho:AR L k with
  |some o=>
   rw[ho]at h;rw[SI d hg hl k o ho rfl];show(o.ren _).EY=true;rw[O.UG];exact h
  |none=>
   rw[ho]at h;cases k with
   |l n=>cases h
   |g k=>
    simp only[dn];cases hs:s.obj k with
    |none=>simp[S.up,hs,Nv]at h|some o=>
     have:AR (dnL d L) k=none:=by
      cases hk:AR (dnL d L) k with
      |none=>rfl|some o1=>
       obtain⟨j,_,e1,e2,_⟩:=fC d hk;cases j with
       |g j=>simp only[dn]at e1;subst e1;exact absurd ho e2|l j=>
        cases hj:AR L (.l j)with
        |none=>exact absurd hj e2|some oj=>
         have:=hl j oj hj;simp only[dn]at e1;rw[e1,hs]at this;cases this
     rw[this];simp only[S.up,hs,gj,Nv]at h ⊢;rw[O.UG]at h;exact h
 refine⟨Γ.back Γ' tip s ys d v L,⟨gle.H,rfl,fun b h=>gle.ZH b (hZ0 b h),fun _ _ h=>h,rfl,rfl,fun b sz h=>gle.σ b sz h,fun _ h=>h⟩,hp,?_,hv.ren (pr none) hτn⟩;refine⟨c'.hH,fun b o h=>?_,fun b o sz h=>?_,fun k o h=>?_,fun k h=>?_,fun k k' b τ τ' h1 h2=>?_,fun t M h=>?_,fun t h=>?_,fun g τ cc h=>?_,by rw[c'.hoo,gle.oo];rfl,c'.hσ⟩;{exact c'.hZ b o (by rw[gle.Z];simp[G.call,show Γ.Z b=some o from h])}
 · -- rooms
  have other:∀x,Γ'.κ b=some x->x.2=sz->Γ.Z b=none/\Γ'.H b≠none/\∃arr T,w'.heap[b]? =some (.cells arr T (0,0))/\arr.size=sz/\Ls x.1 T:=by intro x hx e;obtain⟨a1,a2,a3⟩:=c'.hκ b x.1 x.2 hx;rw[e]at a3;exact⟨hZn b a1,a2,a3⟩
  have bkc:∀{x},bk d (Γ'.κ b)=some x->x.2=sz->Γ.Z b=none/\Γ'.H b≠none/\∃arr T,w'.heap[b]? =some (.cells arr T (0,0))/\arr.size=sz/\Ls x.1 T:=by
   intro x hx e;cases hk':Γ'.κ b with
   |none=>rw[hk']at hx;simp[bk]at hx|some y=>
    have hz:y.2=sz:=by obtain⟨o',sz'⟩:=y;rw[hk']at hx;cases o' <;> simp[bk]at hx <;> subst hx <;> exact e
    obtain⟨q1,q2,arr,T,q3,q4,q5⟩:=other y hk' hz;refine⟨q1,q2,arr,T,q3,q4,?_⟩;obtain⟨o',sz'⟩:=y;rw[hk']at hx;cases o' with
    |home _ p=>simp[bk]at hx;subst hx;cases p <;> exact q5
    |tok=>simp[bk]at hx;subst hx;trivial
  simp only[G.back]at h;cases hk:Γ.κ b with
  |none=>simp only[hk]at h;exact bkc h rfl|some y=>
   obtain⟨o0,sz0⟩:=y;cases o0 with
   |home=>simp only[hk]at h;exact bkc h rfl|tok t=>
    simp only[hk]at h;cases hi:De tip s t 0 ys with
    |some i=>simp only[hi]at h;exact bkc h rfl|none=>
     simp[hi]at h;obtain⟨rfl,rfl⟩:=h;obtain⟨a1,a2,arr,T,a3,a4⟩:=c.hκ b _ _ hk;have hz:=hZu b t sz0 hk hi;have hH:Γ'.H b=Γ.H b:=gle.ZH b hz;have hw:w'.heap[b]? =w.heap[b]?:=by
      have:Γ'.Z b=w.heap[b]?:=by rw[gle.Z];simp[G.call,a1,hk,hi]
      rw[a3]at this ⊢;exact c'.hZ b _ this
     exact⟨a1,by show Γ'.H b≠none;rw[hH];exact a2,arr,T,by rw[hw];exact a3,a4⟩
 · -- objects
  rw[z6o]at h;cases hk:AR (dnL d L) k with
  |some o1=>
   rw[hk]at h;cases h;obtain⟨j,_,e1,e2,_⟩:=fC d hk;cases hj:AR L j with
   |none=>exact absurd hj e2|some oj=>
    have:=SI d hg hl j oj hj e1;rw[hk]at this;cases this;rw[<-e1];exact down j oj (by rw[z54,hj])
  |none=>
   rw[hk]at h;have hLg:AR L (.g k)=none:=by
    cases ho:AR L (.g k)with
    |none=>rfl|some o0=>
     have this:AR (dnL d L) k=_:=SI d hg hl (.g k) o0 ho rfl;rw[hk]at this;cases this
   have:=down (.g k) (o.ren .g) (by rw[z54,hLg];simp only[S.up,h];rfl)
   rwa [O.KO .g (dn d) (fun _=>rfl)]at this
 · -- every handle's object is there
  rw[z6o];cases hk:AR (dnL d L) k with
  |some o=>simp|none=>
   simp only;cases k with
   |g k=>exact c.dom _ h|l n=>
    simp only[G.back]at h;split at h;{rename_i j hj;split at h;{rename_i o ho;have:=SI d hg hl (.l j) o ho (by simp only[dn];rw[LZ hj]);rw[hk]at this;cases this};{exact c.dom _ h}};{exact c.dom _ h}
 · -- blocks stay apart
  have key:∀k b τ,(Γ.back Γ' tip s ys d v L).ι k=some (b,τ)->(Γ.ι k=some (b,τ)/\Γ'.ι (.g k)=some (b,τ))\/∃j,k= .l (rk d j)/\Γ'.ι (.l j)=some (b,τ):=by
   intro k b τ h;cases k with
   |g k=>exact .inl ⟨h,hιg _ _ h⟩|l n=>
    simp only[G.back]at h;split at h;{rename_i j hj;split at h;{exact .inr ⟨j,by rw[LZ hj],h⟩};{exact .inl ⟨h,hιg _ _ h⟩}};{exact .inl ⟨h,hιg _ _ h⟩}
  rcases key k b τ h1 with⟨e1,e2⟩|⟨j,e1,e2⟩ <;> rcases key k' b τ' h2 with⟨f1,f2⟩|⟨j',f1,f2⟩;{exact(c'.inj _ _ _ _ _ e2 f2).imp (fun e=>by cases e;rfl) (ti (wc (ze _) (ze _)) id)};{subst f1;exact(c'.inj _ _ _ _ _ e2 f2).imp (fun e=>by cases e) (ti (wc (ze _) (ze _)) id)};{subst e1;exact(c'.inj _ _ _ _ _ e2 f2).imp (fun e=>by cases e) (ti (wc (ze _) (ze _)) id)};{subst e1;subst f1;exact(c'.inj _ _ _ _ _ e2 f2).imp (fun e=>by cases e;rfl) (ti (wc (ze _) (ze _)) id)}
 · -- live tokens
  simp only[S.back,S.live,EA,Md,Wm]at h;cases hr:Hd d t with
  |some m=>
   simp only[hr]at h;cases hm:look (v.tkR 2000) m with
   |some y=>
    simp only[hm]at h;cases y with
    |none=>simp at h|some M'=>
     simp at h;subst h;obtain⟨x,a1,a2⟩:=c'.tok m M' (by unfold S.live EA;rw[show(S.fin v L s.up).tk=v.tkR 2000 from rfl,hm]);refine⟨x,by simp[G.back,hr,hm,a1],fun b pos sz hx=>?_⟩;obtain⟨a3,a4⟩:=a2 b pos sz hx;refine⟨a3,?_⟩;rw[hκn b _ a4];simp only[bk,LZ hr]
   |none=>
    simp only[hm]at h;rw[fB]at h;by_cases hp':t∈CR tip s ys;{simp[hp']at h}
    ·simp only[hp',if_false]at h;obtain⟨x,a1,a2⟩:=c.tok t M h;refine⟨x,by simp[G.back,hr,hm,a1],fun b pos sz hx=>?_⟩;obtain⟨⟨l,a3,a5⟩,a4⟩:=a2 b pos sz hx;have hi:De tip s t 0 ys=none:=by
      cases hi:De tip s t 0 ys with
      |none=>rfl|some i=>obtain⟨k,y,_,h2,h3⟩:=VH hi;exact absurd (SP h2 h3) hp'
     have hH:Γ'.H b=Γ.H b:=gle.ZH b (hZu b t sz a4 hi);exact⟨⟨l,by show Γ'.H b=some l;rw[hH];exact a3,a5⟩,by simp[G.back,a4,hi]⟩
  |none=>
   simp only[hr]at h;rw[fB]at h;by_cases hp':t∈CR tip s ys;{simp[hp']at h}
   ·simp only[hp',if_false]at h;obtain⟨x,a1,a2⟩:=c.tok t M h;refine⟨x,by simp[G.back,hr,a1],fun b pos sz hx=>?_⟩;obtain⟨⟨l,a3,a5⟩,a4⟩:=a2 b pos sz hx;have hi:De tip s t 0 ys=none:=by
     cases hi:De tip s t 0 ys with
     |none=>rfl|some i=>obtain⟨k,y,_,h2,h3⟩:=VH hi;exact absurd (SP h2 h3) hp'
    have hH:Γ'.H b=Γ.H b:=gle.ZH b (hZu b t sz a4 hi);exact⟨⟨l,by show Γ'.H b=some l;rw[hH];exact a3,a5⟩,by simp[G.back,a4,hi]⟩
 · -- known tokens
  simp only[S.back,S.known,Md,Wm];have old:Γ.τ t≠none->(look s.tk t).isSome=true:=fun h=>c.zc t h;have z7r:Γ.τ t≠none->(match look (HB (CR tip s ys)) t with|some x=>some x|none=>look s.tk t).isSome=true:=by
   intro h;cases hd:look (HB (CR tip s ys)) t with
   |some y=>rfl|none=>exact old h
  simp only[G.back]at h;cases hr:Hd d t with
  |some m=>
   simp only[hr]at h;simp only;cases hm:look (v.tkR 2000) m with
   |some y=>rfl|none=>simp only[hm]at h;have:=z7r h;revert this;cases look (HB (CR tip s ys)) t <;> simp
  |none=>simp only[hr]at h;have:=z7r h;revert this;cases look (HB (CR tip s ys)) t <;> simp
 ·have h':(Γ.call w tip s ys).gl g=some (τ,cc):=h;rw[<-gle.gl]at h';exact c'.hgl g τ cc h'
end
end
section
def Hn (P:Program) (f:FuncId):Bool:=
 match P.funcs[f]? with
 |some fn=>fn.name != "runtime.NumGoroutine" &&fn.body.isSome
 |none=>false
section
variable {P:Program} {Γ:G} {w:World} {s:S}
def q1t {f} (h:Hn P f=true) (args:Array Value) (w:World):(callFunc f args).run P w= .ok (.enter f args) w:=by
 unfold Hn at h;cases hf:P.funcs[f]? with
 |none=>simp[hf]at h|some fn=>
  simp[hf]at h;obtain⟨h1,h2⟩:=h;cases hb:fn.body with
  |none=>simp[hb]at h2|some b=>simp[callFunc,hf,h1,hb]
def z3j {x:V} {v:Value} (h1:AA Γ none [] x v.cells.toList) (h2:BJ v=x.ty.isAgg):AG Γ x v:=by cases x <;> first|exact⟨h1,h2⟩|trivial|(simp only[AA]at h1)
def qW:∀{xs:List V} {vs:List Value},BF Γ xs vs->xs.length=vs.length/\∀(i:Nat) x v,xs[i]? =some x->vs[i]? =some v->AG Γ x v
 | [],vs,h=>by simp only[BF]at h;subst h;simp
 |x::xs,vs,h=>by
  simp only[BF]at h;obtain⟨v,vs',rfl,h2,h3,h4⟩:=h;obtain⟨e1,e2⟩:=qW h4;refine⟨by simp[e1],fun i y u hy hu=>?_⟩;cases i with
  |zero=>simp at hy hu;subst hy;subst hu;exact z3j h2 h3|succ i=>exact e2 i y u (by simpa using hy) (by simpa using hu)
def YH {f} {yp:List V} {v} (h:AG Γ (.fn f yp) v):∃cv:Array Value,v= .func (.func f) #[] cv/\yp.length=cv.toList.length/\∀(i:Nat) x u,yp[i]? =some x->cv.toList[i]? =some u->AG Γ x u:=by obtain⟨h1,_⟩:=(Bi rfl rfl).1 h;simp only[AA]at h1;obtain⟨cv,hv,hc⟩:=h1;simp at hv;obtain⟨e1,e2⟩:=qW hc;exact⟨cv,hv,e1,e2⟩
def EF (as:List V) (yp:List V):List V:=as++yp
def Jp (ts:List TypeId) (yp:List V):List TypeId:=ts++List.replicate yp.length 0
mutual
def V.gT:∀(x:V),x.Ay=true->(x.ren .g id).ok BS BS=true
 | .sl _ _ _ _,h=>by simp[V.Ay]at h
 | .agg _ vs,h| .fn _ vs,h| .tup vs,h=>by simp only[V.ren,V.ok];exact V.Q3 vs (by simpa[V.Ay]using h)
 | .ptr _ _ _,_| .mp _,_| .sr _ _ _ _ _ _ _,_| .d _ _,_| .ts _ _ _,_| .emp _ _,_| .ym,_| .yn _ _,_| .top _,_| .any,_=>by simp[V.ren,V.ok]
def V.Q3:∀(xs:List V),V.CF xs=true->V.oks BS BS (V.Cr .g id xs)=true
 | [],_=>rfl|x::xs,h=>by simp only[V.CF,az]at h;simp only[V.Cr,V.oks,az];exact⟨V.gT x h.1,V.Q3 xs h.2⟩
end
def Q1:∀(es:List (C × V)),(∀(i:Nat) (c:C × V),es[i]? =some c->c.2.Ay=true)->V.DP BS BS (es.map fun c=>(c.1,c.2.ren .g id))=true
 | [],_=>rfl|x::xs,h=>by simp only[dy,V.DP,az];exact⟨V.gT _ (h 0 x rfl),Q1 xs fun i c hc=>h (i+1) c (by simpa using hc)⟩
def AQ.q3A (c:AQ Γ w s):AOk s.up:=by
 intro k o h;unfold S.up at h;cases ho:s.obj k with
 |none=>simp[ho]at h|some o0=>
  simp only[ho,gj,ek]at h;subst h;rcases c.obj k o0 ho with⟨_,hv⟩|yw
  ·cases o0 with
   |box x=>obtain⟨e,rfl⟩:=hv;rfl
   |dead=>rfl|_=>exact hv.elim
  ·cases o0 with
   |box x=>
    obtain⟨b,cells,T,_,_,_,_,_,_,_,h8⟩:=yw;exact V.gT x h8
   |map kτ vτ es=>
    obtain⟨b,ms,clock,_,_,_,_,h5,h6,_⟩:=yw;refine Q1 es fun i cc hcc=>?_;have hlt:i<ms.size:=by rw[h5];exact(bu.1 hcc).1
    exact(h6 i ms[i] cc (ee hlt) hcc).2.2.2.2.2.2
   |it=>rfl|dead=>rfl
def sV {X:Cx} (hX:X.P=P) (hgl:Γ.gl=X.gl) (c:AQ Γ w s) {o:Oper} {a fo f yp as ts ρa} {tip:Bool} {A v L} {d:Nat}
  (ho:o.op= .call {callee:=.value fo,args:=as,argTypes:=ts}) (z6W:Hn P f=true) (hts:ts.toList.length=as.toList.length)
  (hf:AG Γ (.fn f yp) (a.eval fo)) (hr:∀y∈as.toList,AG Γ (ρa y) (a.eval y)) (hnd:GX (CR tip s (EF (as.toList.map ρa) yp))=true)
  (D:Bo X f (CU P tip s (Jp ts.toList yp) (EF (as.toList.map ρa) yp)) A v L) (hA:∀k o,A k=some o->s.up k=some o)
  (hg:∀k o,AR L (.g k)=some o->s.obj k≠none) (hl:∀j o,AR L (.l j)=some o->s.obj (.l (rk d j))=none) (ht:∀m x,look (v.tkR 2000) m=some x->s.known (rk d m)=false):
  Au P o a w (BC Γ w (s.back tip (EF (as.toList.map ρa) yp) d v L) ((v.CY 2000).ren (dn d) (rk d))):=by
 subst hX;obtain⟨cv,hfv,hcl,hcr⟩:=YH hf;have run:(execOp a.eval o).run X.P w= .ok (.enter f (as.map a.eval++cv)) w:=by unfold execOp;simp[ho,resolve,hfv,Deferred.ofValue,invoke,q1t z6W]
 have ha:NQ X.P Γ tip s (Jp ts.toList yp) (EF (as.toList.map ρa) yp) (as.map a.eval++cv).toList:=by
  refine⟨by simp[Jp,EF]at hts ⊢;omega,by simp[EF]at hcl ⊢;omega,fun i y u hy hu=>?_,hnd⟩;simp only[EF]at hy;simp only[ue,lr]at hu;by_cases hi:i<as.toList.length
  ·rw[fm (by simpa using hi)]at hy;rw[fm (by simpa using hi)]at hu;simp only[dg]at hy hu;cases he:as.toList[i]? with
   |none=>simp[he]at hy|some z=>
    simp[he]at hy hu;subst hy;subst hu;exact hr z (fg he)
  ·rw[ft (by simpa using hi)]at hy;rw[ft (by simpa using hi)]at hu;simp only[List.length_map]at hy hu;exact hcr _ y u hy hu
 refine Au.enter run ?_;have cc:=c.call ha;refine(D s.up (Γ.call w tip s _) w (as.map a.eval++cv) hA hgl ⟨cc,c.q3A⟩ ?_ fun i x u hx hu=>?_).mono ?_;{rw[ZR ha.len,ha.z6V];simp}
 ·rw[Ue]at hx;cases hz:(CU X.P tip s (Jp ts.toList yp) (EF (as.toList.map ρa) yp))[i]? with
  |none=>simp[hz]at hx|some z=>
   simp[hz]at hx;subst hx;obtain⟨T,y,_,hy,rfl⟩:=VK hz;have hu':(as.map a.eval++cv).toList[i]? =some u:=by rw[Array.getElem?_toList];exact hu
   exact q3D c ha hy (ha.rep i y u hy hu')
 ·rintro e w' ⟨u,Γ',rfl,gle,c',hv⟩;exact⟨u,rfl,c.back ha gle c' hg hl ht hv⟩
end
end
section
def FL {α:Type}:List (C × α)->C->Option α
 | [],_=>none|(k,v)::es,c=>if rp c k=true then some v else FL es c
def EK {α:Type}:List (C × α)->C->α->List (C × α)
 | [],c,v=>[(c,v)]|(k,u)::es,c,v=>if rp c k=true then(k,v)::es else(k,u)::EK es c v
def Dx {α:Type}:List (C × α)->C->Nat->Option Nat
 | [],_,_=>none|(k,_)::es,c,i=>if rp c k=true then some i else Dx es c (i+1)
def HV (P:Program) (T:TypeId):Option (TypeId × TypeId):=match P.underlying T with|some (.map k e)=>some (k,e)|_=>none
section
variable {P:Program}
def mI (hP:Aq P=true) (em:Bool):∀(f d:Nat) (T:TypeId),Fl P f T=true->f<=d->∀(H:Hp) (a:Value) (c:C) (w:World),AL H (tyF P f T) a.cells.toList c->BJ a=(tyF P f T).isAgg->(jm em d T a).run P w= .ok () w
 |0,_,_,h,_=>by simp[Fl]at h
 |f+1,0,_,_,hd=>by omega
 |f+1,d+1,T,h,hd=>by
  intro H a c w ra ha;simp only[Fl,az,decide_eq_true_eq]at h;obtain⟨hT,h⟩:=h;have ho:=Ip hP hT;unfold okT at ho;unfold tyF at ra ha;rw[if_pos hT]at ra ha;cases hu:P.underlying T with
  |none=>simp[hu]at h|some kd=>
   cases kd <;> simp only[hu,fe]at h ra ha ho
   case bool=>simp[jm,run_underlying hu]
   case int k=>simp[jm,run_underlying hu]
   case string=>simp[jm,run_underlying hu]
   case array n E=>
    simp[jb]at ha;cases a <;> simp[BJ]at ha;rename_i xs;simp only[fc]at ra;simp at ho;obtain⟨i,hi⟩:∃i,P.info? E=some i:=by
     cases hi:P.info? E with
     |none=>simp[Tables.info?,ho.2]at hi|some i=>exact⟨i,rfl⟩
    rw[jm];simp only[cu,run_underlying hu,cr];simp only[xf,xg,qx,Nat.add_one_sub_one,Nat.div_one];have each:∀j∈List.range' 0 n,j<n:=fun j hj=>by simp[List.mem_range']at hj;omega
    generalize List.range' 0 n=is at each
    induction is with
    |nil=>simp|cons j is ih=>
     obtain⟨g,rfl,hE,hk⟩:=Vp h;have hin:=each j (by simp);have hch:(Ty.arr n (tyF P (g+1) E)).child j=some (j*(tyF P (g+1) E).size,tyF P (g+1) E):=by simp only[Ty.child];rw[if_pos hin]
     obtain⟨_,b1,r1⟩:=ra.get hch;obtain⟨u,p1,p2,p3⟩:=Lc (f:=g) hP hE rfl hk (by simpa using b1) ra.one w;have q:=mI hP em (g+1) d E h (by omega) H u _ w (p2 ▸ r1) p3;rw[Cj hP]at p1;have hsz:(sizeOf E).run P w= .ok (P.cellsOf E) w:=by
      have:=Ix (f:=g+1) hP (w:=w) hE
      rwa [Cj hP]at this
     simp only[wz,cu,hsz,cr,p1,q,fb];exact ih (fun y hy=>each y (by simp[hy]))
   case struct fs=>
    simp[jb]at ha;cases a <;> simp[BJ]at ha;rename_i xs;simp only[fc]at ra;simp only[AL]at ra;obtain⟨cs,rfl,_,o1,f1⟩:=ra;simp only[az,Bool.not_eq_true',eh,bne_iff_ne,ne_eq]at h;rw[jm];simp only[cu,run_underlying hu,cr];rw[<-Array.forIn_toList];have yx:=h.2;generalize fs.toList=L at f1 yx
    induction L generalizing cs with
    |nil=>simp|cons g L ih=>
     simp only[dy,BR]at f1;obtain⟨c,cs,rfl,b1,r1,f1⟩:=f1;obtain⟨hn,hok⟩:=yx g (by simp);obtain⟨f',rfl,hE,hk⟩:=Vp hok;obtain⟨u,p1,p2,p3⟩:=Lc (f:=f') hP hE rfl hk (by simpa using b1) o1 w;have q:=mI hP em (f'+1) d g.type hok (by omega) H u _ w (p2 ▸ r1) p3;simp only[wz,cu,hn,ne_eq,not_false_eq_true,if_true,cr,p1,q,fb];exact ih cs f1 (fun y hy=>yx y (by simp[hy]))
def Gg (H:Hp) (kτ:Ty) {α:Type}:List MapEntry->List (C × α)->Prop
 | [],[]=>True|m::ms,c::cs=>AL H kτ m.key.cells.toList c.1/\BJ m.key=kτ.isAgg/\Gg H kτ ms cs|_,_=>False
def q1z (hP:Aq P=true) {kt:TypeId} (hok:Cw P kt=true) {H} {k:Value} {c} (rk:AL H (ty P kt) k.cells.toList c) (hk:BJ k=(ty P kt).isAgg) (w:World) {α:Type}:
  ∀(ms:List MapEntry) (cs:List (C × α)) (i:Nat),Gg H (ty P kt) ms cs->(qk kt k ms i).run P w= .ok ((Dx cs c i).bind fun j=>(ms[j-i]?).map fun m=>(j,m.val)) w
 | [],[],i,_=>by simp[qk,Dx]
 |m::ms,(c1,v1)::cs,i,h=>by
  simp only[Gg]at h;have he:=q1x hP hok w rk hk h.1 h.2.1;have ih:=q1z hP hok rk hk w ms cs (i+1) h.2.2;simp only[qk,cu,he,cr,Dx];cases hc:rp c c1 with
  |true=>simp|false=>
   simp only[fe,if_false,ih];cases hf:Dx cs c (i+1)with
   |none=>rfl|some j=>
    have hj:i+1<=j:=by
     have:∀(cs:List (C × α)) (i j:Nat),Dx cs c i=some j->i<=j:=by
      intro cs
      induction cs with
      |nil=>intro i j h;simp[Dx]at h|cons x cs ih=>
       intro i j h;obtain⟨a,b⟩:=x;simp only[Dx]at h;split at h;{cases h;exact bx _};{have:=ih _ _ h;omega}
     exact this cs _ _ hf
    simp only[gh];rw[show j-i=(j-(i+1))+1 by omega,gf]
 | [],_::_,_,h=>by simp[Gg]at h
 |_::_,[],_,h=>by simp[Gg]at h
def z35 (hP:Aq P=true) {kt:TypeId} (hok:Cw P kt=true) {H} {d:TypeDesc} (hd:P.underlying kt=some d) {k k':Value} {c c'} (rk:AL H (ty P kt) k.cells.toList c) (hk:BJ k=(ty P kt).isAgg)
  (rk':AL H (ty P kt) k'.cells.toList c') (hk':BJ k'=(ty P kt).isAgg):na d k k'=none\/na d k k'=some (rp c c'):=by
 unfold Cw at hok;simp only[az]at hok;have h:=hok.1;simp only[Fl,az,decide_eq_true_eq]at h;obtain⟨hT,h⟩:=h;unfold ty tyF at rk hk rk' hk';rw[if_pos hT]at rk hk rk' hk';cases d <;> simp only[hd,fe]at h rk hk rk' hk'
 case bool=>
  rw[CW (by simpa[jb]using hk)]at rk;rw[CW (by simpa[jb]using hk')]at rk';simp only[AL]at rk rk';obtain⟨x,rfl,e1⟩:=rk;obtain⟨y,rfl,e2⟩:=rk';simp at e1 e2;subst e1;subst e2;right;simp[na,C.uC]
 case int kk=>
  rw[CW (by simpa[jb]using hk)]at rk;rw[CW (by simpa[jb]using hk')]at rk';simp only[AL]at rk rk';obtain⟨x,rfl,e1,_⟩:=rk;obtain⟨y,rfl,e2,_⟩:=rk';simp at e1 e2;subst e1;subst e2;right;simp[na,C.uD]
 case string=>
  rw[CW (by simpa[jb]using hk)]at rk;rw[CW (by simpa[jb]using hk')]at rk';simp only[AL]at rk rk';obtain⟨x,rfl,e1,_⟩:=rk;obtain⟨y,rfl,e2,_⟩:=rk';simp at e1 e2;subst e1;subst e2;right;simp[na,C.uE,beq_toListBytes,ByteArray.toList_eq]
 all_goals (left;rfl)
def vB (hP:Aq P=true) {kt:TypeId} (hok:Cw P kt=true) {H} {d:TypeDesc} (hd:P.underlying kt=some d) {k:Value} {c} (rk:AL H (ty P kt) k.cells.toList c) (hk:BJ k=(ty P kt).isAgg) {α:Type}:
  ∀(ms:List MapEntry) (cs:List (C × α)) (i:Nat),Gg H (ty P kt) ms cs->pk d k ms i=none\/pk d k ms i=some ((Dx cs c i).bind fun j=>(ms[j-i]?).map fun m=>(j,m.val))
 | [],[],i,_=>by right;simp[pk,Dx]
 |m::ms,(c1,v1)::cs,i,h=>by
  simp only[Gg]at h;simp only[pk];rcases z35 hP hok hd rk hk h.1 h.2.1 with he|he;{rw[he];exact .inl rfl}
  ·rw[he];simp only[Dx];cases hc:rp c c1 with
   |true=>right;simp|false=>
    simp only[fe,if_false];rcases vB hP hok hd rk hk ms cs (i+1) h.2.2 with ih|ih;{exact .inl ih}
    ·right;rw[ih];cases hf:Dx cs c (i+1)with
     |none=>rfl|some j=>
      have hj:i+1<=j:=by
       have:∀(cs:List (C × α)) (i j:Nat),Dx cs c i=some j->i<=j:=by
        intro cs
        induction cs with
        |nil=>intro i j h;simp[Dx]at h|cons x cs ih=>
         intro i j h;obtain⟨a,b⟩:=x;simp only[Dx]at h;split at h;{cases h;exact bx _};{have:=ih _ _ h;omega}
       exact this cs _ _ hf
      simp only[gh];rw[show j-i=(j-(i+1))+1 by omega,gf]
 | [],_::_,_,h=>by simp[Gg]at h
 |_::_,[],_,h=>by simp[Gg]at h
def z3V (hP:Aq P=true) {kt:TypeId} (hok:Cw P kt=true) {H:Hp} {k:Value} {c:C} (rk:AL H (ty P kt) k.cells.toList c) (hk:BJ k=(ty P kt).isAgg) (w:World) {α:Type} {ms:List MapEntry} {cs:List (C × α)} (h:Gg H (ty P kt) ms cs):
  (sv kt k ms).run P w= .ok ((Dx cs c 0).bind fun j=>(ms[j]?).map fun m=>(j,m.val)) w:=by
 obtain⟨d,hd⟩:∃d,P.underlying kt=some d:=by
  cases hu:P.underlying kt with
  |some d=>exact⟨d,rfl⟩|none=>unfold Cw at hok;simp[Fl,hu]at hok
 simp only[sv,cu,run_underlying hd,cr];rcases vB hP hok hd rk hk ms cs 0 h with e|e;{rw[e];simp only;exact q1z hP hok rk hk w ms cs 0 h};{rw[e];simp only[fb,qx]}
end
end
section
def Ty.flat:Ty->Bool
 | .int _| .bool| .str=>true| .arr _ e=>e.flat|_=>false
def UZ:Value->Bool
 | .int _ _| .bool _| .string _=>true|_=>false
def q03 {H H'}:∀{τ:Ty} {vs vs':List Value} {c:C},τ.flat=true->AL H τ vs c->AL H' τ vs' c->vs=vs'
 | .int k,vs,vs',c,_,h,h'=>by simp only[AL]at h h';obtain⟨n,rfl,rfl,_⟩:=h;obtain⟨m,e,rfl,_⟩:=h';cases e;rfl
 | .bool,vs,vs',c,_,h,h'=>by simp only[AL]at h h';obtain⟨n,rfl,rfl⟩:=h;obtain⟨m,e,rfl⟩:=h';cases e;rfl
 | .str,vs,vs',c,_,h,h'=>by simp only[AL]at h h';obtain⟨n,rfl,rfl,_⟩:=h;obtain⟨m,e,rfl,_⟩:=h';cases e;rfl
 | .arr n e,vs,vs',c,hf,h,h'=>by
  simp only[AL]at h h';obtain⟨cs,rfl,h1,h2,_,h3⟩:=h;obtain⟨cs',e',h1',h2',_,h3'⟩:=h';cases e';refine fk fun j=>?_;by_cases hj:j<n*e.size
  ·have hs:0<e.size:=by rcases og e.size with h|h;{rw[h,Nat.mul_zero]at hj;omega};{exact h}
   have hi:j / e.size<cs.length:=by rw[h1];exact(uk hs).2 hj
   have hdm:=xq j e.size;have z6a:=Nat.mod_lt j hs;have heq:=q03 (τ:=e) hf (h3 _ _ (bg hi)) (h3' _ _ (bg hi));have:=congrArg (fun l:List Value=>l[j%e.size]?) heq;simp only[Df,if_pos z6a]at this;rw[Nat.mul_comm,hdm]at this;exact this
  ·rw[gb (by omega),gb (by omega)]
 | .slice _ _,_,_,_,hf,_,_| .struct _ _ _,_,_,_,hf,_,_| .ptr,_,_,_,hf,_,_| .map,_,_,_,hf,_,_| .func,_,_,_,hf,_,_| .iface,_,_,_,hf,_,_| .opq _,_,_,_,hf,_,_=>by simp[Ty.flat]at hf
def lV {H}:∀{τ:Ty} {vs:List Value} {c:C},τ.flat=true->AL H τ vs c->∀v∈vs,UZ v=true
 | .int k,vs,c,_,h=>by simp only[AL]at h;obtain⟨n,rfl,rfl,_⟩:=h;intro v hv;simp at hv;subst hv;rfl
 | .bool,vs,c,_,h=>by simp only[AL]at h;obtain⟨n,rfl,rfl⟩:=h;intro v hv;simp at hv;subst hv;rfl
 | .str,vs,c,_,h=>by simp only[AL]at h;obtain⟨n,rfl,rfl,_⟩:=h;intro v hv;simp at hv;subst hv;rfl
 | .arr n e,vs,c,hf,h=>by
  simp only[AL]at h;obtain⟨cs,rfl,h1,h2,_,h3⟩:=h;intro v hv;obtain⟨j,hj⟩:=List.getElem?_of_mem hv;have hjl:j<n*e.size:=by rw[<-h2];exact(bu.1 hj).1
  have hs:0<e.size:=by rcases og e.size with h|h;{rw[h,Nat.mul_zero]at hjl;omega};{exact h}
  have hi:j / e.size<cs.length:=by rw[h1];exact(uk hs).2 hjl
  have hdm:=xq j e.size;have z6a:=Nat.mod_lt j hs;refine lV (τ:=e) hf (h3 _ _ (bg hi)) v (fg (i:=j%e.size) ?_);rw[Df,if_pos z6a,Nat.mul_comm,hdm];exact hj
 | .slice _ _,_,_,hf,_| .struct _ _ _,_,_,hf,_| .ptr,_,_,hf,_| .map,_,_,hf,_| .func,_,_,hf,_| .iface,_,_,hf,_| .opq _,_,_,hf,_=>by simp[Ty.flat]at hf
def q1E {n:Nat} {v} (h:UZ v=true):mf n v v=true:=by cases v <;> simp[UZ]at h <;> cases n <;> simp[mf,beq_toListBytes]
def z5s (l:List Value):l.zip l=l.map fun x=>(x,x):=by
 induction l with
 |nil=>rfl|cons x l ih=>simp[ih]
def sameBits_self {n:Nat} {v:Value} (h:∀u∈v.cells.toList,UZ u=true) (hv:BJ v=false->UZ v=true):mf (n+1) v v=true:=by
 cases v
 case agg a=>
  simp only[fc]at h;simp only[mf,beq_self_eq_true,Bool.true_and,z5s,List.all_map,eh,Function.comp];exact fun u hu=>q1E (h u hu)
 all_goals exact q1E (hv rfl)
def z41 {u v:Value} (h:u.cells.toList=v.cells.toList) (h':BJ u=BJ v):u=v:=by
 cases hu:BJ u with
 |false=>
  rw[CW hu,CW (h' ▸ hu)]at h;simpa using h
 |true=>
  rw[hu]at h';cases u <;> simp[BJ]at hu;cases v <;> simp[BJ]at h';simp only[fc]at h;rw[vk.1 h]
section
variable {P:Program} {Γ:G} {w:World} {s:S}
def Gg.of {H} {kτ:Ty} {α:Type}:∀{ms:List MapEntry} {cs:List (C × α)},ms.length=cs.length->(∀(i:Nat) (m:MapEntry) (c:C × α),ms[i]? =some m->cs[i]? =some c->AL H kτ m.key.cells.toList c.1/\BJ m.key=kτ.isAgg)->Gg H kτ ms cs
 | [],[],_,_=>trivial|m::ms,c::cs,hl,h=>by obtain⟨h1,h2⟩:=h 0 m c rfl rfl;exact⟨h1,h2,Gg.of (by simpa using hl) fun i m c hm hc=>h (i+1) m c (by simpa using hm) (by simpa using hc)⟩
 | [],_::_,hl,_=>by simp at hl
 |_::_,[],hl,_=>by simp at hl
def cC {α:Type}:∀(cs:List (C × α)) (c:C) (i:Nat),match Dx cs c i with|some j=>i<=j/\∃v,cs[j-i]? =some (c,v)/\FL cs c=some v/\∀v',EK cs c v'=cs.set (j-i) (c,v')|none=>FL cs c=none/\∀v',EK cs c v'=cs++[(c,v')]
 | [],_,_=>by simp[Dx,FL,EK]
 |(k,v)::cs,c,i=>by simp only[Dx,FL,EK];by_cases h:rp c k=true;{rw[if_pos h];have:=C.GP.1 h;subst this;simp[h]};{rw[if_neg h];have ih:=cC cs c (i+1);split at ih;{rename_i j hj;obtain⟨h1,v',h2,h3,h4⟩:=ih;rw[if_neg h];refine⟨by omega,v',?_,h3,fun u=>?_⟩;{rw[show j-i=(j-(i+1))+1 by omega,gf];exact h2};{rw[if_neg h,h4 u,show j-i=(j-(i+1))+1 by omega,List.set_cons_succ]}};{rename_i hj;rw[if_neg h];exact⟨ih.1,fun u=>by rw[if_neg h,ih.2 u];rfl⟩}}
def SL {T kt et:TypeId} (h:HV P T=some (kt,et)):P.underlying T=some (.map kt et):=by unfold HV at h;split at h;{rename_i hu;cases h;exact hu};{cases h}
def UL {k v} (h:AG Γ (.mp k) v):∃b,Γ.ι k=some (b,.map)/\v= .map (some b):=by obtain⟨h1,h2⟩:=(Bd rfl).1 h;rw[CW (by simpa[pz,jb]using h2)]at h1;simp only[AA]at h1;obtain⟨b,h1,h3⟩:=h1;exact⟨b,h1,by simpa using h3⟩
def q1y (hP:Aq P=true) (c:AQ Γ w s) {k:Key} {kt:TypeId} {vτ:Ty} {es:List (C × V)} {key:Value} {cc:C} (yr:s.obj k=some (.map (ty P kt) vτ es)) (hok:Cw P kt=true)
  (hk:AG Γ (.d (ty P kt) cc) key) {b:Nat} (hι:Γ.ι k=some (b,.map)):∃ms clock,w.heap[b]? =some (.map ms clock)/\(∀em,(jm em 10000 kt key).run P w= .ok () w)/\
   (sv kt key ms.toList).run P w= .ok ((Dx es cc 0).bind fun j=>(ms.toList[j]?).map fun m=>(j,m.val)) w:=by
 obtain⟨b',ms,clock,e1,_,_,e4,e5,e6,_⟩:=c.own (by assumption) yr;rw[hι]at e1;cases e1;obtain⟨r1,r2⟩:=Cz.1 hk;have z6c:=hok;unfold Cw at z6c;simp only[az]at z6c;refine⟨ms,clock,e4,fun em=>mI hP em 12 10000 kt z6c.1 (by decide) Γ.H key cc w r1 r2,?_⟩;exact z3V hP hok r1 r2 w (Gg.of (by simpa using e5) fun i m c hm hc=>⟨(e6 i m c (by simpa using hm) hc).1,(e6 i m c (by simpa using hm) hc).2.1⟩)
def q5E (c:AQ Γ w s) {o:Oper} {a} {T:TypeId} {n:Nat} {kτ vτ} (ho:o.op= .makeMap T none) (hn:s.obj (.l n)=none):
  Au P o a w (BC Γ w {s with loc:=(.l n,.map kτ vτ [])::s.loc} (.mp (.l n))):=by
 obtain⟨h1,h2,h3⟩:=c.Bt hn (xi w (.map #[] 0)) (τ:=.map) (o:=.map kτ vτ []) fun Γ' hpr _ hι hH hZ=>⟨w.heap.size,#[],0,hι,hH,hZ,heap_alloc_new w _,rfl,fun i m c hm=>by simp at hm,fun i m hm=>by simp at hm,fun i j m m' hm=>by simp at hm⟩;refine Au.val (v:=.map (some w.heap.size)) (w':=w.alloc (.map #[] 0)) ?_ ⟨_,h3,h2,h1,?_⟩;{unfold execOp;have hr:(Instr.makeMap T none).run P w= .ok (.map (some w.heap.size)) (w.alloc (.map #[] 0)):=rfl;simp[ho,hr]};{refine(Bd rfl).2 ⟨?_,by simp[pz,jb,BJ]⟩;simp only[AA];exact⟨w.heap.size,by simp[G.Bt,Db],by simp[fc]⟩}
def HT (P:Program) (et:TypeId) (es:List (C × V)) (c:C):V:=(FL es c).getD (Bz (ty P et))
def q5D (hP:Aq P=true) (c:AQ Γ w s) {o:Oper} {a:Act} {T kt et:TypeId} {x i} {z52:Bool} {k vτ es cc}
  (ho:o.op= .lookup T x i z52) (hT:HV P T=some (kt,et)) (hx:AG Γ (.mp k) (a.eval x)) (hi:AG Γ (.d (ty P kt) cc) (a.eval i)) (yr:s.obj k=some (.map (ty P kt) vτ es)) (hok:Cw P kt=true) (hz:CB P et=true):
  Au P o a w (BC Γ w s (if z52 then .tup [HT P et es cc,.d .bool (.bool (FL es cc).isSome)]else HT P et es cc)):=by
 obtain⟨b,hι,hxv⟩:=UL hx;obtain⟨ms,clock,hb,hck,hfk⟩:=q1y hP c yr hok hi hι;obtain⟨z,hzr,hzo,hza⟩:=q1D hz;have hfl:=cC es cc 0;obtain⟨b',ms',z7s,e1,_,_,e4,e5,e6,_⟩:=c.own (by assumption) yr;rw[hι]at e1;cases e1;rw[hb]at e4;cases e4;obtain⟨v,ok,hrv,z77,zi⟩:∃v ok,(AG Γ (HT P et es cc) v/\(HT P et es cc).plain=true)/\ok=(FL es cc).isSome/\(tp T (a.eval x) (a.eval i) z52).run P w= .ok (if z52 then .tuple #[v,.bool ok]else v) w:=by
  cases hf:Dx es cc 0 with
  |none=>
   rw[hf]at hfl hfk;simp only at hfl;refine⟨z,false,⟨?_,?_⟩,by rw[hfl.1];rfl,?_⟩;{simp only[HT,hfl.1,qy];exact(Bd (Yv _)).2 ⟨Yw (ty P et) hzo,by rw[NP];exact hza⟩};{simp only[HT,hfl.1,qy];exact Yv _};{simp[tp,hxv,run_underlying (SL hT),je hb,hck,hfk,hzr]}
  |some j=>
   rw[hf]at hfl hfk;simp only[qx]at hfl;obtain⟨_,v0,h2,h3,_⟩:=hfl;obtain⟨m,hm⟩:∃m,ms[j]? =some m:=by
    have:j<ms.size:=by rw[e5];exact(bu.1 h2).1
    exact⟨_,ee this⟩
   obtain⟨_,_,q3,q4,q5,q6,q7⟩:=e6 j m _ hm h2;simp only at q3 q4 q5 q6;refine⟨m.val,true,⟨?_,?_⟩,by rw[h3];rfl,?_⟩;{simp only[HT,h3,jh];exact(Bd q6).2 ⟨q3,by rw[q4,q5]⟩};{simp only[HT,h3,jh];exact q6}
   ·have hm':ms.toList[j]? =some m:=by simpa using hm
    rw[gh,hm']at hfk;simp[tp,hxv,run_underlying (SL hT),je hb,hck,hfk]
 refine Au.val (v:=if z52 then .tuple #[v,.bool ok]else v) (w':=w) (by unfold execOp;simp[ho,zi]) (BC.same c ?_);cases z52 with
 |false=>exact hrv.1|true=>
  refine⟨#[v,.bool ok],rfl,?_⟩;refine UI (by simp) fun i x u hx hu=>?_
  match i with
  |0=>simp at hx hu;subst hx;subst hu;exact⟨hrv.2,hrv.1⟩|1=>simp at hx hu;subst hx;subst hu;subst z77;exact⟨rfl,Ch⟩|i+2=>simp at hx
def z4g {w w':World} {b:Nat} (hlt:b<w'.heap.size) (oth:∀b',b'≠b->w'.heap[b']? =w.heap[b']?):w.heap.size<=w'.heap.size:=
 mS (o:=w'.heap[b]) (by simp[hlt]) oth
def AQ.q24 (c:AQ Γ w s) {w':World} {k} {o0 o1:O} {b:Nat} {τk}
  (ho:s.obj k=some o0) (hd0:o0.EY=false) (hι:Γ.ι k=some (b,τk)) (hnc:∀arr T fr,w.heap[b]?≠some (.cells arr T fr)) (zl:b<w'.heap.size) (zg:∀b',b'≠b->w'.heap[b']? =w.heap[b']?) (hoo:oof w'=oof w) (yw:Γ.H b=none->Γ.Z b=none->Own Γ w' k o1):
  AQ Γ w' {s with loc:=(k,o1)::s.loc}:=by
 obtain⟨hH,hZ,hlt,e2⟩:=c.Eb hι ho hd0;refine c.change (.refl Γ) rfl rfl rfl hoo (fun b' l h=>?_) (fun b' h=>zg b' (fun e=>by subst e;exact h hZ)) (fun b' o sz h=>?_) (fun j o h=>?_) (fun _ h _=>h) (fun j h=>?_) (fun b' sz h=>?_) (c.Jz (aU fun h=>by rw[Ed ho,hd0]at h;cases h)) c.tok c.zc (z4g zl zg);{rw[zg b' (fun e=>by subst e;rw[hH]at h;cases h)];exact c.hH b' l h};{obtain⟨a1,a2,a3⟩:=c.hκ b' o sz h;rw[zg b' (fun e=>by subst e;exact a2 hH)];exact⟨a1,a2,a3⟩};{rw[CX]at h;split at h;{rename_i e;subst e;cases h;exact .inr (yw hH hZ)};{rename_i e;refine .inl ⟨h,fun hd=>⟨fun _ _ _ _=>⟨rfl,rfl⟩,fun b' τ' hb=>?_⟩⟩;obtain⟨a1,a2,a3,_⟩:=c.Eb hb h hd;refine⟨zg b' (fun e'=>?_),a1⟩;subst e';exact e (c.dI hι hb (by rw[Ed ho];exact hd0) (by rw[Ed h];exact hd))}};{rw[CX];split;{simp};{exact c.dom j h}};{obtain⟨arr,T1,fr,a1,a2⟩:=c.hσ b' sz h;by_cases e:b'=b;{subst e;exact absurd a1 (hnc _ _ _)};{exact⟨arr,T1,fr,by rw[zg b' e];exact a1,a2⟩}}
def wO (w:World) (b b':Nat) (o:Obj) (h:b'≠b):({w with heap:=w.heap.setIfInBounds b o}:World).heap[b']? =w.heap[b']?:=by simp only[Array.getElem?_setIfInBounds_ne (fun e=>h e.symm)]
def WK (w:World) {b:Nat} {o o'} (h:w.heap[b]? =some o'):({w with heap:=w.heap.setIfInBounds b o}:World).heap[b]? =some o:=by have:=(mg.1 h).1;simp[this]
def q5G (hP:Aq P=true) (c:AQ Γ w s) {o:Oper} {a:Act} {T kt et:TypeId} {x i y k es cc} {Y:V}
  (ho:o.op= .mapUpdate T x i y) (hT:HV P T=some (kt,et)) (hx:AG Γ (.mp k) (a.eval x)) (hi:AG Γ (.d (ty P kt) cc) (a.eval i)) (hy:AG Γ Y (a.eval y)) (yr:s.obj k=some (.map (ty P kt) (ty P et) es)) (hok:Cw P kt=true) (hfl:(ty P kt).flat=true)
  (h1:Y.ty=ty P et) (h2:Y.plain=true) (h3:Y.Ay=true):
  Au P o a w (BC Γ w {s with loc:=(k,.map (ty P kt) (ty P et) (EK es cc Y))::s.loc} .any):=by
 obtain⟨b,hι,hxv⟩:=UL hx;obtain⟨ms,clock,hb,hck,hfk⟩:=q1y hP c yr hok hi hι;have hix:=cC es cc 0;obtain⟨b',ms',z7s,e1,_,_,e4,e5,e6,e7,e8⟩:=c.own (by assumption) yr;rw[hι]at e1;cases e1;rw[hb]at e4;cases e4;obtain⟨k1,k2⟩:=Cz.1 hi;obtain⟨y1,y2⟩:=(Bd h2).1 hy;cases hf:Dx es cc 0 with
 |none=>
  rw[hf]at hix hfk;simp only at hix;have zi:(nv T (a.eval x) (a.eval i) (a.eval y)).run P w= .ok () {w with heap:=w.heap.setIfInBounds b (.map (ms.push {key:=a.eval i,val:=a.eval y,born:=clock}) (clock+1))}:=by simp[nv,hxv,run_underlying (SL hT),je hb,hck,hfk,sq _ hb]
  refine Au.skip (w':=_) (by unfold execOp;simp[ho,zi];rfl) ⟨Γ,.refl Γ,.refl Γ,c.q24 (o1:=.map (ty P kt) (ty P et) (EK es cc Y)) yr rfl hι (fun arr T fr h=>by rw[hb]at h;cases h) (IA (WK w hb)) (fun b' h=>wO w b b' _ h) rfl fun hH hZ=>?_,by simp[AG]⟩;refine⟨b,_,_,hι,hH,hZ,WK w hb,by rw[hix.2];simp[e5],fun j m c1 hm hc1=>?_,fun j m hm=>?_,fun j j' m m' hm hm' hbb=>?_⟩;{rw[hix.2]at hc1;rw[ow]at hm;by_cases hj:j=ms.size;{rw[if_pos hj]at hm;cases hm;rw[ft (by omega),hj,e5]at hc1;simp at hc1;subst hc1;exact⟨k1,k2,y1,by rw[y2,h1],h1,h2,h3⟩};{rw[if_neg hj]at hm;have hjl:j<ms.size:=(mg.1 hm).1;rw[fm (by omega)]at hc1;exact e6 j m c1 hm hc1}};{rw[ow]at hm;by_cases hj:j=ms.size;{rw[if_pos hj]at hm;cases hm;simp};{rw[if_neg hj]at hm;have:=e7 j m hm;omega}};{rw[ow]at hm hm';by_cases hj:j=ms.size <;> by_cases hj':j'=ms.size;{omega};{rw[if_pos hj]at hm;rw[if_neg hj']at hm';cases hm;have:=e7 j' m' hm';simp at hbb;omega};{rw[if_neg hj]at hm;rw[if_pos hj']at hm';cases hm';have:=e7 j m hm;simp at hbb;omega};{rw[if_neg hj]at hm;rw[if_neg hj']at hm';exact e8 j j' m m' hm hm' hbb}}
 |some j=>
  rw[hf]at hix hfk;simp only[qx]at hix;obtain⟨_,v0,g2,g3,g4⟩:=hix;obtain⟨m,hm⟩:∃m,ms[j]? =some m:=by
   have:j<ms.size:=by rw[e5];exact(bu.1 g2).1
   exact⟨_,ee this⟩
  obtain⟨q1,q2,_⟩:=e6 j m _ hm g2;simp only at q1;have z78:m.key=a.eval i:=z41 (q03 hfl q1 k1) (by rw[q2,k2]);have hsb:mf 10000 (((ms[j]?).map (·.key)).getD (a.eval i)) (a.eval i)=true:=by rw[hm];simp only[gj,jh,z78];refine sameBits_self (lV hfl k1) fun hag=>?_;have:=lV hfl k1;rw[CW hag]at this;exact this _ (by simp)
  have hm':ms.toList[j]? =some m:=by simpa using hm
  rw[gh,hm']at hfk;have zi:(nv T (a.eval x) (a.eval i) (a.eval y)).run P w= .ok () {w with heap:=w.heap.setIfInBounds b (.map (ms.modify j fun e=>{e with key:=a.eval i,val:=a.eval y}) clock)}:=by simp only[gj]at hfk;simp[nv,hxv,run_underlying (SL hT),je hb,hck,hfk,Instr.keyThatStays,hsb,sq _ hb]
  refine Au.skip (w':=_) (by unfold execOp;simp[ho,zi];rfl) ⟨Γ,.refl Γ,.refl Γ,c.q24 (o1:=.map (ty P kt) (ty P et) (EK es cc Y)) yr rfl hι (fun arr T fr h=>by rw[hb]at h;cases h) (IA (WK w hb)) (fun b' h=>wO w b b' _ h) rfl fun hH hZ=>?_,by simp[AG]⟩;have born:∀(j':Nat) (m':MapEntry),(ms.modify j fun e=>{e with key:=a.eval i,val:=a.eval y})[j']? =some m'->∃m0,ms[j']? =some m0/\m'.born=m0.born/\(j'≠j->m'=m0)/\(j'=j->m'={m0 with key:=a.eval i,val:=a.eval y}):=by intro j' m' h;rw[Array.getElem?_modify]at h;by_cases e:j=j';{subst e;rw[if_pos rfl,hm]at h;simp at h;subst h;exact⟨m,hm,rfl,fun h=>absurd rfl h,fun _=>rfl⟩};{rw[if_neg e]at h;exact⟨m',h,rfl,fun _=>rfl,fun h=>absurd h.symm e⟩}
  refine⟨b,_,_,hι,hH,hZ,WK w hb,by rw[g4];simp[e5],fun j' m' c1 hm1 hc1=>?_,fun j' m' hm1=>?_,fun j1 j2 m1 m2 hm1 hm2 hbb=>?_⟩;{obtain⟨m0,z1,_,z3,z4⟩:=born j' m' hm1;rw[g4]at hc1;by_cases e:j'=j;{rw[z4 e];subst e;have hlt:=(bu.1 g2).1;simp[hlt]at hc1;subst hc1;exact⟨k1,k2,y1,by rw[y2,h1],h1,h2,h3⟩};{rw[List.getElem?_set_ne (fun h=>e h.symm)]at hc1;rw[z3 e];exact e6 j' m0 c1 z1 hc1}};{obtain⟨m0,z1,z2,_⟩:=born j' m' hm1;rw[z2];exact e7 j' m0 z1};{obtain⟨n1,z1,z2,_⟩:=born j1 m1 hm1;obtain⟨n2,z1',z2',_⟩:=born j2 m2 hm2;exact e8 j1 j2 n1 n2 z1 z1' (by rw[<-z2,<-z2',hbb])}
end
end
section
section
variable {P:Program} {Γ:G} {w:World} {s:S}
def sS (hP:Aq P=true) (c:AQ Γ w s) {o} {a:Act} {x y} {t t':TypeId} {n:Nat} {X Y ys} {eb:Nat} {e} (ho:Nd o x y t t')
  (ht:ty P t= .slice eb e) (hz:CB P (Al P t)=true) (hn:s.obj (.l n)=none)
  (hx:AG Γ X (a.eval x)) (hX:X= .ym\/∃eb' e',X= .emp eb' e') (hy:AG Γ Y (a.eval y)) (hel:KW P s t' eb e Y ys) (hne:ys≠[]):
  Au P o a w (BC Γ w {s with loc:=(.l n,.box (.d (.arr ys.length e) (.agg ys)))::s.loc} (.sr (.l n) [] 0 ys.length none eb e)):=by
 obtain⟨hu,he,heb,hE⟩:=Lj hP ht;obtain⟨a0,hx0⟩:∃a0,a.eval x= .slice a0 0 0:=by rcases hX with rfl|⟨eb',e',rfl⟩;{exact⟨none,Fb hx⟩};{obtain⟨h1,_⟩:=(Bi rfl rfl).1 hx;simp only[AA]at h1;obtain⟨a0,h1⟩:=h1;exact⟨a0,by simpa using h1⟩}
 obtain⟨m,news,hs,r1,r2,r3,r4⟩:=Ug c hy hel;obtain⟨i,z,hi,hzz,hzo,z6h⟩:=Lq hz;have hcz:=NN hzo;have hsz:i.size=e.size:=by have:=Cj hP 11 (Al P t);rw[he,this];simp[il,hi]
 have hby:i.bytes=eb:=by rw[heb];simp[np,hi]
 rw[<-hsz]at hs;have hm:m≠0:=by intro h;subst h;exact hne (fh r1)
 have zo:((0+m:Nat):Int)<=9223372036854775807:=by unfold maxLen at r2;omega
 have hge:=grownCap_ge w (0+m) 0 (Al P t);have hcm:=grownCap_le_maxLen w (0+m) 0 (Al P t) (by omega);have hold:(fv i.size 0 (.slice a0 0 0)).run P w.drew= .ok ([]:List Value).toArray w.drew:=by
  cases a0 with
  |none=>exact run_firstCells_none w.drew i.size 0 0 0|some ad=>exact run_firstCells_some w.drew i.size 0 ad 0 0 [] (by simp) (by simp)
 have run:=run_append_grow_src (P:=P) w t t' o.type _ i z hu hi hzz a0 0 0 [] hold (a.eval y) m news hs (by omega) zo (by
  rw[hby];exact growslice_fits (by omega) (by rw[cm];exact r3))
 rw[<-hx0]at run;have z6i:Ext w (w.drew.alloc (.cells ((([]:List Value)++news).toArray++fp z.cells (grownCap w (0+m) 0 (Al P t)-(0+m))) (Al P t))):=(Ext.drew w).trans (xi _ _);have zh:=heap_alloc_new w.drew (.cells ((([]:List Value)++news).toArray++fp z.cells (grownCap w (0+m) 0 (Al P t)-(0+m))) (Al P t));have hnl:news.length=m*e.size:=by rw[hs.newsLen,hsz]
 have z56:Ct news:=PG r1 hnl r4;have za:AA Γ none [] (.d (.arr ys.length e) (.agg ys)) news:=by simp only[AA,AL];exact⟨ys,rfl,rfl,by rw[r1];exact hnl,z56,r4⟩
 have z6d:chunk ((([]:List Value)++news).toArray++fp z.cells (grownCap w (0+m) 0 (Al P t)-(0+m))).toList 0 (ys.length*e.size)=news:=by rw[r1,<-hnl];simp[chunk]
 obtain⟨h1,h2,h3⟩:=c.Bt (k:=.l n) hn z6i (τ:=.arr ys.length e) (o:=.box (.d (.arr ys.length e) (.agg ys))) fun Γ' hpr _ hι hH hZ=>
  ⟨_,_,Al P t,hι,hH,hZ,zh,by simp only[pz,iy,r1,<-hnl];simp,by
   simp only[pz,iy];rw[z6d];exact(za.BN hpr (by trivial)).Dd,rfl,rfl⟩
 obtain⟨k1,k2,k3⟩:=h1.Hl (show _=_ from zh);refine Au.val (KR ho run) ⟨_,h3.trans k3,h2.trans k2,k1,(Bi rfl rfl).2 ⟨?_,rfl⟩⟩;simp only[AA];rw[show 0+m=m by omega]at hge hcm ⊢;refine .inr ⟨w.heap.size,.arr ys.length e,0,ys.length,grownCap w m 0 (Al P t),by simp[G.Hl,G.Bt,Db],rfl,by omega,⟨some ⟨w.heap.size,0,none⟩,by rw[r1],.inr (by simp)⟩,by rw[r1];exact hge,hcm,by rw[r1];exact r3,(fun c h=>by cases h),fun _=>.inr ⟨_,Ce _ _ _,?_⟩⟩;have hzc:z.cells.size=e.size:=by have h1:=Cj hP 11 (Al P t);have h2:=NJ hP (Al P t);rw[he,h1,<-h2,<-hcz];simp
 simp only[List.nil_append,qn,iv,size_zeroCells,hzc,hnl,<-dc];rw[cm,cm];exact bz _ (by omega)
def q5C (c:AQ Γ w s) {o:Oper} {a:Act} {x:Operand} {T:TypeId} {k:Key} {kτ vτ:Ty} {es:List (C × V)} (ho:o.op= .call {callee:=.builtin .len,args:=#[x],argTypes:=#[T]})
  {kt et:TypeId} (hT:HV P T=some (kt,et)) (hx:AG Γ (.mp k) (a.eval x)) (yr:s.obj k=some (.map kτ vτ es)) (hl:es.length<=9223372036854775807):Au P o a w (BC Γ w s (.d (.int .i64) (.int es.length))):=by
 obtain⟨b,hι,hxv⟩:=UL hx;obtain⟨b',ms,clock,e1,_,_,e4,e5,_⟩:=c.own (by assumption) yr;rw[hι]at e1;cases e1;refine Au.val (v:=.int .i64 es.length) (w':=w) ?_ (BC.same c (DA ?_ ?_));{unfold execOp;have hw:IntKind.i64.wrap (es.length:Int)=es.length:=IntWalk.i64_in _ (by omega);simp[ho,resolve,invoke,builtin,hxv,Builtin.len_,vx,run_underlying (SL hT),je e4,e5,goInt,hw]}
 ·have:IntKind.i64.min= -9223372036854775808:=by decide
  omega
 ·have:IntKind.i64.max=9223372036854775807:=by decide
  omega
end
end
section
def Kh (c:C):UInt8:=UInt8.ofNat c.toInt.toNat
def Ty.Rj:Ty->Bool
 | .int .u8=>true|_=>false
def Ty.dK:∀{τ:Ty},τ.Rj=true->τ= .int .u8
 | .int .u8,_=>rfl
def strOf (P:Program) (s:S) (src dst:TypeId) (x:V):Option (List C):=
 match ty P src,ty P dst with
 | .slice eb e,.str=>if e.Rj=true/\eb=1 then(match x with| .ym=>some []|_=>(match EH s x with|some (eb',e',ys)=>if e'.Rj=true/\eb'=1 then some ys else none|none=>none))else none|_,_=>none
section
variable {P:Program} {Γ:G} {w:World} {s:S}
def q2z {f:Nat} {T:TypeId} {k} (h:tyF P (f+1) T= .int k):P.underlying T=some (.int k):=by unfold tyF at h;split at h;{cases hu:P.underlying T with|none=>simp[hu]at h|some d=>cases d <;> simp[hu]at h ⊢ <;> exact h};{cases h}
def q1R {Y v r} (hr:AG Γ Y v) (he:EH s Y=some r):∃a n cap,v= .slice a n cap:=by
 obtain⟨eb,e,ys⟩:=r;have frozen:Y.Ej=some (eb,e,ys)->∃a n cap,v= .slice a n cap:=fun h=>by obtain⟨a,n,cap,hv,_⟩:=KP hr h;exact⟨a,n,cap,hv⟩
 cases Y <;> (try exact frozen he)
 case sr k q lo n cp eb' e'=>
  obtain⟨cap,a,rfl,_⟩:=q07 hr;exact⟨_,_,_,rfl⟩
def q4c {c H vs} (h:AL H (.int .u8) vs c):vs=[.int .u8 ((Kh c).toNat:Int)]:=by
 simp only[AL]at h;obtain⟨n,rfl,rfl,h1,h2⟩:=h;have m1:IntKind.u8.min=0:=by decide
 have m2:IntKind.u8.max=255:=by decide
 have:((Kh (.int n)).toNat:Int)=n:=by simp only[Kh,C.toInt,UInt8.toNat_ofNat'];omega
 rw[this]
def q5J (hP:Aq P=true) (c:AQ Γ w s) {o:Oper} {a:Act} {src dst:TypeId} {x} (ho:o.op= .convert src dst x) {Y} {ys:List C} (h:strOf P s src dst Y=some ys)
  (hr:AG Γ Y (a.eval x)):Au P o a w (BC Γ w s (.d .str (.str (ys.map Kh)))):=by
 unfold strOf at h;split at h
 ·rename_i eb e ht hd;obtain⟨E,hu,hE,_,_⟩:=JD hP ht;have hd':=Lk hd;split at h
  ·rename_i hc0;obtain⟨h0,rfl⟩:=hc0;obtain rfl:=Ty.dK h0;have hEu:P.underlying E=some (.int .u8):=q2z hE.symm;split at h;{cases h;have hv:a.eval x= .slice none 0 0:=Fb hr;refine Au.val (v:=.string ⟨#[]⟩) (w':=w) ?_ (BC.same c (UK (by simp)));unfold execOp;simp only[ho,hv,cu];rw[run_convert_bytes_string w src dst E none 0 0 hu hEu hd'];simp[vf,fb,ru];rfl}
   ·split at h
    ·rename_i eb' e' ys' he;split at h
     ·rename_i hc;obtain⟨h0',rfl⟩:=hc;obtain rfl:=Ty.dK h0';cases h;obtain⟨ad,n',cap,hv⟩:=q1R hr he;obtain⟨n,news,hs,h1,h2,h3,h4⟩:=Yb c hr he hu;rw[hv]at hs;have hn:n'=n:=by have:=hs.len w;simp[vx,fb]at this;exact this
      subst hn;have hsz:(Ty.int IntKind.u8).size=1:=rfl;have hnl:=hs.newsLen;rw[hsz,sc]at hnl;have z7M:news=((ys.map Kh).map (fun b=>(b.toNat:Int))).map (Value.int .u8):=by
       apply fk;intro i;by_cases hi:i<ys.length
       ·have hy:=h4 i _ (bg hi);rw[hsz,sc]at hy;have hb:=q4c hy;have hi':i<news.length:=by omega
        have z5Y:(chunk news i 1)[0]? =news[i]?:=by rw[Df];simp
        rw[hb]at z5Y;rw[<-z5Y];simp[bg hi]
       ·rw[gb (by omega),gb (by simp;omega)]
      refine Au.val (v:=.string ⟨(ys.map Kh).toArray⟩) (w':=w) ?_ (BC.same c (UK (by simp;omega)));unfold execOp;simp only[ho,hv,cu];rw[run_convert_bytes_string w src dst E ad n' cap hu hEu hd'];cases ad with
      |none=>
       have hc:=hs.cells;simp[fv,fb]at hc;have hn0:ys=[]:=by rw[hc]at hnl;simp at hnl;exact fh (by omega)
       subst hn0;simp[vf,fb,ru];rfl
      |some ad=>
       have hc:=hs.cells;simp only[fv,hsz,sc]at hc;rw[z7M]at hc;rw[run_bytesToString w ad n' cap _ hc,foldl_push_byteCells];simp[ru,fb]
     ·cases h
    ·cases h
  ·cases h
 ·cases h
end
end
section
section
variable {P:Program} {Γ:G} {w w':World} {s:S}
def AQ.kill (c:AQ Γ w s) {k o} (ho:s.obj k=some o):AQ Γ w {s with loc:=(k,.dead o.ty)::s.loc}:=by refine⟨c.hH,c.hZ,c.hκ,fun j o' h=>?_,fun j h=>?_,c.Jz (aU fun _=>rfl),c.tok,c.zc,c.hgl,c.hoo,c.hσ⟩;{rw[CX]at h;split at h;{rename_i e;subst e;cases h;refine(c.obj _ _ ho).imp (fun h=>⟨h.1,trivial⟩) fun yw=>?_;obtain⟨b,τ,h1,_,h4,h5⟩:=yw.block;exact⟨b,by rw[<-h5];exact h1,h4⟩};{exact c.obj j o' h}};{rw[CX];split;{simp};{exact c.dom j h}}
def AQ.q0Y (c:AQ Γ w s) {k j} {x x':V} {b m m':Nat} {e} {yt:Array Value} {T:TypeId}
  (ho:s.obj k=some (.box x)) (hxt:x.ty= .arr m e) (hι:Γ.ι k=some (b,.arr m e)) (hj:s.obj j=none) (zh:w'.heap[b]? =some (.cells yt T (0,0))) (zg:∀b',b'≠b->w'.heap[b']? =w.heap[b']?) (hoo:oof w'=oof w)
  (ht:x'.ty= .arr m' e) (hsz:x'.ty.size<=yt.size) (hx:AA Γ none [] x' (chunk yt.toList 0 x'.ty.size)) (hp:x'.plain=true) (hns:x'.Ay=true)
  (hcs:∀arr T fr,w.heap[b]? =some (.cells arr T fr)->yt.size=arr.size) (hkl:∀i,j≠.g i:=by intro i h;cases h):
  AQ (Γ.Bt j b (.arr m' e)) w' {s with loc:=(j,.box x')::(k,.dead (.arr m e))::s.loc}/\BI Γ (Γ.Bt j b (.arr m' e))/\GLe Γ (Γ.Bt j b (.arr m' e)):=by
 obtain⟨hH,hZ,hlt,_⟩:=c.Eb hι ho rfl;have hkj:k≠j:=fun e=>by subst e;rw[ho]at hj;cases hj
 have hk0:=c.QR hj;have hιk:∀i y,Γ.ι i=some y->(Γ.Bt j b (.arr m' e)).ι i=some y:=by
  intro i y hi;have:i≠j:=by intro e;subst e;rw[hk0]at hi;cases hi
  simp[G.Bt,Db,this,hi]
 have hpr:BI Γ (Γ.Bt j b (.arr m' e)):=⟨gq _,hιk,fun t x L h=>⟨x,L,h,bx _,fun _=>rfl⟩,fun _ _ h=>h⟩;have z69:w.heap.size<=w'.heap.size:=by
  cases Nat.lt_or_ge w'.heap.size w.heap.size with
  |inr h=>exact h|inl z79=>
   have h1:=IA zh;have h3:=zg w'.heap.size (by omega);rw[Array.getElem?_eq_none (bx _),ee z79]at h3;cases h3
 have hdk:s.Bb k=false:=by rw[Ed ho];rfl
 have yr:∀i,jj {s with loc:=(j,.box x')::(k,.dead (.arr m e))::s.loc} i=if j=i then some (.box x')else if k=i then some (.dead (.arr m e))else s.obj i:=by intro i;rw[show jj {s with loc:=(j,.box x')::(k,.dead (.arr m e))::s.loc} i=jj {({s with loc:=(k,.dead (.arr m e))::s.loc}:S)with loc:=(j,.box x')::(k,.dead (.arr m e))::s.loc} i from rfl,CX ({s with loc:=(k,.dead (.arr m e))::s.loc}:S),CX s]
 have ze:∀i,s.Bb i=true->S.Bb {s with loc:=(j,.box x')::(k,.dead (.arr m e))::s.loc} i=true:=by intro i hi;unfold S.Bb;rw[yr];by_cases h1:j=i;{subst h1;unfold S.Bb at hi;rw[hj]at hi;cases hi};{rw[if_neg h1];by_cases h2:k=i;{rw[if_pos h2];rfl};{rw[if_neg h2];exact hi}}
 have z8a:S.Bb {s with loc:=(j,.box x')::(k,.dead (.arr m e))::s.loc} k=true:=by unfold S.Bb;rw[yr,if_neg (fun h=>hkj h.symm),if_pos rfl];rfl
 refine⟨?_,hpr,⟨gq _,rfl,fun _ _=>rfl,fun i y h=>hιk _ _ h,rfl,rfl,fun _ _ h=>h,fun i h=>by
  have:Key.g i≠j:=fun e=>hkl i e.symm;simpa[G.Bt,Db,this]using h⟩⟩
 refine c.change hpr rfl rfl rfl hoo (fun b' l h=>?_) (fun b' h=>zg b' (fun e=>by subst e;exact h hZ)) (fun b' o sz h=>?_) (fun i o h=>?_) (fun i h h'=>by
  have:i≠j:=fun e=>by subst e;exact h' hj
  simpa[G.Bt,Db,this]using h) (fun i h=>?_) (fun b' sz h=>?_) (fun i i' b' τ1 τ2 h1 h2=>?_) c.tok c.zc z69
 ·have h':Γ.H b'=some l:=h;rw[zg b' (fun e=>by subst e;rw[hH]at h';cases h')];exact c.hH b' l h'
 ·obtain⟨a1,a2,a3⟩:=c.hκ b' o sz h;rw[zg b' (fun e=>by subst e;exact a2 hH)];exact⟨a1,a2,a3⟩
 ·rw[yr]at h;by_cases e1:j=i;{rw[if_pos e1]at h;subst e1;cases h;exact .inr ⟨b,yt,T,by rw[ht];simp[G.Bt,Db],hH,hZ,zh,hsz,(AA.BN (hm:=none) hpr trivial _ hx).Dd,hp,hns⟩};{rw[if_neg e1]at h;by_cases e2:k=i;{rw[if_pos e2]at h;subst e2;cases h;exact .inr ⟨b,hιk _ _ hι,by omega⟩};{rw[if_neg e2]at h;refine .inl ⟨h,fun hd=>⟨fun _ _ _ _=>⟨rfl,rfl⟩,fun b' τ' hb=>?_⟩⟩;obtain⟨a1,a2,a3,_⟩:=c.Eb hb h hd;refine⟨zg b' (fun e'=>?_),a1⟩;subst e';exact e2 (c.dI hι hb hdk (by rw[Ed h];exact hd))}}
 ·rw[yr];by_cases e1:j=i;{rw[if_pos e1];simp};{rw[if_neg e1];by_cases e2:k=i;{rw[if_pos e2];simp};{rw[if_neg e2];refine c.dom i ?_;have:i≠j:=fun h=>e1 h.symm;simpa[G.Bt,Db,this]using h}}
 ·obtain⟨arr,T1,fr,a1,a2⟩:=c.hσ b' sz h;by_cases e:b'=b;{subst e;exact⟨yt,T,(0,0),zh,by rw[hcs _ _ _ a1];exact a2⟩};{exact⟨arr,T1,fr,by rw[zg b' e];exact a1,a2⟩}
 ·have key:∀i b' τ',(Γ.Bt j b (.arr m' e)).ι i=some (b',τ')->(i=j/\b'=b/\τ'= .arr m' e)\/(i≠j/\Γ.ι i=some (b',τ')):=by intro i b' τ' h;by_cases hij:i=j;{left;simp[G.Bt,Db,hij]at h;exact⟨hij,h.1.symm,h.2.symm⟩};{right;exact⟨hij,by simpa[G.Bt,Db,hij]using h⟩}
  have old:∀i τ',Γ.ι i=some (b,τ')->S.Bb {s with loc:=(j,.box x')::(k,.dead (.arr m e))::s.loc} i=true/\τ'.MW=true:=by intro i τ' h;rcases c.inj i k b _ _ h hι with rfl|⟨h1|h1,h2,_⟩;{rw[hι]at h;cases h;exact⟨z8a,rfl⟩};{exact⟨ze i h1,h2⟩};{rw[hdk]at h1;cases h1}
  rcases key i b' τ1 h1 with⟨e1,e2,e3⟩|⟨e1,e2⟩ <;> rcases key i' b' τ2 h2 with⟨f1,f2,f3⟩|⟨f1,f2⟩;{exact .inl (by rw[e1,f1])};{subst e2;obtain⟨g1,g2⟩:=old i' τ2 f2;exact .inr ⟨.inr g1,by rw[e3];rfl,g2⟩};{subst f2;obtain⟨g1,g2⟩:=old i τ1 e2;exact .inr ⟨.inl g1,g2,by rw[f3];rfl⟩};{exact(c.inj _ _ _ _ _ e2 f2).imp id (ti (wc (ze _) (ze _)) id)}
end
end
section
section
variable {P:Program} {Γ:G} {w w':World} {s:S}
def z3R (w:World) (t tx ty e:TypeId) (i:TypeInfo) (ht:P.underlying t=some (.slice e)) (hi:P.info? e=some i) (base:Option Addr) (z6X z6Y:Nat) (hle:z6X<=z6Y) (x:Value) (hs:Src P i.size tx x 0 [] w):
  (nm #[t,tx] ty #[.slice base z6X z6Y,x]).run P w= .ok (.slice base z6X z6Y) w:=by
 have h0:=hs.cells;rcases hs.kind with⟨e',hk⟩|hk <;> cases base <;> simp[nm,run_underlying ht,run_underlying hk,sizeOf,typeInfo,hi,hs.len,hle,h0,storeCells]
def AQ.z45 (c:AQ Γ w s) {t:Nat} {e} (ht:s.obj (.l t)=none):AQ Γ w {s with loc:=(.l t,.box (.d (.arr 0 e) (.agg [])))::s.loc}:=by refine⟨c.hH,c.hZ,c.hκ,fun j o hj=>?_,fun j hj=>?_,c.Jz (fun j hj=>?_),c.tok,c.zc,c.hgl,c.hoo,c.hσ⟩;{rw[CX]at hj;split at hj;{rename_i e1;subst e1;cases hj;exact .inl ⟨c.QR ht,e,rfl⟩};{exact c.obj j o hj}};{rw[CX];split;{simp};{exact c.dom j hj}};{unfold S.Bb at hj ⊢;rw[CX];split;{rename_i e1;subst e1;rw[ht]at hj;cases hj};{exact hj}}
def q5r (hP:Aq P=true) (c:AQ Γ w s) {o} {a:Act} {x y} {t t':TypeId} {d:Nat} {k} {n M:Nat} {cc Y} {ys:List C} {eb:Nat} {e} (ho:Nd o x y t t')
  (ht:ty P t= .slice eb e) (hz:CB P (Al P t)=true) (hd:s.obj (.l d)=none) (yr:s.obj k=some (.box (.d (.arr M e) cc)))
  (hx:AG Γ (.sr k [] 0 n none eb e) (a.eval x)) (hy:AG Γ Y (a.eval y)) (hel:KW P s t' eb e Y ys) (hlen:(n+ys.length)*eb<=140737488355328) (z7c:n+ys.length<=maxLen):
  Au P o a w (BC Γ w {s with loc:=(.l d,.box (.d (.arr (n+ys.length) e) (.agg (cc.elems.take n++ys))))::(k,.dead (.arr M e))::s.loc} (.sr (.l d) [] 0 (n+ys.length) none eb e)):=by
 obtain⟨hu,he,heb,hE⟩:=Lj hP ht;obtain⟨m,news,hs,r1,r2,r3,r4⟩:=Ug c hy hel;have z8b:EH s (.sr k [] 0 n none eb e)=some (eb,e,cc.elems.take n):=by simp[EH,yr,V.at]
 obtain⟨n',olds,hso,o1,o2,o3,o4⟩:=Yb (P:=P) (tx:=t) c hx z8b hu;have hlc:(cc.elems.take n).length=n:=by rcases Hc hx with⟨_,rfl,_⟩|⟨b,τ0,o0,M',cap,aa,a1,a2,a3,_⟩;{simp};{obtain⟨b',cells,T,g1,g2,g3,g4,g5,g6,g7,_⟩:=c.own a1 yr;rw[a1]at g1;cases g1;simp only[pz,Ty.walk,ek,gm,qd]at a2;obtain⟨rfl,rfl,_⟩:=a2;simp only[pz,AA,AL]at g6;obtain⟨cs,rfl,q1,_⟩:=g6;simp only[ao,kg];omega}
 have hn:n'=n:=by rw[<-o1];exact hlc
 subst hn;obtain⟨i,z,hi,hzz,hzo,z6h⟩:=Lq hz;have hcz:=NN hzo;have hsz:i.size=e.size:=by have:=Cj hP 11 (Al P t);rw[he,this];simp[il,hi]
 have hby:i.bytes=eb:=by rw[heb];simp[np,hi]
 have hzc:z.cells.size=e.size:=by have h1:=Cj hP 11 (Al P t);have h2:=NJ hP (Al P t);rw[he,h1,<-h2,<-hcz];simp
 rw[<-hsz]at hs hso;have hnl:news.length=m*e.size:=by rw[hs.newsLen,hsz]
 have hol:olds.length=n'*e.size:=by rw[hso.newsLen,hsz]
 have zo:((n'+m:Nat):Int)<=9223372036854775807:=by unfold maxLen at z7c;omega
 have hbb:(n'+m)*eb<=140737488355328:=by rw[<-r1];exact hlen
 have z7t:(cc.elems.take n'++ys).length=n'+ys.length:=by simp[o1]
 have z6M:∀{Γ':G},BI Γ Γ'->∀olds:List Value,olds.length=n'*e.size->(∀i c',(cc.elems.take n')[i]? =some c'->AL Γ.H e (chunk olds (i*e.size) e.size) c')->∀vs:List Value,vs.length=(n'+ys.length)*e.size->vs=olds++news->AA Γ' none [] (.d (.arr (n'+ys.length) e) (.agg (cc.elems.take n'++ys))) vs:=by
  intro Γ' hp olds hol o4 vs hvl hvs;subst hvs;have yx:∀j c',(cc.elems.take n'++ys)[j]? =some c'->AL Γ'.H e (chunk (olds++news) (j*e.size) e.size) c':=by intro j c' hj;have:=cZ (H:=Γ'.H) (rest:=[]) o1 r1 hol hnl (fun i c' hi=>(o4 i c' hi).mono hp.H) (fun i c' hi=>(r4 i c' hi).mono hp.H) j c' hj;simpa using this
  simp only[AA,AL];exact⟨_,rfl,z7t,hvl,PG z7t hvl yx,yx⟩
 have hkd:k≠.l d:=fun h=>by rw[h,hd]at yr;cases yr
 have z7u:∀(aa:Option Addr) (cap:Nat),a.eval x= .slice aa n' cap->cap<=maxLen->¬n'+m<=cap->Au P o a w (BC Γ w {s with loc:=(.l d,.box (.d (.arr (n'+ys.length) e) (.agg (cc.elems.take n'++ys))))::(k,.dead (.arr M e))::s.loc} (.sr (.l d) [] 0 (n'+ys.length) none eb e)):=by
  intro aa cap hv a6 z5X;have hge:=grownCap_ge w (n'+m) cap (Al P t);have hcm:=grownCap_le_maxLen w (n'+m) cap (Al P t) (by omega);have z6D:(fv i.size n' (.slice aa n' cap)).run P w.drew= .ok olds.toArray w.drew:=by rw[<-hv];exact hso.cellsD
  have run:=run_append_grow_src (P:=P) w t t' o.type _ i z hu hi hzz aa n' cap olds z6D (a.eval y) m news hs (by omega) zo (by
   rw[hby];exact growslice_fits (by omega) hbb)
  rw[<-hv]at run;have z6i:Ext w (w.drew.alloc (.cells ((olds++news).toArray++fp z.cells (grownCap w (n'+m) cap (Al P t)-(n'+m))) (Al P t))):=(Ext.drew w).trans (xi _ _);have zh:=heap_alloc_new w.drew (.cells ((olds++news).toArray++fp z.cells (grownCap w (n'+m) cap (Al P t)-(n'+m))) (Al P t));have zw:((olds++news).toArray++fp z.cells (grownCap w (n'+m) cap (Al P t)-(n'+m))).size=grownCap w (n'+m) cap (Al P t)*e.size:=by simp only[qn,iv,bt,size_zeroCells,hzc,hnl,hol,<-dc];congr 1;omega
  have hll:(olds++news).length=(n'+ys.length)*e.size:=by rw[bt,hol,hnl,dc,r1]
  have z6d:chunk ((olds++news).toArray++fp z.cells (grownCap w (n'+m) cap (Al P t)-(n'+m))).toList 0 ((n'+ys.length)*e.size)=olds++news:=by unfold chunk;rw[ia,ue,mj];exact xc hll
  have ck:=c.kill yr
  obtain⟨h1,h2,h3⟩:=ck.Bt (k:=.l d) (by rw[CX,if_neg hkd];exact hd) z6i (τ:=.arr (n'+ys.length) e) (o:=.box (.d (.arr (n'+ys.length) e) (.agg (cc.elems.take n'++ys)))) fun Γ' hpr _ hι hH hZ=>
   ⟨_,_,Al P t,hι,hH,hZ,zh,by simp only[pz,iy];rw[zw,r1];exact bz _ hge,by
    simp only[pz,iy];rw[z6d];exact(z6M hpr _ hol o4 _ hll rfl).Dd,rfl,rfl⟩
  obtain⟨k1,k2,k3⟩:=h1.Hl (show _=_ from zh);refine Au.val (KR ho run) ⟨_,h3.trans k3,h2.trans k2,k1,(Bi rfl rfl).2 ⟨?_,rfl⟩⟩;simp only[AA];refine .inr ⟨w.heap.size,.arr (n'+ys.length) e,0,n'+ys.length,grownCap w (n'+m) cap (Al P t),by simp[G.Hl,G.Bt,Db],rfl,by omega,⟨some ⟨w.heap.size,0,none⟩,by rw[r1],.inr (by simp)⟩,by rw[r1];exact hge,hcm,hlen,(fun c h=>by cases h),fun _=>.inr ⟨_,Ce _ _ _,?_⟩⟩;rw[zw,cm,cm];exact bx _
 have BS:∀aa:Option Addr,a.eval x= .slice aa 0 0->n'=0->m=0->Au P o a w (BC Γ w {s with loc:=(.l d,.box (.d (.arr (n'+ys.length) e) (.agg (cc.elems.take n'++ys))))::(k,.dead (.arr M e))::s.loc} (.sr (.l d) [] 0 (n'+ys.length) none eb e)):=by intro aa hv hn0 hm0;subst hn0;subst hm0;have hy0:ys=[]:=fh r1;subst hy0;have hw0:news=[]:=fh (by rw[hnl,gy]);subst hw0;have run:=z3R (P:=P) w t t' o.type _ i hu hi aa 0 0 (bx _) (a.eval y) hs;rw[<-hv]at run;have ck:=(c.kill yr).z45 (t:=d) (e:=e) (by rw[CX,if_neg hkd];exact hd);refine Au.val (KR ho run) ⟨Γ,.refl Γ,.refl Γ,ck,(Bi rfl rfl).2 ⟨?_,by rw[hv];rfl⟩⟩;simp only[AA];exact .inl ⟨trivial,rfl,aa,by rw[hv]⟩
 rcases Hc hx with⟨_,h0,aa,hv⟩|⟨b,τ0,o0,M',cap,aa,a1,a2,a3,hv,a4,a5,a6,a7,_,a9⟩;{subst h0;by_cases hm0:m=0;{exact BS aa hv rfl hm0};{exact z7u aa 0 hv (dv _) (by omega)}};obtain⟨b',cells,T,g1,g2,g3,g4,g5,g6,g7,_⟩:=c.own a1 yr;rw[a1]at g1;cases g1;simp only[pz,Ty.walk,ek,gm,qd]at a2;obtain⟨rfl,rfl,_⟩:=a2;simp only[pz,AA,AL]at g6;obtain⟨cs,rfl,q1,q2,q3,q4⟩:=g6;simp only[ao]at*;by_cases z5X:n'+m<=cap
 · -- in the room behind
  by_cases hc0:cap=0
  ·subst hc0;have hn0:n'=0:=by omega
   exact BS aa (by rw[hv,hn0]) hn0 (by omega)
  have haa:aa=some ⟨b,0,none⟩:=by rcases a4 with a4|a4;{exact absurd a4 hc0};{rw[a4];simp}
  subst haa;obtain⟨sz,s1,s2⟩:∃sz,Γ.σ b=some sz/\0+(0+cap)*e.size<=sz:=by rcases a9 trivial with a9|a9;{omega};{exact a9}
  obtain⟨arr,T',fr,s3,s4⟩:=c.hσ b sz s1;rw[g4]at s3;cases s3;have z6b:n'*e.size+m*e.size<=cells.size:=by rw[s4,<-dc];rw[cm,cm]at s2;exact Nat.le_trans (bz _ z5X) s2
  have run:=run_append_room_src (P:=P) w t t' o.type _ i hu hi b 0 n' cap (a.eval y) m news hs z5X
   (fun j hj=>by
    rw[hnl]at hj;simp[World.cell?,g4];rw[hsz];omega)
   (fun j hj=>by simp[World.frozen?,g4])
  rw[<-hv]at run;rw[cm,hsz]at run;obtain⟨yy,hw',z6n⟩:=mM b news (n'*e.size) w cells T (0,0) g4 (by rw[hnl];exact z6b);have z7v:yy.size=cells.size:=by rw[<-jf,<-jf,z6n,IP (by rw[hnl];simpa using z6b)]
  have hMl:n'*e.size<=M*e.size:=bz _ (by omega);have hMc:M*e.size<=cells.size:=g5;have z7w:(chunk cells.toList 0 (n'*e.size)).length=n'*e.size:=Dt _ _ _ (by simp;omega);have o42:∀i c',(cs.take n')[i]? =some c'->AL Γ.H e (chunk (chunk cells.toList 0 (n'*e.size)) (i*e.size) e.size) c':=by intro i c' hi;rw[fu]at hi;split at hi;{rename_i hin;have:=q4 i c' hi;have hle:(i+1)*e.size<=n'*e.size:=bz _ hin;rw[dc]at hle;simp only[iy]at this;rw[EG _ _ _ _ _ (by omega)]at this;rw[EG _ _ _ _ _ (by omega)];exact this};{cases hi}
  have hll:(chunk cells.toList 0 (n'*e.size)++news).length=(n'+ys.length)*e.size:=by rw[bt,z7w,hnl,dc,r1]
  have z6d:chunk yy.toList 0 ((n'+ys.length)*e.size)=chunk cells.toList 0 (n'*e.size)++news:=by rw[z6n];unfold chunk BP;rw[ia,ia];refine xc ?_;rw[bt,hnl,kg,dc,r1];simp;omega
  obtain⟨h1,h2,h3⟩:=c.q0Y (w':=w.setCells b (n'*e.size) news) (j:=.l d) (x':=.d (.arr (n'+ys.length) e) (.agg (cs.take n'++ys))) yr rfl a1 hd hw'
   (fun b' hb'=>mN b news _ w b' hb') (by unfold oof;rw[World.os_setCells,World.output_setCells]) rfl
   (by simp only[pz,iy];rw[z7v,dc,r1];exact z6b) (by
    simp only[pz,iy];rw[z6d];exact z6M (BI.refl Γ) _ z7w o42 _ hll rfl) rfl rfl (fun arr T fr h=>by rw[g4]at h;cases h;exact z7v)
  refine Au.val (KR ho run) ⟨_,h3,h2,h1,(Bi rfl rfl).2 ⟨?_,rfl⟩⟩;simp only[AA];refine .inr ⟨b,.arr (n'+ys.length) e,0,n'+ys.length,cap,by simp[G.Bt,Db],rfl,by omega,⟨some ⟨b,0,none⟩,by rw[r1],.inr (by simp)⟩,by rw[r1];exact z5X,a6,hlen,(fun c h=>by cases h),fun _=>.inr ⟨sz,s1,?_⟩⟩;exact s2
 ·exact z7u aa cap hv a6 z5X
end
end
section
section
variable {P:Program} {Γ:G} {w w':World} {s:S}
def eR (a:Addr):∀(n i:Nat) (acc arr:Array Value) (w':World),(loadCellsFrom a i n acc).run P w= .ok arr w'->∀k,k<=n->
  ∃l r:List Value,arr=acc++(l++r).toArray/\l.length=k/\(loadCellsFrom a i k acc).run P w= .ok (acc++l.toArray) w
 |0,i,acc,arr,w',h,k,hk=>by
  have:k=0:=by omega
  subst this;simp[loadCellsFrom]at h;exact⟨[],[],by simp[h.1],rfl,by simp[loadCellsFrom]⟩
 |n+1,i,acc,arr,w',h,k,hk=>by
  have step:∀(m:Nat),(loadCellsFrom a i (m+1) acc).run P w=((load (a.add i)).run P w).andThen fun v w1=>(loadCellsFrom a (i+1) m (acc.push v)).run P w1:=by
   intro m
   conv=>lhs;unfold loadCellsFrom
   rw[cu]
  rw[step]at h;have hl:∃v,(load (a.add i)).run P w= .ok v w:=by
   rw[run_load]at h ⊢;cases hc:w.cell? (a.add i)with
   |some v=>exact⟨v,rfl⟩|none=>
    rw[hc]at h;dsimp only at h ⊢;cases hf:w.farLoad P (a.add i) (Mode.plain== .atomic)with
    |ok x=>obtain⟨v,y⟩:=x;exact⟨v,rfl⟩
    |error e=>rw[hf]at h;cases h
  obtain⟨v,hv⟩:=hl;rw[hv]at h;simp only[cr]at h;cases k with
  |zero=>
   obtain⟨l,r,h1,h2,_⟩:=eR a n (i+1) (acc.push v) arr w' h 0 (dv _);have:l=[]:=fh h2;subst this;exact⟨[],v::r,by simp[h1],rfl,by simp[loadCellsFrom]⟩
  |succ k=>
   obtain⟨l,r,h1,h2,h3⟩:=eR a n (i+1) (acc.push v) arr w' h k (by omega);refine⟨v::l,r,by simp[h1],by simp[h2],?_⟩;rw[step,hv];simp only[cr,h3];simp
def q6C {sz n k:Nat} {x} {news:List Value} (h:(fv sz n x).run P w= .ok news.toArray w) (hl:news.length=n*sz) (hk:k<=n) (hlen:∀s,x= .string s->n<=s.size/\sz=1):(fv sz k x).run P w= .ok (news.take (k*sz)).toArray w:=by
 cases x <;> (try (simp[fv]at h;done))
 case slice a len cap=>
  cases a with
  |none=>
   simp only[fv,fb,uo]at h ⊢;have:news=[]:=by have:=h.1;cases news <;> simp at this ⊢
   subst this;simp
  |some ad=>
   simp only[fv,loadCells]at h ⊢;obtain⟨l,r,h1,h2,h3⟩:=eR ad (n*sz) 0 #[] _ _ h (k*sz) (bz _ hk);rw[h3];have h1':news=l++r:=by simpa using h1
   simp[h1',<-h2]
 case string s=>
  obtain⟨h1,rfl⟩:=hlen s rfl;simp only[fv,fb,uo,and_true]at h ⊢;have e:news=(s.extract 0 n).data.toList.map fun b=>Value.int .u8 b.toNat:=by have:=congrArg Array.toList h;simpa using this.symm
  subst e;apply vk.1;simp only[lr,mj,sc,<-List.map_take];congr 1;rw[rn,rn];simp[Array.toList_extract,List.extract_eq_take_drop,List.take_take,rz hk]
def Ck (cs:List C) (lo n:Nat) (ys:List C):List C:=cs.take lo++ys.take n++cs.drop (lo+min ys.length n)
def rP {cs:List C} {lo n:Nat} {ys} (h:lo+n<=cs.length):(Ck cs lo n ys).length=cs.length:=by simp[Ck];omega
def q5B (hP:Aq P=true) (c:AQ Γ w s) {o:Oper} {a x y} {t t':TypeId} {k} {q:List Nat} {lo n cp m:Nat} {X Y cc ys} {eb:Nat} {e}
  (ho:o.op= .call {callee:=.builtin .copy,args:=#[x,y],argTypes:=#[t,t']}) (ht:ty P t= .slice eb e)
  (yr:s.obj k=some (.box X)) (hX:X.at q= .d (.arr m e) cc) (hd:X.ty.Cl=true) (h0:0<n) (hz:CB P (Al P t)=true)
  (hx:AG Γ (.sr k q lo n (some cp) eb e) (a.eval x)) (hy:AG Γ Y (a.eval y)) (hel:KW P s t' eb e Y ys):
  Au P o a w (BC Γ w {s with loc:=(k,.box (X.setAt q (.d (.arr m e) (.agg (Ck cc.elems lo n ys)))))::s.loc} (.d (.int .i64) (.int (min ys.length n:Nat)))):=by
 obtain⟨hu,he,heb,hE⟩:=Lj hP ht;obtain⟨m',news,hs,r1,r2,r3,r4⟩:=Ug c hy hel;rcases Hc hx with⟨h1,_⟩|⟨b,τ0,o0,M,cap,aa,a1,a2,a3,hv,a4,a5,a6,a7,a8,_⟩;{cases h1};obtain⟨b2,cells,E,e1,e2,e3,e4,e5,e6,e7,e8⟩:=c.own a1 yr;rw[a1]at e1;cases e1;obtain⟨g1,g2,g3⟩:=e6.at_ a2 (by rw[hX];simp) e7;have hcl:(chunk cells.toList 0 X.ty.size).length=X.ty.size:=Dt _ _ _ (by simpa using e5);rw[hcl]at g2;rw[hX]at g1 g3;simp only[pz,qd]at g1;obtain⟨rfl,_⟩:=g1;rw[EG _ _ _ _ _ g2,cm]at g3;simp only[AA,AL]at g3;obtain⟨cs,rfl,q1,q2,q3,q4⟩:=g3;simp only[ao,iy]at*;obtain⟨i,z,hi,hzz,hzo,z6h⟩:=Lq hz;have hsz:i.size=e.size:=by have:=Cj hP 11 (Al P t);rw[he,this];simp[il,hi]
 have haa:aa=some ⟨b,o0+lo*e.size,none⟩:=by rcases a4 with a4|a4;{omega};{exact a4}
 subst haa;have hnl:news.length=m'*e.size:=hs.newsLen;have hk1:min m' n<=m':=Nat.min_le_left _ _;have hk2:min m' n<=n:=Nat.min_le_right _ _
 have hft:=q6C (k:=min m' n) hs.cells hnl hk1 (fun st hst=>by
  rcases hel with⟨_,h2|⟨rfl,_⟩⟩|⟨_,hYs,h3,h4,h5⟩
  · -- a slice is no string
   exfalso;obtain⟨_,_,_,h6⟩:=q1R hy h2;rw[hst]at h6;cases h6
  ·rw[Fb hy]at hst;cases hst
  ·obtain⟨c0,rfl⟩:=V.MX hYs;obtain⟨h6,_,h7⟩:=Iw hy;rw[h6]at hst;cases hst;have:m'=c0.toStr.length:=by rw[<-r1,h5];simp[V.toStr]
   refine⟨by rw[this];simp[ByteArray.size],by rw[h3];rfl⟩)
 have htl:(news.take (min m' n*e.size)).length=min m' n*e.size:=by have:=bz e.size hk1;simp;omega
 have hMs:(lo+n)*e.size<=m*e.size:=bz _ a3;have hks:min m' n*e.size<=n*e.size:=bz _ hk2;rw[dc]at hMs;have z6b:o0+lo*e.size+0+(news.take (min m' n*e.size)).length<=cells.size:=by rw[htl];omega
 have hst:=run_storeCells_at (P:=P) b (o0+lo*e.size) E (news.take (min m' n*e.size)) 0 cells w e4 z6b (fun v hv=>hs.one v (List.mem_of_mem_take hv));have zi:(vw #[t,t'] o.type #[.slice (some ⟨b,o0+lo*e.size,none⟩) n cap,a.eval y]).run P w= .ok (goInt ((min m' n:Nat):Int)) (w.setRow b (BP cells.toList (o0+lo*e.size) (news.take (min m' n*e.size))).toArray):=by
  simp only[Nat.add_zero]at hst;simp[vw,run_underlying hu,hs.len,sizeOf,typeInfo,hi,hsz,hft,hst,BP]
  try (exact congrArg goInt (by rw[show m'.min n=min m' n from rfl];omega))
 -- the array anew
 have hl0:o0+lo*e.size+(news.take (min m' n*e.size)).length<=cells.toList.length:=by rw[htl];simp;omega
 have hs2:(BP cells.toList (o0+lo*e.size) (news.take (min m' n*e.size))).toArray.size=cells.size:=by simp only[iv,IP hl0];simp
 have zh:chunk (BP cells.toList (o0+lo*e.size) (news.take (min m' n*e.size))) o0 (m*e.size)=BP (chunk cells.toList o0 (m*e.size)) (lo*e.size) (news.take (min m' n*e.size)):=
  q4l (by simp;omega) (by rw[htl];omega) rfl
 have hsl:(BP (chunk cells.toList o0 (m*e.size)) (lo*e.size) (news.take (min m' n*e.size))).length=m*e.size:=by rw[IP (by rw[q2,htl];omega),q2]
 have hcs:(Ck cs lo n ys).length=m:=by rw[rP (by omega),q1]
 have z7f:∀j c',(Ck cs lo n ys)[j]? =some c'->AL Γ.H e (chunk (BP (chunk cells.toList o0 (m*e.size)) (lo*e.size) (news.take (min m' n*e.size))) (j*e.size) e.size) c':=by
  intro j c' hj;have hjl:j<m:=by rw[<-hcs];exact(bu.1 hj).1
  have hjm:(j+1)*e.size<=m*e.size:=bz _ hjl;rw[dc]at hjm;have hlo:lo<=cs.length:=by omega
  unfold Ck at hj;by_cases h1:j<lo;{rw[dp,fm (by simp;omega),fu,if_pos h1]at hj;have z8c:(j+1)*e.size<=lo*e.size:=bz _ h1;rw[dc]at z8c;rw[Qo (by rw[q2,htl];omega) (.inl (by omega))];exact q4 j c' hj}
  ·by_cases h2:j<lo+min ys.length n
   ·rw[dp,ft (by simp;omega),fm (by simp;omega)]at hj;simp only[kg,rz hlo]at hj;rw[fu]at hj;split at hj
    ·rename_i hjn;have h3:=r4 _ _ hj;have hjk:j-lo<min m' n:=by rw[r1]at h2;omega
     have z8d:(j-lo+1)*e.size<=min m' n*e.size:=bz _ hjk;rw[dc]at z8d;have e9:j*e.size=lo*e.size+(j-lo)*e.size:=by rw[<-dc];congr 1;omega
     have e10:chunk (BP (chunk cells.toList o0 (m*e.size)) (lo*e.size) (news.take (min m' n*e.size))) (j*e.size) e.size=chunk news ((j-lo)*e.size) e.size:=by apply fk;intro u;rw[Df,Df];split;{rename_i hu2;rw[Fx (by rw[q2,htl];omega),if_pos (by rw[htl];omega),fu,if_pos (by omega)];congr 1;omega};{rfl}
     rw[e10];exact h3
    ·cases hj
   ·rw[ft (by simp;omega),jo]at hj;simp only[bt,kg,rz hlo]at hj;have hj2:cs[j]? =some c':=by rw[<-hj];congr 1;have:min n ys.length=min ys.length n:=Nat.min_comm _ _;omega
    have h5:min m' n*e.size+lo*e.size<=j*e.size:=by rw[<-dc];refine bz _ ?_;rw[r1]at h2;omega
    rw[Qo (by rw[q2,htl];omega) (.inr (by rw[htl];omega))];exact q4 j c' hj2
 have hY:AA Γ (some k) q (.d (.arr m e) (.agg (Ck cs lo n ys))) (BP (chunk cells.toList o0 (m*e.size)) (lo*e.size) (news.take (min m' n*e.size))):=by simp only[AA,AL];exact⟨_,rfl,hcs,hsl,PG hcs hsl z7f,z7f⟩
 obtain⟨s1,s2,s3⟩:=AA.setAt (q:=q) (p:=[]) (y:=.d (.arr m e) (.agg (Ck cs lo n ys))) e6 e7 hd a2 (by rw[hX];simp) (by simpa using hY) rfl;have hsp:BP cells.toList (o0+lo*e.size) (news.take (min m' n*e.size))=BP cells.toList o0 (BP (chunk cells.toList o0 (m*e.size)) (lo*e.size) (news.take (min m' n*e.size))):=by apply fk;intro u;rw[Fx hl0,Fx (by rw[hsl];simp;omega),hsl,htl];by_cases hu1:o0<=u/\u<o0+m*e.size;{rw[if_pos hu1,Fx (by rw[q2,htl];omega),htl];by_cases hu2:o0+lo*e.size<=u/\u<o0+lo*e.size+min m' n*e.size;{rw[if_pos hu2,if_pos (by omega)];congr 1;omega};{rw[if_neg hu2,if_neg (by omega),Df,if_pos (by omega)];congr 1;omega}};{rw[if_neg hu1,if_neg (by omega)]}
 have c':=c.write (x':=X.setAt q (.d (.arr m e) (.agg (Ck cs lo n ys)))) (yt:=(BP cells.toList (o0+lo*e.size) (news.take (min m' n*e.size))).toArray) (w':=w.setRow b (BP cells.toList (o0+lo*e.size) (news.take (min m' n*e.size))).toArray) yr a1
  (setRow_heap w b cells _ E (0,0) e4) (fun b' hb'=>setRow_other w b b' _ hb') rfl (by rw[s2,hs2];exact e5)
  (by rw[s2,mj,hsp,q13 _ _ (by rw[hsl];exact g2) (by simpa using e5)];exact s1) s2 s3 (V.XA q X _ e8 rfl) (fun arr T fr h=>by rw[e4]at h;cases h;exact hs2)
 refine Au.val (v:=goInt ((min m' n:Nat):Int)) (w':=w.setRow b (BP cells.toList (o0+lo*e.size) (news.take (min m' n*e.size))).toArray) ?_ ⟨_,GLe.refl _,BI.refl _,c',?_⟩;{unfold execOp;simp[ho,resolve,invoke,builtin,hv,zi]}
 ·rw[r1];show AG _ _ (.int .i64 ((min m' n:Nat):Int))
  exact DA (by have e1:IntKind.i64.min= -9223372036854775808:=by decide
               omega) (by have e1:IntKind.i64.max=9223372036854775807:=by decide
                          unfold maxLen at r2;omega)
end
end
section
section
variable {Γ:G} {w:World} {s:S}
def AQ.freeze (c:AQ Γ w s) {b:Nat} {cells:Array Value} {T:TypeId} {fr} (hw:w.heap[b]? =some (.cells cells T fr)) (hH:Γ.H b=none) (hι:∀k τ o,Γ.ι k=some (b,τ)->s.obj k=some o->o.EY=true):
  AQ (Γ.Dr b cells.toList) w s/\BI Γ (Γ.Dr b cells.toList)/\Γ.H.le (Γ.Dr b cells.toList).H:=by
 have oH:∀b',b'≠b->(Γ.Dr b cells.toList).H b'=Γ.H b':=fun b' hb=>Ei _ _ hb;have nb:∀b',Γ.H b'≠none->b'≠b:=fun b' h e=>h (e ▸ hH);have hle:Γ.H.le (Γ.Dr b cells.toList).H:=fun b' l' h=>⟨[],by rw[oH b' (nb b' (by rw[h];simp)),h];simp⟩;have hp:BI Γ (Γ.Dr b cells.toList):=⟨hle,fun _ _ h=>h,fun t x L h=>⟨x,L,h,bx _,fun _=>rfl⟩,fun _ _ h=>h⟩;refine⟨?_,hp,hle⟩;refine c.change hp rfl rfl rfl rfl (fun b' l' h=>?_) (fun _ _=>rfl) (fun b' o sz h=>?_) (fun k o h=>?_) (fun _ h _=>h) c.dom c.hσ c.inj (fun t L h=>?_) c.zc (bx _);{by_cases hb:b'=b;{subst hb;simp[G.Dr,BV]at h;subst h;exact⟨cells,T,fr,[],hw,by simp⟩};{rw[oH b' hb]at h;exact c.hH b' l' h}};{have h':Γ.κ b'=some (o,sz):=h;obtain⟨a1,a2,a3⟩:=c.hκ b' o sz h';exact⟨a1,by rw[oH b' (nb b' a2)];exact a2,a3⟩};{refine .inl ⟨h,fun hd=>⟨fun b' p sz hb=>⟨rfl,?_⟩,fun b' τ hb=>⟨rfl,?_⟩⟩⟩;{exact oH b' (nb b' (c.hκ b' _ sz hb).2.1)};{obtain⟨a1,_⟩:=c.Eb hb h hd;rw[oH b' (fun e=>by have:=hι k τ o (e ▸ hb) h;rw[this]at hd;cases hd)];exact a1}};{obtain⟨x,h1,h2⟩:=c.tok t L h;refine⟨x,h1,fun b' pos sz hx=>?_⟩;obtain⟨⟨l,a1,a2⟩,a3⟩:=h2 b' pos sz hx;exact⟨⟨l,by rw[oH b' (nb b' (by rw[a1];simp))];exact a1,a2⟩,a3⟩}
def AQ.yN (c:AQ Γ w s) {k} {M:Nat} {e cc} (ho:s.obj k=some (.box (.d (.arr M e) cc))):
  ∃Γ',GLe Γ Γ'/\BI Γ Γ'/\AQ Γ' w {s with loc:=(k,.dead (.arr M e))::s.loc}/\
   ∀{lo n:Nat} {cp:Option Nat} {eb:Nat} {v:Value},AG Γ (.sr k [] lo n cp eb e) v->AG Γ' (.d (.slice eb e) (.slice ((cc.elems.drop lo).take n))) v:=by
 have ck:=c.kill ho;have nul:∀{Γ':G} {lo n:Nat} {cp:Option Nat} {eb:Nat} {v:Value},(cp=none/\n=0/\∃a,v= .slice a 0 0)->AG Γ' (.d (.slice eb e) (.slice ((cc.elems.drop lo).take n))) v:=by intro Γ' lo n cp eb v h;obtain⟨_,rfl,a,rfl⟩:=h;refine(Bi rfl rfl).2 ⟨?_,rfl⟩;simp only[AA];exact Dm (by simp) (bx _) (dv _) (by rw[gy];exact dv _) (.inl rfl)
 rcases c.obj k _ ho with⟨hn,_⟩|yw;{refine⟨Γ,.refl Γ,.refl Γ,ck,fun hr=>?_⟩;rcases Hc hr with h|⟨b,τ0,o,m,cap,a,h1,_⟩;{exact nul h};{rw[hn]at h1;cases h1}}
 ·obtain⟨b,cells,T,h1,h2,h3,h4,h5,h6,h7,h8⟩:=yw;have hdk:s.Bb k=false:=by rw[Ed ho];rfl
  obtain⟨q1,q2,q3⟩:=ck.freeze h4 h2 (fun k' τ o hk' ho'=>by
   rcases c.inj k' k b _ _ hk' h1 with e1|⟨e1|e1,_⟩;{subst e1;rw[CX,if_pos rfl]at ho';cases ho';rfl};{rw[CX]at ho';split at ho';{cases ho';rfl};{rw[Ed ho']at e1;exact e1}}
   ·rw[hdk]at e1;cases e1)
  refine⟨_,⟨q3,rfl,fun b' hb'=>Ei _ _ fun e=>(by subst e;exact hb' h3),fun _ _ h=>h,rfl,rfl,fun _ _ h=>h,fun _ h=>h⟩,q2,q1,fun{lo n cp eb v} hr=>?_⟩;rcases Hc hr with h|⟨b',τ0,o,m,cap,a,a1,a2,a3,hv,a4,a5,a6,a7,_,_⟩;{exact nul h};rw[h1]at a1;cases a1;simp only[pz,Ty.walk,ek,gm,qd]at a2;obtain⟨rfl,rfl,_⟩:=a2;simp only[pz,AA,AL]at h6;obtain⟨cs,rfl,r1,r2,r3,r4⟩:=h6;simp only[ao,iy]at*;have hl:((cs.drop lo).take n).length=n:=by simp;omega
  have hmul:(lo+n)*e.size<=M*e.size:=bz _ a3;rw[dc]at hmul;subst hv;refine(Bi rfl rfl).2 ⟨?_,rfl⟩;simp only[AA];refine Dm hl a5 a6 a7 ?_;by_cases hn:n=0;{exact .inl hn};{refine .inr ⟨b,lo*e.size,cells.toList,?_,Ce _ _ _,by simp;simp[pz,iy]at h5;omega,fun i c' hi=>?_⟩;{rcases a4 with a4|a4;{omega};{rw[a4,cm]}};{rw[fu]at hi;split at hi;{rename_i hin;rw[jo]at hi;have h9:=r4 _ _ hi;have hle:(lo+i+1)*e.size<=M*e.size:=bz _ (by omega);rw[dc,dc]at hle;rw[dc]at h9;rw[EG _ _ _ _ _ (by omega),cm]at h9;exact h9.mono q3};{cases hi}}}
def Ca (s:S) (x:V):V:=
 match x with
 | .sr (.l j) q lo n cp eb e=>(match q with| []=>(match s.obj (.l j)with|some (.box (.d τ cc))=>(match τ with| .arr M e'=>if e'=e then .d (.slice eb e) (.slice ((cc.elems.drop lo).take n))else x|_=>x)|_=>x)|_=>x)|x=>x
def Fs:V->List Nat
 | .sr (.l j) [] _ _ _ _ _=>[j]|_=>[]
def GV:List V->List Nat
 | []=>[]|x::xs=>Fs x++GV xs
def Dh:List Nat->S->S
 | [],s=>s|j::l,s=>Dh l (match s.obj (.l j)with|some (.box (.d τ _))=>(match τ with| .arr M e=>{s with loc:=(.l j,.dead (.arr M e))::s.loc}|_=>s)|_=>s)
def yS {s x} (h:∀j,j∈Fs x->False):Ca s x=x:=by unfold Ca;split;{split;{rename_i j _ _ _ _ _ _;exact(h j (List.mem_singleton.2 rfl)).elim};{rfl}};{rfl}
def Wh:∀(js:List Nat) (s:S) {Γ:G},AQ Γ w s->∃Γ',GLe Γ Γ'/\BI Γ Γ'/\AQ Γ' w (Dh js s)/\∀(x:V) (v:Value),AG Γ x v->(∀j∈Fs x,j∈js)->AG Γ' (Ca s x) v
 | [],s,Γ,c=>⟨Γ,.refl Γ,.refl Γ,c,fun x v hr hx=>by rw[yS (fun j hj=>by simpa using hx j hj)];exact hr⟩|j::l,s,Γ,c=>by
  have skip:(∀x:V,Fs x=[j]->Ca s x=x)->∃Γ',GLe Γ Γ'/\BI Γ Γ'/\AQ Γ' w (Dh l s)/\∀(x:V) (v:Value),AG Γ x v->(∀i∈Fs x,i∈j::l)->AG Γ' (Ca s x) v:=by intro hs;obtain⟨Γ',g,p,c',h⟩:=Wh l s c;refine⟨Γ',g,p,c',fun x v hr hx=>?_⟩;by_cases hj:Fs x=[j];{rw[hs x hj];exact hr.BN p};{refine h x v hr fun i hi=>?_;have:=hx i hi;simp only[fz]at this;rcases this with rfl|h2;{exfalso;apply hj;unfold Fs at hi ⊢;split at hi;{simp at hi;subst hi;rfl};{simp at hi}};{exact h2}}
  have inv:∀x:V,Fs x=[j]->∃lo n cp eb e,x= .sr (.l j) [] lo n cp eb e:=by intro x hx;unfold Fs at hx;split at hx;{simp at hx;subst hx;exact⟨_,_,_,_,_,rfl⟩};{cases hx}
  simp only[Dh];split
  ·rename_i τ cc ho;split
   ·rename_i M e;obtain⟨Γ1,g1,p1,c1,h1⟩:=c.yN ho;obtain⟨Γ',g,p,c',h⟩:=Wh l _ c1;refine⟨Γ',g1.trans g,p1.trans p,c',fun x v hr hx=>?_⟩;by_cases hj:Fs x=[j];{obtain⟨lo,n,cp,eb,e',rfl⟩:=inv x hj;simp only[Ca,ho];by_cases he:e=e';{rw[if_pos he];subst he;exact(h1 hr).BN p};{rw[if_neg he];exact hr.BN (p1.trans p)}}
    ·have h2:=h x v (hr.BN p1) fun i hi=>by have:=hx i hi;simp only[fz]at this;rcases this with rfl|h2;{exfalso;apply hj;unfold Fs at hi ⊢;split at hi;{simp at hi;subst hi;rfl};{simp at hi}};{exact h2}
     have:Ca {s with loc:=(Key.l j,O.dead (.arr M e))::s.loc} x=Ca s x:=by
      cases x <;> (try rfl);rename_i k q lo n cp eb e2;cases k with
      |g k=>rfl|l i=>
       cases q with
       |cons a q=>rfl|nil=>
        have hij:j≠i:=fun e=>hj (by subst e;rfl);simp only[Ca];rw[CX,if_neg (by intro e;cases e;exact hij rfl)]
     rw[<-this];exact h2
   ·exact skip fun x hx=>by obtain⟨lo,n,cp,eb,e,rfl⟩:=inv x hx;simp only[Ca,ho]
  ·exact skip fun x hx=>by obtain⟨lo,n,cp,eb,e,rfl⟩:=inv x hx;simp only[Ca]
end
end
end Go.E
