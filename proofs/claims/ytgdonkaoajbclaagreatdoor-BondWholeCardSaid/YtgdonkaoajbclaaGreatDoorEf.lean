/-
Runs of Go code over abstract data are sound, part 6.
Conditions: none.
-/
import Derived.Test.YtgdonkaoajbclaaGreatDoorEe
set_option linter.all false
set_option maxRecDepth 100000
set_option maxHeartbeats 4000000
open Bool renaming and_eq_true->az
open Go.E.RD renaming kind->oq
open Go.E.V renaming sites->sx
open Go.Op renaming bytesLess->mb
open List renaming all_eq_true->eh,isEmpty_iff->qs,map_cons->dy,map_map->pc,mem_cons_of_mem->ez,mem_cons_self->fl
open Nat renaming beq->bw,eq_of_beq_eq_true->fj
open Option renaming ite_none_right_eq_some->au
open Option.some renaming inj->oh,injEq->ek
open Prod.mk renaming injEq->gm
namespace Go.E
open Go
section
section
variable {X:Cx} {call:Ka} {ext:Kb} (hP:Aq X.P=true) (hmo:X.P.follows .mixedOrders=true) (hc:NR X call) (he:NU X ext)
include hP hmo hc he
end
mutual
def V.FW:V->V
 | .sl eb e cs _=>.d (.slice eb e) (.slice cs)| .agg τ vs=>.agg τ (V.hR vs)|x=>x
def V.hR:List V->List V
 | []=>[]|x::xs=>x.FW::V.hR xs
end
def V.Y0 (x:V):x.FW.ty=x.ty:=by cases x <;> rfl
mutual
def V.Z9:∀(x:V),V.BB x x.FW
 | .sl _ _ cs _=>by simp[V.FW,V.BB,Bp,V.ty]
 | .agg τ vs=>⟨rfl,V.Y1 vs⟩| .d _ _=>by simp[V.FW,V.BB,Bp,V.ty]
 | .emp _ _=>.inl rfl| .any=>trivial| .ts _ _ _| .ym| .ptr _ _ _| .yn _ _| .sr _ _ _ _ _ _ _| .mp _| .fn _ _| .tup _| .top _=>by simp[V.FW,V.BB]
def V.Y1:∀(xs:List V),V.Fp xs (V.hR xs)
 | []=>trivial|x::xs=>⟨V.Z9 x,V.Y0 x,V.Y1 xs⟩
end
def Mn (s:S) (x:V):V:=
 match x with
 | .sl eb e cs t=>if s.live t=some cs.length then .ts eb e cs else .d (.slice eb e) (.slice cs)|x=>x.FW
def Iq (s:S):List V->List V
 | []=>[]|x::xs=>Mn s x::Iq s xs
def Su (f:Nat->Bool):List V->Bool
 | []=>true|v::vs=>(match v with| .ts _ _ _=>true|v=>v.ok f BS&&v.plain)&&Su f vs
def Se:List V->Bool
 | []=>true|v::vs=>v.LM&&Se vs
def z0L {s f} {x:V} (hx:x.LM=true) (h:(match Mn s x with| .ts _ _ _=>true|v=>v.ok f BS&&v.plain)=true):Gs s f x (Mn s x):=by
 have gen:∀{x:V},x.FW.LM=true->(x.FW.ok f BS&&x.FW.plain)=true->Gs s f x x.FW:=by
  intro x hn h;have:V.BB x x.FW/\x.FW.ok f BS=true/\x.FW.plain=true/\x.FW.ty.isAgg=x.ty.isAgg:=by simp only[az]at h;exact⟨V.Z9 x,h.1,h.2,by rw[V.Y0]⟩
  unfold Gs;split;{rename_i e1;rw[e1]at hn;cases hn};{exact this}
 cases x with
 |sl eb e cs t=>
  simp only[Mn]at h ⊢;by_cases hl:s.live t=some cs.length;{rw[if_pos hl];exact⟨rfl,rfl,rfl,hl⟩};{rw[if_neg hl]at h ⊢;exact gen (x:=.sl eb e cs t) rfl h}
 |ts=>cases hx
 |agg τ vs=>exact gen (x:=.agg τ vs) rfl h|d|emp|any|ym|ptr|yn|sr|mp|fn|tup|top=>exact gen rfl h
def Z8 {s f}:∀{xs:List V},Se xs=true->Su f (Iq s xs)=true->IK s f xs (Iq s xs)
 | [],_,_=>trivial|x::xs,h1,h2=>by simp only[Se,az]at h1;simp only[Iq,Su,az]at h2;exact⟨z0L h1.1 h2.1,Z8 h1.2 h2.2⟩
def lY (X:Cx) (s:S) (r:ResultVar):Bool:=
 match r with
 | .tmp _=>true| .cell a t=>(match s.get a with| .ptr k q τ=>(match s.obj k with|some (.box y)=>decide (τ=ty X.P t)&&τ.known&& !(y.at q).isAny|_=>false)|_=>false)
def UQ (X:Cx) (s:S):List ResultVar->Bool
 | []=>true|r::rs=>lY X s r&&UQ X s rs
def z3k {X} {s:S} {A'} (hA:leA s.A A') {r} (h:lY X s r=true):QA X (s.wA A') r/\NA X (s.wA A') r=NA X s r:=by
 cases r with
 |tmp t=>exact⟨trivial,rfl⟩|cell a t=>
  have hg:(s.wA A').get a=s.get a:=rfl;simp only[lY]at h;simp only[QA,NA,hg];split at h;{rename_i e0;split at h;{rename_i e1;simp only[az,decide_eq_true_eq,Bool.not_eq_true']at h;simp only[e0,Cy hA e1,e1];exact⟨⟨h.1.1,h.1.2,V.Oe h.2⟩,by first|rfl|trivial⟩};{cases h}};{cases h}
def q1c {X} {s:S} {A'} (hA:leA s.A A'):∀{rs:List ResultVar},UQ X s rs=true->QD X (s.wA A') rs/\Eh X (s.wA A') rs=Eh X s rs
 | [],_=>⟨trivial,rfl⟩|r::rs,h=>by simp only[UQ,az]at h;obtain⟨h1,h2⟩:=z3k hA h.1;obtain⟨h3,h4⟩:=q1c hA h.2;exact⟨⟨h1,h3⟩,by simp only[Eh,h2,h4]⟩
def hU:List V->V
 | [x]=>x|xs=>.tup xs
def z3o {xs vs:List V} (h:xs.length=vs.length):KQ xs (hU vs)=some vs:=by
 match xs,vs,h with
 | [],[],_=>rfl| [_],[_],_=>rfl|_::_::_,_::_::_,_=>rfl
def Z7 (s:S):∀(xs:List V),(Iq s xs).length=xs.length
 | []=>rfl|x::xs=>by simp[Iq,Z7 s xs]
def bU (X:Cx) (fn:Func) (s:S):Option (V × List (Key × O)):=
 let rs:=Eh X s fn.results.toList
 let vs:=Iq s rs
 let L:=GW s.loc (reach s.loc 100000 (V.JX vs++JV s.loc) []) s.loc
 if UQ X s fn.results.toList=true/\Se rs=true/\Su (Bf L) vs=true/\GX (Iz (Fc 2000 rs vs))=true/\Kg L=true/\FK (Bf L) BS L=true/\Ic L s.loc=true then some (hU vs,L)else none
def q6v {X fn} {s:S} {v L A'} (hA:leA s.A A') (h:bU X fn s=some (v,L)):Jh X fn A' v L (s.wA A'):=by
 simp only[bU,au,ek,gm]at h;obtain⟨⟨h1,h2,h3,h4,h5,h6,h7⟩,rfl,rfl⟩:=h;obtain⟨c1,c2⟩:=q1c hA h1;have hL:∀(x:S) (xs vs:List V) f,IK x f xs vs->IK (x.wA A') f xs vs:=by
  intro x xs
  induction xs with
  |nil=>intro vs f h;cases vs <;> exact h
  |cons y ys ih=>
   intro vs f h;cases vs with
   |nil=>exact h|cons v vs=>exact⟨h.1,ih vs f h.2⟩
 refine⟨rfl,LG (s:=s.wA A') _ h5,h6,Na h7,c1,?_⟩;rw[c2,z3o (Z7 s _).symm];exact⟨hL _ _ _ _ (Z8 h2 h3),h4⟩
section
variable {X:Cx} {ov:Ka} {ext:Kb} (hP:Aq X.P=true) (hmo:X.P.follows .mixedOrders=true) (hov:NR X ov) (he:NU X ext)
include hP hmo hov he
end
def A0:Key->Option O:=fun _=>none
def Bo.any {X f xs v L} (h:Bo X f xs A0 v L) (A:Key->Option O):Bo X f xs A v L:=h.mono fun _ _ h=>by cases h
end
def OL {R:Type} (op:BinOp) (k:IntKind) (a b:Int) (K:V->Option R):Option R:=
 match op with
 | .add=>K (.d (.int k) (.int (k.wrap (a+b))))| .sub=>K (.d (.int k) (.int (k.wrap (a-b))))| .mul=>K (.d (.int k) (.int (k.wrap (a*b))))| .quo=>if b≠0 then K (.d (.int k) (.int (k.wrap (a.tdiv b))))else none| .rem=>if b≠0 then K (.d (.int k) (.int (a.tmod b)))else none| .and| .or| .xor| .andNot=>K (.d (.int k) (.int (Aj op k a b)))| .eql=>K (.d .bool (.bool (decide (a=b))))| .neq=>K (.d .bool (.bool (!decide (a=b))))| .lss=>K (.d .bool (.bool (decide (a<b))))| .leq=>K (.d .bool (.bool (decide (a<=b))))| .gtr=>K (.d .bool (.bool (decide (b<a))))| .geq=>K (.d .bool (.bool (decide (b<=a))))|_=>none
def q54 {R:Type} {r:R} {Kr:V->Option R} {op:BinOp} {k:IntKind} {a b:Int} {K:V->Prop} (h:OL op k a b Kr=some r) (hK:∀v,Kr v=some r->K v):KA op k a b K:=by
 cases op <;> simp only[OL,KA,ek,au,reduceCtorEq]at h ⊢ <;>
  first|exact hK _ h|(obtain⟨h1,h⟩:=h;exact⟨h1,hK _ h⟩)
def OP {R:Type} (op:BinOp) (k:IntKind) (a b:Int) (K:V->Option R):Option R:=
 match op with
 | .shl=>if 0<=b then K (.d (.int k) (.int (k.wrap (a*2^(min b.toNat k.bits)))))else none| .shr=>if 0<=b then K (.d (.int k) (.int (a.fdiv (2^(min b.toNat k.bits)))))else none|_=>none
def q6d {R:Type} {r:R} {Kr:V->Option R} {op:BinOp} {k:IntKind} {a b:Int} {K:V->Prop} (h:OP op k a b Kr=some r) (hK:∀v,Kr v=some r->K v):NC op k a b K:=by
 cases op <;> simp only[OP,NC,ek,au,reduceCtorEq]at h ⊢ <;>
  (obtain⟨h1,h⟩:=h;exact⟨h1,hK _ h⟩)
def OT {R:Type} (op:BinOp) (a b:List UInt8) (K:V->Option R):Option R:=
 match op with
 | .add=>if a.length+b.length<=140737488355328 then K (.d .str (.str (a++b)))else none| .eql=>K (.d .bool (.bool (a==b)))| .neq=>K (.d .bool (.bool (!(a==b))))| .lss=>K (.d .bool (.bool (mb a b)))| .leq=>K (.d .bool (.bool (mb a b||a==b)))| .gtr=>K (.d .bool (.bool (!(mb a b||a==b))))| .geq=>K (.d .bool (.bool (!mb a b)))|_=>none
def q6k {R:Type} {r:R} {Kr:V->Option R} {op:BinOp} {a b:List UInt8} {K:V->Prop} (h:OT op a b Kr=some r) (hK:∀v,Kr v=some r->K v):NF op a b K:=by
 cases op <;> simp only[OT,NF,ek,au,reduceCtorEq]at h ⊢ <;>
  first|exact hK _ h|(obtain⟨h1,h⟩:=h;exact⟨h1,hK _ h⟩)
def MN {R:Type} (op:BinOp) (b:Bool) (K:V->Option R):Option R:=
 match op with
 | .eql=>K (.d .bool (.bool b))| .neq=>K (.d .bool (.bool (!b)))|_=>none
def sY {R:Type} {r:R} {Kr:V->Option R} {op:BinOp} {b:Bool} {K:V->Prop} (h:MN op b Kr=some r) (hK:∀v,Kr v=some r->K v):Jm op b K:=by cases op <;> simp only[MN,Jm,reduceCtorEq]at h ⊢ <;> exact hK _ h
def RG {R:Type} (op:BinOp) (x y:Bool) (K:V->Option R):Option R:=
 match op with
 | .eql=>K (.d .bool (.bool (x==y)))| .neq=>K (.d .bool (.bool (!(x==y))))|_=>none
def RL {R:Type} (op:BinOp) (x y:Option Bool) (K:V->Option R):Option R:=
 match op,x,y with
 | .eql,some a,some true=>K (.d .bool (.bool a))| .neq,some a,some true=>K (.d .bool (.bool (!a)))| .eql,some true,some b=>K (.d .bool (.bool b))| .neq,some true,some b=>K (.d .bool (.bool (!b)))|_,_,_=>none
def RN {R:Type} (op:BinOp) (x:Option (Option Bool)) (y:V) (K:V->Option R):Option R:=
 match op,x,y with
 | .eql,some r,.ym=>K (KK r)| .neq,some r,.ym=>K (KK (r.map (!·)))|_,_,_=>none
def OE {R:Type} (P:Program) (op:BinOp) (T:TypeId) (x y:V) (K:V->Option R):Option R:=
 match ty P T with
 | .int k=>if x.isInt k then(if BinOp.Kx op then(if y.FH then OP op k x.toInt y.toInt K else none)else(if y.isInt k then OL op k x.toInt y.toInt K else none))else none| .bool=>if x.isBool/\y.isBool then RG op x.toBool y.toBool K else none| .str=>if x.isStr/\y.isStr then OT op x.toStr y.toStr K else none| .ptr=>RL op x.HX y.HX K| .arr n e=>if Cw P T=true/\x.DM (.arr n e)/\y.DM (.arr n e)then MN op (C.beq x.toC y.toC) K else none| .struct sz os fs=>if Cw P T=true/\x.DM (.struct sz os fs)/\y.DM (.struct sz os fs)then MN op (C.beq x.toC y.toC) K else none| .slice _ _=>RN op x.Sd y K|_=>none
def q5R {R:Type} {r:R} {Kr:V->Option R} {P:Program} {op:BinOp} {T:TypeId} {x y:V} {K:V->Prop} (h:OE P op T x y Kr=some r) (hK:∀v,Kr v=some r->K v):PZ P op T x y K:=by unfold OE at h;unfold PZ;generalize ty P T=τ at h ⊢;split at h;{simp only[au]at h;obtain⟨h1,h2⟩:=h;refine⟨h1,?_⟩;split at h2;{rename_i hs;rw[if_pos hs];simp only[au]at h2;exact⟨h2.1,q6d h2.2 hK⟩};{rename_i hs;rw[if_neg hs];simp only[au]at h2;exact⟨h2.1,q54 h2.2 hK⟩}};{simp only[au]at h;obtain⟨⟨h1,h2⟩,h3⟩:=h;refine⟨h1,h2,?_⟩;cases op <;> simp only[RG,reduceCtorEq]at h3 ⊢ <;> exact hK _ h3};{simp only[au]at h;exact⟨h.1.1,h.1.2,q6k h.2 hK⟩};{simp only[RL]at h;split at h <;> (try (cases h)) <;> simp_all};{simp only[au]at h;exact⟨h.1.1,h.1.2.1,h.1.2.2,by rw[C.Vq];exact sY h.2 hK⟩};{simp only[au]at h;exact⟨h.1.1,h.1.2.1,h.1.2.2,by rw[C.Vq];exact sY h.2 hK⟩};{simp only[RN]at h;split at h <;> (try (cases h)) <;> simp_all};{cases h}
def OQ {R:Type} (P:Program) (T:TypeId) (x:V) (lo hi mx:Option V) (K:V->Option R):Option R:=
 match ty P T with
 | .str=>(match CD lo 0,CD hi x.toStr.length with|some l,some h=>if x.isStr/\mx.isNone then(if 0<=l/\l<=h/\h<=x.toStr.length then K (.d .str (.str ((x.toStr.take h.toNat).drop l.toNat)))else none)else none|_,_=>none)
 | .slice eb e=>(match x with
   | .sr k q lo0 n cp eb' e'=>if eb'=eb/\e'=e then(match CD lo 0,CD hi n,mx with|some l,some h,none=>if 0<=l/\l<=h/\h<=n then K (.sr k q (lo0+l.toNat) (h-l).toNat (cp.map (· -l.toNat)) eb e)else none|some l,some h,some m=>if hi.isSome=true then(match CD (some m) 0 with|some m=>if 0<=l/\l=h/\h=m/\m<=n then K (.emp eb e)else none|none=>none)else none|_,_,_=>none)else none
   |x=>(match x.Ej with|some (eb',e',cs)=>if eb'=eb/\e'=e then(match CD lo 0,CD hi cs.length,mx with|some l,some h,none=>if 0<=l/\l<=h/\h<=cs.length then K (.d (.slice eb e) (.slice (cut cs l h)))else none|some l,some h,some m=>if hi.isSome=true then(match CD (some m) 0 with|some m=>if 0<=l/\l=h/\h=m/\m<=cs.length then K (.emp eb e)else none|none=>none)else none|_,_,_=>none)else none|none=>none))
 |_=>(match Xb P T with|some (n,eb,e)=>if n*eb<=140737488355328/\n<=maxLen/\mx.isNone then(match CD lo 0,CD hi n with|some l,some h=>if 0<=l/\l<=h/\h<=n then(match x with| .ptr k q τ=>if τ= .arr n e then K (.sr k q l.toNat (h-l).toNat (some (n-l.toNat)) eb e)else none| .yn τ c=>if τ= .arr n e then K (.d (.slice eb e) (.slice (cut c.elems l h)))else none|_=>none)else none|_,_=>none)else none|none=>none)
def q6h {R:Type} {r:R} {Kr:V->Option R} {P:Program} {T:TypeId} {x:V} {lo hi mx:Option V} {K:V->Prop} (h:OQ P T x lo hi mx Kr=some r) (hK:∀v,Kr v=some r->K v):Pe P T x lo hi mx K:=by
 unfold OQ at h;unfold Pe;generalize ty P T=τ at h ⊢;split at h;{split at h;{rename_i l hh e1 e2;simp only[au]at h;obtain⟨⟨h1,h2⟩,h3,h⟩:=h;refine⟨h1,by simpa using h2,?_⟩;rw[e1,e2];exact⟨h3.1,h3.2.1,h3.2.2,hK _ h⟩};{cases h}}
 ·split at h;{simp only[au]at h;obtain⟨⟨h1,h2⟩,h⟩:=h;refine⟨h1,h2,?_⟩;split at h;{rename_i e1 e2;simp only[au]at h;obtain⟨h3,h⟩:=h;rw[e1,e2];exact⟨h3.1,h3.2.1,h3.2.2,hK _ h⟩};{rename_i e1 e2;simp only[au]at h;obtain⟨h3,h⟩:=h;rw[e1,e2];refine⟨h3,?_⟩;split at h;{rename_i e3;simp only[au]at h;obtain⟨h4,h⟩:=h;rw[e3];exact⟨h4.1,h4.2.1,h4.2.2.1,h4.2.2.2,hK _ h⟩};{cases h}};{cases h}}
  ·rename_i x' hx'
   cases x <;> (try exact(hx' _ _ _ _ _ _ _ rfl).elim) <;> (
    split at h;{rename_i e0;simp only[e0];simp only[au]at h;obtain⟨⟨h1,h2⟩,h⟩:=h;refine⟨h1,h2,?_⟩;split at h;{rename_i e1 e2;simp only[au]at h;obtain⟨h3,h⟩:=h;rw[e1,e2];exact⟨h3.1,h3.2.1,h3.2.2,hK _ h⟩};{rename_i e1 e2;simp only[au]at h;obtain⟨h3,h⟩:=h;rw[e1,e2];refine⟨h3,?_⟩;split at h;{rename_i e3;simp only[au]at h;obtain⟨h4,h⟩:=h;rw[e3];exact⟨h4.1,h4.2.1,h4.2.2.1,h4.2.2.2,hK _ h⟩};{cases h}};{cases h}}
    ·cases h)
 ·rename_i hn1 hn2;split at h
  ·rename_i e0;split <;> first|exact(hn1 rfl).elim|exact(hn2 _ _ rfl).elim|skip
   rw[e0];simp only[au]at h;obtain⟨⟨h1,h2,h3⟩,h⟩:=h;refine⟨h1,h2,by simpa using h3,?_⟩;split at h;{rename_i e1 e2;rw[e1,e2];simp only[au]at h;obtain⟨h4,h⟩:=h;refine⟨h4.1,h4.2.1,h4.2.2,?_⟩;split at h;{simp only[au]at h;obtain⟨h5,h⟩:=h;exact⟨h5,hK _ h⟩};{simp only[au]at h;obtain⟨h5,h⟩:=h;exact⟨h5,hK _ h⟩};{cases h}};{cases h}
  ·cases h
def OM {R:Type} (P:Program) (T:TypeId) (x:V) (K:V->Option R):Option R:=
 match ty P T,x with
 | .str,.d τ c=>if τ= .str then K (.d (.int .i64) (.int c.toStr.length))else none| .slice _ _,.ym=>K (.d (.int .i64) (.int 0))| .slice _ _,.sr _ _ _ n _ _ _=>K (.d (.int .i64) (.int n))| .slice eb e,x=>(match x.Ej with|some (eb',e',cs)=>if eb'=eb/\e'=e then K (.d (.int .i64) (.int cs.length))else none|none=>none)| .arr n _,_=>if(n:Int)<=9223372036854775807 then K (.d (.int .i64) (.int n))else none|_,_=>none
def q57 {R:Type} {r:R} {Kr:V->Option R} {P:Program} {T:TypeId} {x:V} {K:V->Prop} (h:OM P T x Kr=some r) (hK:∀v,Kr v=some r->K v):Pd P T x K:=by
 unfold OM at h;unfold Pd;generalize ty P T=τ at h ⊢
 cases τ <;> (try (cases h;done)) <;> cases x <;> (try (cases h;done)) <;> simp only[au]at h ⊢ <;>
  first
  |exact hK _ h|(obtain⟨h1,h⟩:=h;exact⟨h1,hK _ h⟩)
  |(split at h
    ·rename_i e0;simp only[au]at h;obtain⟨h1,h⟩:=h;rw[e0];exact⟨h1.1,h1.2,hK _ h⟩
    ·cases h)
def OJ {R:Type} (P:Program) (T:TypeId) (x i:V) (K:V->Option R):Option R:=
 if i.FH then
 match ty P T,x with
 | .slice eb e,.sr k q lo n _ eb' e'=>if eb'=eb/\e'=e then(if 0<=i.toInt/\i.toInt<n then K (.ptr k (q++[lo+i.toInt.toNat]) e)else none)else none| .slice eb e,x=>(match x.Ej with|some (eb',e',cs)=>if eb'=eb/\e'=e then(if 0<=i.toInt/\i.toInt<cs.length then K (.yn e (cs.getD i.toInt.toNat .nil))else none)else none|none=>none)| .arr n e,.ptr k q τ=>if τ= .arr n e then(if 0<=i.toInt/\i.toInt<n then K (.ptr k (q++[i.toInt.toNat]) e)else none)else none| .arr n e,.yn τ c=>if τ= .arr n e then(if 0<=i.toInt/\i.toInt<n then K (.yn e (c.get i.toInt.toNat))else none)else none|_,_=>none
 else none
def q52 {R:Type} {r:R} {Kr:V->Option R} {P:Program} {T:TypeId} {x i:V} {K:V->Prop} (h:OJ P T x i Kr=some r) (hK:∀v,Kr v=some r->K v):Pc P T x i K:=by
 unfold OJ at h;unfold Pc;simp only[au]at h;obtain⟨h0,h⟩:=h;refine⟨h0,?_⟩;generalize ty P T=τ at h ⊢
 cases τ <;> (try (cases h;done)) <;> cases x <;> (try (cases h;done)) <;> simp only[au]at h ⊢ <;>
  first
  |(obtain⟨h1,h2,h⟩:=h;exact⟨h1.1,h1.2,h2.1,h2.2,hK _ h⟩)|(obtain⟨h1,h2,h⟩:=h;exact⟨h1,h2.1,h2.2,hK _ h⟩)
  |(split at h
    ·rename_i e0;simp only[au]at h;obtain⟨h1,h2,h⟩:=h;rw[e0];exact⟨h1.1,h1.2,h2.1,h2.2,hK _ h⟩
    ·cases h)
def OI {R:Type} (P:Program) (T:TypeId) (x:V) (i:Nat) (K:V->Option R):Option R:=
 match x with
 | .ptr k q τ=>if τ=ty P T/\τ.JW=true/\(τ.child i).isSome=true/\(τ.get i).size≠0 then K (.ptr k (q++[i]) (τ.get i))else none| .yn τ c=>if τ=ty P T/\τ.JW=true/\(τ.child i).isSome=true/\(τ.get i).size≠0 then K (.yn (τ.get i) (c.get i))else none|_=>none
def q5Y {R:Type} {r:R} {Kr:V->Option R} {P:Program} {T:TypeId} {x:V} {i:Nat} {K:V->Prop} (h:OI P T x i Kr=some r) (hK:∀v,Kr v=some r->K v):Pb P T x i K:=by unfold OI at h;unfold Pb;split at h;{simp only[au]at h;obtain⟨h1,h⟩:=h;exact⟨h1.1,h1.2.1,h1.2.2.1,h1.2.2.2,hK _ h⟩};{simp only[au]at h;obtain⟨h1,h⟩:=h;exact⟨h1.1,h1.2.1,h1.2.2.1,h1.2.2.2,hK _ h⟩};{cases h}
def OU {R:Type} (P:Program) (op:UnOp) (T:TypeId) (x:V) (K:V->Option R):Option R:=
 match ty P T,op with
 | .bool,.not=>if x.isBool then K (.d .bool (.bool (!x.toBool)))else none| .int k,.neg=>if x.isInt k then K (.d (.int k) (.int (k.wrap (0-x.toInt))))else none|_,_=>none
def q6p {R:Type} {r:R} {Kr:V->Option R} {P:Program} {op:UnOp} {T:TypeId} {x:V} {K:V->Prop} (h:OU P op T x Kr=some r) (hK:∀v,Kr v=some r->K v):TJ P op T x K:=by unfold OU at h;unfold TJ;generalize ty P T=τ at h ⊢;split at h;{simp only[au]at h;obtain⟨h1,h⟩:=h;exact⟨h1,hK _ h⟩};{simp only[au]at h;obtain⟨h1,h⟩:=h;exact⟨h1,hK _ h⟩};{cases h}
def OH {R:Type} (P:Program) (src dst:TypeId) (x:V) (K:V->Option R):Option R:=
 match ty P src,ty P dst with
 | .int k,.int k2=>if x.isInt k then K (.d (.int k2) (.int (k2.wrap x.toInt)))else none| .str,.str=>if x.isStr then K x else none|_,_=>none
def q5W {R:Type} {r:R} {Kr:V->Option R} {P:Program} {src dst:TypeId} {x:V} {K:V->Prop} (h:OH P src dst x Kr=some r) (hK:∀v,Kr v=some r->K v):Mp P src dst x K:=by unfold OH at h;unfold Mp;generalize ty P src=τ at h ⊢;generalize ty P dst=τ2 at h ⊢;split at h;{simp only[au]at h;obtain⟨h1,h⟩:=h;exact⟨h1,hK _ h⟩};{simp only[au]at h;obtain⟨h1,h⟩:=h;exact⟨h1,hK _ h⟩};{cases h}
def OG {R:Type} (P:Program) (b:Builtin) (ts:Array TypeId) (xs:List V) (K:V->Option R):Option R:=
 match b,xs with
 | .len,[x]=>if 0<ts.size then OM P (ts.getD 0 0) x K else none| .min,[x,y]=>(match x with| .d (.int k) _=>if y.isInt k then K (.d (.int k) (.int (if y.toInt<x.toInt then y.toInt else x.toInt)))else none|_=>none)| .max,[x,y]=>(match x with| .d (.int k) _=>if y.isInt k then K (.d (.int k) (.int (if x.toInt<y.toInt then y.toInt else x.toInt)))else none|_=>none)|_,_=>none
def q5U {R:Type} {r:R} {Kr:V->Option R} {P:Program} {b:Builtin} {ts:Array TypeId} {xs:List V} {K:V->Prop} (h:OG P b ts xs Kr=some r) (hK:∀v,Kr v=some r->K v):TI P b ts xs K:=by unfold OG at h;unfold TI;split at h;{simp only[au]at h;exact⟨h.1,q57 h.2 hK⟩};{split at h;{simp only[au]at h;obtain⟨h1,h⟩:=h;exact⟨h1,hK _ h⟩};{cases h}};{split at h;{simp only[au]at h;obtain⟨h1,h⟩:=h;exact⟨h1,hK _ h⟩};{cases h}};{cases h}
def HC {R:Type} (P:Program) (op:Op) (ρ:Operand->V) (K:V->Option R):Option R:=
 match op with
 | .move x=>K (ρ x)| .assign x=>K (ρ x)| .pick c a b=>if(ρ c).isBool then(bif (ρ c).toBool then K (ρ a)else K (ρ b))else none| .nilCheck x=>if(ρ x).HX=some false then K (ρ x)else none| .binOp op T x y _=>OE P op T (ρ x) (ρ y) K| .unOp op T x=>OU P op T (ρ x) K| .convert src dst x=>OH P src dst (ρ x) K| .fieldAddr T x i=>OI P T (ρ x) i K| .field T x i=>if(ρ x).ty=ty P T/\(ρ x).ty.JW=true/\((ρ x).ty.child i).isSome=true/\((ρ x).ty.get i).known=true/\(ρ x).plain=true/\((ρ x).get i).isAny=false then K ((ρ x).get i)else none| .indexAddr T x i=>OJ P T (ρ x) (ρ i) K| .index T x i=>if(ρ i).FH then(match ty P T with| .arr n e=>if(ρ x).ty= .arr n e/\(ρ x).plain=true/\e.known=true then(if 0<=(ρ i).toInt/\(ρ i).toInt<n then(if((ρ x).get (ρ i).toInt.toNat).isAny=false then K ((ρ x).get (ρ i).toInt.toNat)else none)else none)else none| .str=>if(ρ x).isStr then(if 0<=(ρ i).toInt/\(ρ i).toInt<(ρ x).toStr.length then K (.d (.int .u8) (.int ((ρ x).toStr.getD (ρ i).toInt.toNat 0).toNat))else none)else none|_=>none)else none| .slice T x lo hi mx=>OQ P T (ρ x) (lo.map ρ) (hi.map ρ) (mx.map ρ) K| .extract x i=>(match ρ x with| .tup xs=>(match xs[i]? with|some y=>K y|none=>none)|_=>none)| .sliceToArrayPointer T x=>(match ρ x with| .sr k q lo n (some _) _ e=>(match ty P T with| .arr m e'=>if e'=e/\0<m then(if m<=n then K (.ptr k (q++[lo]) e)else none)else none|_=>none)|_=>(match ty P T,(ρ x).Ej with| .arr n e,some (_,e',cs)=>if e'=e/\0<n then(if n<=cs.length then K (.yn (.arr n e) (.agg (cs.take n)))else none)else none|_,_=>none))| .makeFunc fn first yp=>(match fn,first.toList with| .func f,[]=>if(yp.toList.map ρ).all V.plain=true then K (.fn f (yp.toList.map ρ))else none|_,_=>none)
 | .call c=>(match c.callee with| .builtin b=>OG P b c.argTypes (c.args.toList.map ρ) K|_=>none)|_=>none
def RM {R:Type} {r:R} {Kr:V->Option R} {P:Program} {op:Op} {ρ:Operand->V} {K:V->Prop} (h:HC P op ρ Kr=some r) (hK:∀v,Kr v=some r->K v):pv P op ρ K:=by
 unfold HC at h;unfold pv;split at h;{exact hK _ h};{exact hK _ h};{simp only[au]at h;obtain⟨h1,h⟩:=h;refine⟨h1,fun e=>?_,fun e=>?_⟩ <;> rw[e]at h <;> exact hK _ h};{simp only[au]at h;obtain⟨h1,h⟩:=h;exact⟨h1,hK _ h⟩};{exact q5R h hK};{exact q6p h hK};{exact q5W h hK};{exact q5Y h hK};{simp only[au]at h;obtain⟨h1,h⟩:=h;exact⟨h1.1,h1.2.1,h1.2.2.1,h1.2.2.2.1,h1.2.2.2.2.1,V.Oe h1.2.2.2.2.2,hK _ h⟩};{exact q52 h hK};{simp only[au]at h;obtain⟨h0,h⟩:=h;refine⟨h0,?_⟩;rename_i T _ _;generalize ty P T=τ at h ⊢;split at h;{simp only[au]at h;obtain⟨h1,h2,h3,h⟩:=h;exact⟨h1.1,h1.2.1,h1.2.2,h2.1,h2.2,V.Oe h3,hK _ h⟩};{simp only[au]at h;obtain⟨h1,h2,h⟩:=h;exact⟨h1,h2.1,h2.2,hK _ h⟩};{cases h}};{exact q6h h hK};{split at h;{rename_i e0;simp only[e0];split at h;{rename_i e1;simp only[e1];exact hK _ h};{cases h}};{cases h}};{split at h;{rename_i e0;dsimp only;split at h;{rename_i e1;simp only[e0,e1];simp only[au]at h;obtain⟨h1,h2,h⟩:=h;exact⟨h1.1,h1.2,h2,hK _ h⟩};{cases h}};{rename_i hno;split at h;{rename_i e0 e1;simp only[au]at h;obtain⟨h1,h2,h⟩:=h;dsimp only;split;{rename_i e2;exact absurd e2 (hno _ _ _ _ _ _ _)};{simp only[e0,e1];exact⟨h1.1,h1.2,h2,hK _ h⟩}};{cases h}}};{split at h;{rename_i e0;simp only[e0];simp only[au]at h;obtain⟨h1,h⟩:=h;exact⟨h1,hK _ h⟩};{cases h}};{split at h;{rename_i e0;simp only[e0];exact q5U h hK};{cases h}};{cases h}
def Ii {R:Type} (P:Program) (s:S) (t':TypeId) (eb:Nat) (e:Ty) (Y:V) (K:List C->Option R):Option R:=
 match ty P t' with
 | .slice _ _=>(match Y with| .ym=>K []|Y=>match EH s Y with|some (eb',e',ys)=>if eb'=eb/\e'=e then K ys else none|none=>none)| .str=>if e= .int .u8/\eb=1/\Y.isStr then K (Y.toStr.map fun b=>C.int b.toNat)else none|_=>none
def Vk {R:Type} {r:R} {Kr:List C->Option R} {P:Program} {s:S} {A':Key->Option O} (hA:leA s.A A') {t':TypeId} {eb:Nat} {e:Ty} {Y:V} {K:List C->Prop} (h:Ii P s t' eb e Y Kr=some r) (hK:∀ys,Kr ys=some r->K ys):IQ P (s.wA A') t' eb e Y K:=by
 unfold Ii at h;unfold IQ;generalize ty P t'=τ at h ⊢;cases τ <;> (try (cases h;done));{simp only[au]at h;obtain⟨h1,h⟩:=h;exact⟨h1.1,h1.2.1,h1.2.2,hK _ h⟩}
 ·cases Y <;> simp only at h ⊢ <;> first
   |exact hK _ h
   |(split at h
     ·rename_i e0;simp only[au]at h;obtain⟨h1,h⟩:=h;rw[tL hA e0];exact⟨h1.1,h1.2,hK _ h⟩
     ·cases h)
abbrev K3 (R:Type):=V->List (Key × O)->List (Nat × Option Nat)->Option R
def OD {R:Type} (P:Program) (m:Nat) (dst:Nat) (s:S) (t t':TypeId) (x y:V) (K:K3 R):Option R:=
 if CB P (Al P t)=true then
 match ty P t with
 | .slice eb e=>(match x with
  | .emp _ _| .ym=>Ii P s t' eb e y fun ys=>
    if m=3 then(if ys.isEmpty=false then K (.sr (.l dst) [] 0 ys.length none eb e) [(.l dst,.box (.d (.arr ys.length e) (.agg ys)))] []else none)else K (.sl eb e ys dst) [] [(dst,some ys.length)]
  |_=>none)
 |_=>none
 else none
def RJ {R:Type} (P:Program) (s:S) (T:TypeId) (k:Key) (K:V->Option R):Option R:=
 match HV P T,s.obj k with
 |some _,some (.map _ _ es)=>if es.length<=9223372036854775807 then K (.d (.int .i64) (.int es.length))else none|_,_=>none
def Il:List (C × V)->C->Bool
 | [],_=>false|(k,_)::l,c=>bif C.beq c k then true else Il l c
def Ks:List (C × V)->C->C
 | [],_=>.nil|(k,v)::l,c=>bif C.beq c k then(match v with| .d _ x=>x|_=>.nil)else Ks l c
def wC {τ c}:∀{es:List (C × V)},DT τ es=true->FL es c=bif Il es c then some (.d τ (Ks es c))else none
 | [],_=>rfl|(k,v)::l,h=>by
  simp only[DT,az]at h;simp only[FL,C.Vq,Il,Ks];cases hb:C.beq c k with
  |true=>
   simp only[cond_true,if_true];obtain⟨h1,_⟩:=h;split at h1;{rw[Ty.beq_iff]at h1;subst h1;rfl};{cases h1}
  |false=>
   simp only[cond_false,Bool.false_eq_true,if_false];exact wC h.2
def OO {R:Type} (τ:Ty) (es:List (C × V)) (c:C) (K:Option V->Option R):Option R:=
 bif DT τ es then(bif Il es c then K (some (.d τ (Ks es c)))else K none)else none
def q58 {R:Type} {r:R} {τ:Ty} {c:C} {Kr:Option V->Option R} {es:List (C × V)} (h:OO τ es c Kr=some r):Kr (FL es c)=some r:=by
 unfold OO at h;cases ha:DT τ es with
 |false=>rw[ha]at h;cases h
 |true=>
  rw[ha]at h;rw[wC ha];cases hb:Il es c <;> rw[hb]at h <;> exact h
def bK {R:Type} (y:V) (q:List Nat) (t τ:Ty) (K:V->Option R):Option R:=
 match y,t with
 | .d (.arr M e) c,.arr m e'=>if q≠[]/\e'=e/\τ=e/\(Ty.arr m e).known=true/\q.getLastD 0+m<=M then K (.d (.arr m e) (.agg ((c.elems.drop (q.getLastD 0)).take m)))else none|_,_=>none
def ekI {R:Type} (X:Cx) (m:Nat) (dst:Nat) (o:Oper) (ρ:Operand->V) (s:S) (K:K3 R):Option R:=
 match o.op with
 | .load T x=>if bw m 18=true then(match ρ x with| .ptr k q τ=>(match s.obj k with|some (.box y)=>bK (y.at q.dropLast) q (ty X.P T) τ fun v=>K v [] []|_=>none)|_=>none)
  else(match ρ x with| .ptr k q τ=>(match s.obj k with|some (.box y)=>if(y.at q).isAny=false/\τ=ty X.P T/\τ.known=true then K (view (y.at q)) [] []else none|_=>none)| .yn τ c=>if τ=ty X.P T/\τ.known=true then K (.d τ c) [] []else none|_=>none)
 | .alloc T=>if CB X.P T=true then K (.ptr (.l dst) [] (ty X.P T)) [(.l dst,Sn (ty X.P T) T)] []else none
 | .box _ x=>if m=5 then(if(ρ x).plain=true then(match Bp (ρ x)with|some cc=>K (.yn (ρ x).ty cc) [] []|none=>none)else none)
   else if(ρ x).plain=true/\(ρ x).Ay=true then K (.ptr (.l dst) [] (ρ x).ty) [(.l dst,.box (ρ x))] []else none
 | .buildSlice t len parts=>(match ty X.P t with
   | .slice eb e=>(match len with
    |0=>if parts.toList.length=0 then K (.emp eb e) [] []else none
    |len+1=>if CB X.P (Al X.P t)=true/\e.size≠0/\(len+1)*e.size<=16777216/\(len+1)*eb<=140737488355328/\parts.toList.map (·.1)=List.range (len+1)then
      (if bw m 20=true then(if(parts.toList.map (fun x=>ρ x.2)).all (fun x=>decide (x.ty=e)&&x.plain)=true/\V.CF (parts.toList.map fun x=>ρ x.2)=true then K (.sr (.l dst) [] 0 (len+1) (some (len+1)) eb e) [(.l dst,.box (.agg (.arr (len+1) e) (parts.toList.map fun x=>ρ x.2)))] []else none)else match Du (parts.toList.map fun x=>ρ x.2)with|some cs=>if(parts.toList.map (fun x=>ρ x.2)).all (fun x=>decide (x.ty=e)&&x.plain)=true then(if m=4 then K (.sl eb e cs dst) [] [(dst,some cs.length)]else K (.d (.slice eb e) (.slice cs)) [] [])else none|none=>none)else none)
   |_=>none)
 | .build T parts=>if CB X.P T=true/\(ty X.P T).Cl=true/\(ty X.P T).isAgg=true/\VO (ty X.P T) (Bz (ty X.P T)) (parts.toList.map fun p=>(p.1,ρ p.2))=true then
   K (Jo (ty X.P T) (Bz (ty X.P T)) (parts.toList.map fun p=>(p.1,ρ p.2))) [] []else none
 | .makeSlice t l c=>(match ty X.P t with
   | .slice eb e=>if CB X.P (Al X.P t)=true/\(ρ l).FH/\(ρ c).FH/\e.size≠0 then(if 0<=(ρ l).toInt/\(ρ l).toInt<=(ρ c).toInt/\(ρ c).toInt<=9223372036854775807/\(ρ c).toInt.toNat*eb<=140737488355328 then
     K (.sr (.l dst) [] 0 (ρ l).toInt.toNat (if m=9 then none else some (ρ c).toInt.toNat) eb e) [(.l dst,.box (.d (.arr (ρ l).toInt.toNat e) (.agg (List.replicate (ρ l).toInt.toNat (AJ e)))))] []else none)else none
   |_=>none)
 | .makeMap T r=>(match r,HV X.P T with|none,some (kt,et)=>K (.mp (.l dst)) [(.l dst,.map (ty X.P kt) (ty X.P et) [])] []|_,_=>none)
 | .lookup T x i ok=>(match HV X.P T,ρ x with
   |some (kt,et),.mp k=>(match s.obj k with
     |some (.map kτ _ es)=>if kτ=ty X.P kt/\Cw X.P kt=true/\CB X.P et=true/\(ρ i).DM kτ then
       OO (ty X.P et) es (ρ i).toC (fun r=>K (if ok then .tup [r.getD (Bz (ty X.P et)),.d .bool (.bool r.isSome)]else r.getD (Bz (ty X.P et))) [] [])else none
     |_=>none)
   |_,_=>none)
 | .call c=>(match c.callee with| .value _=>none| .builtin .append=>(match c.args.toList,c.argTypes.toList with| [x,y],[t,t']=>OD X.P m dst s t t' (ρ x) (ρ y) K|_,_=>none)| .builtin .len=>(match c.args.toList,c.argTypes.toList with| [x],[T]=>(match ρ x with| .mp k=>RJ X.P s T k fun v=>K v [] []|_=>HC X.P o.op ρ fun v=>K v [] [])|_,_=>HC X.P o.op ρ fun v=>K v [] [])|_=>HC X.P o.op ρ fun v=>K v [] [])| .convert src z6E x=>(match strOf X.P s src z6E (ρ x)with|some ys=>K (.d .str (.str (ys.map Kh))) [] []|none=>HC X.P o.op ρ fun v=>K v [] [])|_=>HC X.P o.op ρ fun v=>K v [] []
def q5P {P:Program} {md:List (Nat × Nat)} {m dst:Nat} (hm:Bu md dst=m) {s:S} {A':Key->Option O} (hA:leA s.A A') {t t':TypeId} {x y:V} {R:Type} {r:R} {Kr:K3 R} {K:V->List (Key × O)->List (Nat × Option Nat)->Prop}:
  OD P m dst s t t' x y Kr=some r->(∀v lo tn,Kr v lo tn=some r->K v lo tn)->CB P (Al P t)=true/\(match ty P t,x with| .slice eb e,.emp _ _=>IQ P (s.wA A') t' eb e y fun ys=>if Bu md dst=3 then ys≠[]/\K (.sr (.l dst) [] 0 ys.length none eb e) [(.l dst,.box (.d (.arr ys.length e) (.agg ys)))] []else K (.sl eb e ys dst) [] [(dst,some ys.length)]| .slice eb e,.ym=>IQ P (s.wA A') t' eb e y fun ys=>if Bu md dst=3 then ys≠[]/\K (.sr (.l dst) [] 0 ys.length none eb e) [(.l dst,.box (.d (.arr ys.length e) (.agg ys)))] []else K (.sl eb e ys dst) [] [(dst,some ys.length)]|_,_=>False):=by
 intro h hK;unfold OD at h;simp only[au]at h;obtain⟨h0,h⟩:=h;refine⟨h0,?_⟩;generalize ty P t=τ at h ⊢;cases τ <;> (try (cases h;done))
 cases x <;> (try (cases h;done)) <;> simp only at h ⊢ <;>
  (refine Vk hA h fun ys h=>?_
   split at h;{rename_i hm3;rw[if_pos (hm.trans hm3)];simp only[au]at h;obtain⟨h1,h⟩:=h;exact⟨by intro e1;subst e1;simp at h1,hK _ _ _ h⟩}
   ·rename_i hm3;rw[if_neg (by rw[hm];exact hm3)];exact hK _ _ _ h)
def q50 {X:Cx} {md:List (Nat × Nat)} {m dst:Nat} (hm:Bu md dst=m) {o:Oper} {ρ:Operand->V} {s base:S} {A':Key->Option O} (hA:leA s.A A') {R:Type} {r:R} {Kr:K3 R} {K:V->List (Key × O)->List (Nat × Option Nat)->Prop} (h:ekI X m dst o ρ s Kr=some r) (hK:∀v lo tn,Kr v lo tn=some r->K v lo tn):
  iop X md base dst o ρ (s.wA A') K:=by
 unfold ekI at h;unfold iop;generalize o.op=op at h ⊢;split at h
 ·dsimp only;split at h;{rename_i z65;rw[if_pos (by rw[hm];exact fj z65)];split at h;{rename_i e0;simp only[e0];split at h;{rename_i e1;simp only[Cy hA e1];unfold bK at h;unfold nD;split at h;{rename_i e2 e3;simp only[e2,e3];simp only[au]at h;obtain⟨h1,h⟩:=h;exact⟨h1.1,h1.2.1,h1.2.2.1,h1.2.2.2.1,h1.2.2.2.2,hK _ _ _ h⟩};{cases h}};{cases h}};{cases h}};rename_i z65;rw[if_neg fun e=>z65 (by rw[<-hm,e];rfl)];split at h;{rename_i e0;simp only[e0];split at h;{rename_i e1;simp only[Cy hA e1];simp only[au]at h;obtain⟨h1,h⟩:=h;exact⟨V.Oe h1.1,h1.2.1,h1.2.2,hK _ _ _ h⟩};{cases h}};{rename_i e0;simp only[e0];simp only[au]at h;obtain⟨h1,h⟩:=h;exact⟨h1.1,h1.2,hK _ _ _ h⟩};{cases h}
 ·simp only[au]at h;obtain⟨h1,h⟩:=h;exact⟨h1,hK _ _ _ h⟩
 ·dsimp only;split at h;{rename_i hm5;rw[if_pos (hm.trans hm5)];simp only[au]at h;obtain⟨h1,h⟩:=h;split at h;{rename_i cc hcc;rw[hcc];exact⟨h1,hK _ _ _ h⟩};{cases h}};{rename_i hm5;rw[if_neg (by rw[hm];exact hm5)];simp only[au]at h;obtain⟨h1,h⟩:=h;exact⟨h1.1,h1.2,hK _ _ _ h⟩}
 ·rename_i t len parts;dsimp only;generalize ty X.P t=τ at h ⊢;cases τ <;> (try (cases h;done));cases len with
  |zero=>
   simp only[au]at h;obtain⟨h1,h⟩:=h;exact⟨h1,hK _ _ _ h⟩
  |succ len=>
   simp only[au]at h;obtain⟨h1,h⟩:=h;refine⟨h1.1,h1.2.1,h1.2.2.1,h1.2.2.2.1,h1.2.2.2.2,?_⟩;split at h;{rename_i h20;rw[if_pos (by rw[hm];exact fj h20)];simp only[au]at h;obtain⟨h2,h⟩:=h;exact⟨fun x hx=>by have:=eh.1 h2.1 x hx;simpa using this,h2.2,hK _ _ _ h⟩};rename_i h20;rw[if_neg fun e=>h20 (by rw[<-hm,e];rfl)];split at h;{rename_i e0;rw[e0];simp only[au]at h;obtain⟨h2,h⟩:=h;refine⟨fun x hx=>?_,?_⟩;{have:=eh.1 h2 x hx;simpa using this};{rw[hm];split at h;{rename_i e4;rw[if_pos e4];exact hK _ _ _ h};{rename_i e4;rw[if_neg e4];exact hK _ _ _ h}}};{cases h}
 ·simp only[au]at h;obtain⟨h1,h⟩:=h;exact⟨h1.1,h1.2.1,h1.2.2.1,qQ h1.2.2.2,hK _ _ _ h⟩
 ·rename_i t _ _;dsimp only;generalize ty X.P t=τ at h ⊢;cases τ <;> (try (cases h;done));simp only[au]at h;obtain⟨h1,h⟩:=h;obtain⟨h2,h⟩:=h;exact⟨h1.1,h1.2.1,h1.2.2.1,h2.1,h2.2.1,h2.2.2.1,h2.2.2.2,h1.2.2.2,by rw[hm];exact hK _ _ _ h⟩
 ·split at h;{rename_i e0;simp only[e0];exact hK _ _ _ h};{cases h}
 ·split at h;{rename_i e0 e1;simp only[e0,e1];split at h;{rename_i e2;simp only[Cy hA e2];simp only[au]at h;obtain⟨h1,h⟩:=h;refine⟨h1.1,h1.2.1,h1.2.2.1,h1.2.2.2,?_⟩;exact hK _ _ _ (q58 h)};{cases h}};{cases h}
 ·split at h;{cases h};{rename_i e0;simp only[e0];split at h;{rename_i e1 e2;simp only[e1,e2];exact q5P hm hA h hK};{cases h}};{rename_i e0;simp only[e0];split at h;{rename_i e1 e2;simp only[e1,e2];split at h;{rename_i e3;simp only[e3];unfold RJ at h;split at h;{rename_i e4 e5;simp only[au]at h;obtain⟨h2,h⟩:=h;simp only[e4,Cy hA e5];exact⟨h2,hK _ _ _ h⟩};{cases h}};{rename_i hx;split;{rename_i k hk;exact(hx k hk).elim};{exact RM h (fun v h=>hK _ _ _ h)}}};{rename_i hx;split;{rename_i a b hk hk2;exact(hx _ _ hk hk2).elim};{exact RM h (fun v h=>hK _ _ _ h)}}};{rename_i h1 h2 h3;dsimp only;split;{rename_i e;exact(h1 _ e).elim};{rename_i e;exact(h2 e).elim};{rename_i e;exact(h3 e).elim};{exact RM h (fun v h=>hK _ _ _ h)}}
 ·split at h;{rename_i e0;simp only[z4J hA e0];exact hK _ _ _ h};{have hp:=RM (K:=fun y=>K y [] []) h (fun v h=>hK _ _ _ h);dsimp only;split;{rename_i e1;exact(z4I (K:=fun y=>K y [] []) e1 hp).elim};{exact hp}}
 ·split <;> first
   |exact RM h (fun v h=>hK _ _ _ h)|(rename_i hx;exact(hx _ rfl).elim)|(rename_i hx _;exact(hx _ _ rfl).elim)|(rename_i hx _ _ _ _;exact(hx _ _ _ _ rfl).elim)|(rename_i hx _ _ _ _ _;exact(hx _ _ _ _ rfl).elim)|(exfalso;simp[HC]at h;done)|simp_all
abbrev KS (R:Type):=V->S->Option R
def LF (s:S) (t n:Nat):Option Bool:=
 match s.live t with
 |some m=>some (bw m n)|none=>none
mutual
def V.KV (lv:Nat->Option Nat):List Nat->V->List (Nat × List Nat)
 |p,.sl _ _ _ t=>(match lv t with|some _=>[(t,p)]|none=>[])|p,.agg _ vs=>V.YZ lv p 0 vs|_,_=>[]
def V.YZ (lv:Nat->Option Nat):List Nat->Nat->List V->List (Nat × List Nat)
 |_,_,[]=>[]|p,i,x::xs=>V.KV lv (p++[i]) x++V.YZ lv p (i+1) xs
end
mutual
def V.MT (σ:List (Nat × List Nat)) (lv:Nat->Option Nat):List Nat->V->V
 |p,.sl eb e cs t=>(match lv t with|some _=>if look σ t=some p then .ts eb e cs else .d (.slice eb e) (.slice cs)|none=>.d (.slice eb e) (.slice cs))|p,.agg τ vs=>.agg τ (V.WL σ lv p 0 vs)|_,x=>x
def V.WL (σ:List (Nat × List Nat)) (lv:Nat->Option Nat):List Nat->Nat->List V->List V
 |_,_,[]=>[]|p,i,x::xs=>V.MT σ lv (p++[i]) x::V.WL σ lv p (i+1) xs
end
mutual
def V.Gl (lv:Nat->Option Nat):V->Bool
 | .sl _ _ cs t=>(match lv t with|some m=>bw m cs.length|none=>true)| .agg _ vs=>V.KJ lv vs|_=>true
def V.KJ (lv:Nat->Option Nat):List V->Bool
 | []=>true|x::xs=>(match x with| .sl _ _ _ _| .agg _ _=>x.Gl lv&&V.KJ lv xs|_=>V.KJ lv xs)
end
mutual
def V.mR {lv}:∀(x:V) (p:List Nat),x.Gl lv=true->x.sites lv p=x.KV lv p
 | .sl _ _ cs t,p,h=>by simp only[V.Gl]at h;simp only[sx,V.KV];split at h;{rename_i m e;rw[e,fj h];simp};{rename_i e;rw[e];simp}
 | .agg _ vs,p,h=>by simp only[V.Gl]at h;simp only[sx,V.KV,V.q1O vs p 0 h]
 | .d _ _,_,_| .ts _ _ _,_,_| .emp _ _,_,_| .ym,_,_| .ptr _ _ _,_,_| .yn _ _,_,_| .sr _ _ _ _ _ _ _,_,_| .mp _,_,_| .fn _ _,_,_| .tup _,_,_| .top _,_,_| .any,_,_=>by simp[sx,V.KV]
def V.q1O {lv}:∀(xs:List V) (p:List Nat) (i:Nat),V.KJ lv xs=true->V.Uc lv p i xs=V.YZ lv p i xs
 | [],_,_,_=>rfl|x::xs,p,i,h=>by
  have hx:x.Gl lv=true/\V.KJ lv xs=true:=by simp only[V.KJ]at h;split at h;{simpa using h};{simpa using h};{rename_i h1 h2;refine⟨?_,h⟩;cases x <;> first|rfl|exact absurd rfl (h1 _ _ _ _)|exact absurd rfl (h2 _ _)}
  simp only[V.Uc,V.YZ,V.mR x _ hx.1,V.q1O xs p (i+1) hx.2]
end
mutual
def V.dF {lv σ}:∀(x:V) (p:List Nat),x.Gl lv=true->x.Bh σ lv p=x.MT σ lv p
 | .sl _ _ cs t,p,h=>by simp only[V.Gl]at h;simp only[V.Bh,V.MT];split at h;{rename_i m e;rw[e,fj h];simp};{rename_i e;rw[e];simp}
 | .agg _ vs,p,h=>by simp only[V.Gl]at h;simp only[V.Bh,V.MT,V.wS vs p 0 h]
 | .d _ _,_,_| .ts _ _ _,_,_| .emp _ _,_,_| .ym,_,_| .ptr _ _ _,_,_| .yn _ _,_,_| .sr _ _ _ _ _ _ _,_,_| .mp _,_,_| .fn _ _,_,_| .tup _,_,_| .top _,_,_| .any,_,_=>by simp[V.Bh,V.MT]
def V.wS {lv σ}:∀(xs:List V) (p:List Nat) (i:Nat),V.KJ lv xs=true->V.Hw σ lv p i xs=V.WL σ lv p i xs
 | [],_,_,_=>rfl|x::xs,p,i,h=>by
  have hx:x.Gl lv=true/\V.KJ lv xs=true:=by simp only[V.KJ]at h;split at h;{simpa using h};{simpa using h};{rename_i h1 h2;refine⟨?_,h⟩;cases x <;> first|rfl|exact absurd rfl (h1 _ _ _ _)|exact absurd rfl (h2 _ _)}
  simp only[V.Hw,V.WL,V.dF x _ hx.1,V.wS xs p (i+1) hx.2]
end
def Yp (s:S):Nat->Nat->Nat
 |0,d=>d|f+1,d=>if(s.obj (.l d)).isNone=true then d else Yp s f (d+100000000)
def ekT {R:Type} (X:Cx) (m:Nat) (dst:Nat) (o:Oper) (ρ:Operand->V) (s:S) (K:KS R):Option R:=
 match o.op with
 | .store T p y=>(match ρ p with
   | .ptr k q τ=>(match s.obj k with
     |some (.box x)=>if τ=ty X.P T/\τ.known=true/\(Bm τ (ρ y)).ty=τ/\(Bm τ (ρ y)).plain=true/\(x.at q).isAny=false/\x.ty.Cl=true/\(Bm τ (ρ y)).okH=true then
       (match Bm τ (ρ y)with
       | .sl eb e cs t=>(match LF s t cs.length with|some b=>(bif b then K .any ((s.put k (.box (x.setAt q (.ts eb e cs)))).tok t none)else none)|none=>K .any (s.put k (.box (x.setAt q (.d (.slice eb e) (.slice cs))))))|z=>(bif z.Gl s.live then K .any (Dy (z.KV s.live q) (s.put k (.box (x.setAt q (z.MT (z.KV s.live q) s.live q)))))else none))else none
     |_=>none)
   |_=>none)
 | .box _ x=>if(ρ x).plain=true/\(ρ x).okH=true/\(s.obj (.l dst)).isNone then
   (bif (ρ x).Gl s.live then K (.ptr (.l dst) [] (ρ x).ty) (Dy ((ρ x).KV s.live []) (s.put (.l dst) (.box ((ρ x).MT ((ρ x).KV s.live []) s.live []))))else none)else none
 | .load T x=>(match ρ x with| .ptr k q τ=>(match s.obj k with|some (.box y)=>(match y.at q with| .ts eb e cs=>if m=1/\τ=ty X.P T/\τ= .slice eb e/\y.ty.Cl=true/\s.known dst=false then K (.sl eb e cs dst) ((s.put k (.box (y.setAt q (.d (.slice eb e) (.slice cs))))).tok dst (some cs.length))else none|_=>none)|_=>none)|_=>none)
 | .mapUpdate T x i y=>(match HV X.P T,ρ x with
   |some (kt,et),.mp k=>(match s.obj k with
     |some (.map kτ vτ es)=>if kτ=ty X.P kt/\vτ=ty X.P et/\Cw X.P kt=true/\kτ.flat=true/\(ρ i).DM kτ/\(Bm vτ (ρ y).Bj).ty=vτ/\(Bm vτ (ρ y).Bj).plain=true/\(Bm vτ (ρ y).Bj).Ay=true then
       K .any (s.put k (.map kτ vτ (Gn es (ρ i).toC (Bm vτ (ρ y).Bj))))else none
     |_=>none)
   |_,_=>none)
 | .call c=>(match c.callee with
   | .builtin .append=>(match c.args.toList,c.argTypes.toList with
     | [x,y],[t,t']=>if CB X.P (Al X.P t)=true then(match ty X.P t,ρ x with
       | .slice eb e,.sl eb' e' cs tk=>if eb'=eb/\e'=e then(match LF s tk cs.length with|some b=>(bif b then(Ii X.P s t' eb e (ρ y) fun ys=>if(cs.length+ys.length)*eb<=140737488355328/\cs.length+ys.length<=maxLen then K (.sl eb e (cs++ys) tk) (s.tok tk (some (cs.length+ys.length)))else none)else none)|none=>none)else none
       | .slice eb e,.sr k q lo n cp eb' e'=>if q=[]/\lo=0/\cp.isNone=true/\eb'=eb/\e'=e then(match s.obj k with
         |some (.box (.d τ cc))=>(match τ with
          | .arr M e2=>if e2=e/\(s.obj (.l (Yp s 8 dst))).isNone then
            Ii X.P s t' eb e (ρ y) (fun ys=>if(n+ys.length)*eb<=140737488355328/\n+ys.length<=maxLen then
             K (.sr (.l (Yp s 8 dst)) [] 0 (n+ys.length) none eb e) ((s.put k (.dead (.arr M e))).put (.l (Yp s 8 dst)) (.box (.d (.arr (n+ys.length) e) (.agg (cc.elems.take n++ys)))))else none)else none
          |_=>none)
         |_=>none)else none
       |_,_=>none)else none
     |_,_=>none)
   | .builtin .copy=>(match c.args.toList,c.argTypes.toList with
     | [x,y],[t,t']=>if CB X.P (Al X.P t)=true then(match ty X.P t,ρ x with
       | .slice eb e,.sr k q lo n cp eb' e'=>if cp.isSome=true/\eb'=eb/\e'=e then(match s.obj k with
         |some (.box Z)=>(match Z.at q with
          | .d τ cc=>(match τ with
           | .arr m e2=>if e2=e/\Z.ty.Cl=true then(if 0<n then
             Ii X.P s t' eb e (ρ y) (fun ys=>K (.d (.int .i64) (.int (min ys.length n:Nat))) (s.put k (.box (Z.setAt q (.d (.arr m e) (.agg (Ck cc.elems lo n ys)))))))else none)else none
           |_=>none)
          |_=>none)
         |_=>none)else none
       |_,_=>none)else none
     |_,_=>none)
   |_=>none)
 |_=>none
def q7i {lv σ} {p:List Nat} {eb:Nat} {e} {cs:List C} {t:Nat} (h:look σ t=some p) (hl:lv t=some cs.length):V.Bh σ lv p (.sl eb e cs t)= .ts eb e cs:=by simp only[V.Bh];exact if_pos ⟨h,hl⟩
def q7h {lv σ} {p:List Nat} {eb:Nat} {e cs} {t:Nat} (hl:lv t=none):V.Bh σ lv p (.sl eb e cs t)= .d (.slice eb e) (.slice cs):=by simp only[V.Bh];exact if_neg (by rw[hl];simp)
def eP {s:S} {t n:Nat} (h:LF s t n=some true):s.live t=some n:=by unfold LF at h;split at h;{rename_i m e;rw[e,fj (oh h)]};{cases h}
def q6m {X:Cx} {md:List (Nat × Nat)} {m dst:Nat} (hm:Bu md dst=m) {o:Oper} {ρ:Operand->V} {s:S} {A':Key->Option O} (hA:leA s.A A') {R:Type} {r:R} {Kr:KS R} {K:V->S->Prop} (h:ekT X m dst o ρ s Kr=some r) (hK:∀v s1,Kr v s1=some r->K v (s1.wA A')):
  top X md dst o ρ (s.wA A') K:=by
 unfold ekT at h;unfold top;generalize o.op=op at h ⊢;split at h
 ·split at h
  ·rename_i e0;simp only[e0];split at h
   ·rename_i e1;simp only[Cy hA e1];simp only[au]at h;obtain⟨h1,h⟩:=h;refine⟨h1.1,h1.2.1,h1.2.2.1,h1.2.2.2.1,V.Oe h1.2.2.2.2.1,h1.2.2.2.2.2.1,h1.2.2.2.2.2.2,?_⟩;split at h
    ·rename_i eb e cs t e2;rw[e2];split at h
     ·rename_i b e3;cases b with
      |false=>cases h
      |true=>
       have hl:=eP (s:=s) e3;have hK:=hK _ _ h;have e4:∀p,sx (s.wA A').live p (V.sl eb e cs t)=[(t,p)]:=by intro p;simp only[sx];exact if_pos hl
       rw[e4,q7i (lv:=(s.wA A').live) (σ:=[(t,_)]) (by simp[look]) hl];exact hK
     ·rename_i e3;have hl:s.live t=none:=by unfold LF at e3;split at e3;{cases e3};{rename_i e5;exact e5}
      have hK:=hK _ _ h;have e4:∀p,sx (s.wA A').live p (V.sl eb e cs t)=[]:=by intro p;simp only[sx];exact if_neg (by rw[q8P,hl];simp)
      rw[e4,q7h (lv:=(s.wA A').live) hl];exact hK
    ·rename_i z hz;generalize Bm _ (ρ _)=z at h ⊢;cases hn:z.Gl s.live with
     |false=>rw[hn]at h;cases h
     |true=>
     rw[hn,cond_true,<-V.mR z _ hn,<-V.dF z _ hn]at h;have hK:=hK _ _ h;rw[<-WQ]at hK;exact hK
   ·cases h
  ·cases h
 ·simp only[au]at h;obtain⟨h1,h⟩:=h;rename_i _ x;cases hn:(ρ x).Gl s.live with
  |false=>rw[hn]at h;cases h
  |true=>
  rw[hn,cond_true,<-V.mR (ρ x) _ hn,<-V.dF (ρ x) _ hn]at h;have hK:=hK _ _ h;rw[<-WQ]at hK;exact⟨h1.1,h1.2.1,by rw[LN];simpa using h1.2.2,hK⟩
 ·split at h;{rename_i e0;simp only[e0];split at h;{rename_i e1;simp only[Cy hA e1];split at h;{rename_i e2;simp only[e2];simp only[au]at h;obtain⟨h1,h⟩:=h;exact⟨hm.trans h1.1,h1.2.1,h1.2.2.1,h1.2.2.2.1,h1.2.2.2.2,hK _ _ h⟩};{cases h}};{cases h}};{cases h}
 ·split at h;{rename_i e0 e1;simp only[e0,e1];split at h;{rename_i e2;simp only[Cy hA e2];simp only[au]at h;obtain⟨h1,h⟩:=h;have hK:=hK _ _ h;rw[U7]at hK;exact⟨h1.1,h1.2.1,h1.2.2.1,h1.2.2.2.1,h1.2.2.2.2.1,h1.2.2.2.2.2.1,h1.2.2.2.2.2.2.1,h1.2.2.2.2.2.2.2,hK⟩};{cases h}};{cases h}
 ·split at h
  ·rename_i e0;simp only[e0];split at h
   ·rename_i e1 e2;simp only[e1,e2];simp only[au]at h;obtain⟨h0,h⟩:=h;refine⟨h0,?_⟩;split at h
    ·rename_i e3 e4;simp only[e3,e4];simp only[au]at h;obtain⟨h1,h⟩:=h;split at h
     ·rename_i b e5;cases b with
      |false=>cases h
      |true=>
       simp only[cond_true]at h;refine⟨h1.1,h1.2,eP (s:=s) e5,?_⟩;refine Vk hA h fun ys h=>?_;simp only[au]at h;obtain⟨h2,h⟩:=h;exact⟨h2.1,h2.2,hK _ _ h⟩
     ·cases h
    ·rename_i e3 e4;simp only[e3,e4];simp only[au]at h;obtain⟨⟨rfl,rfl,hcp,h1⟩,h⟩:=h;rename_i cp _ _;cases cp with
     |some c=>cases hcp
     |none=>
      split at h;{rename_i e5;simp only[Cy hA e5];split at h;{simp only[au]at h;obtain⟨⟨h2,h3⟩,h⟩:=h;refine⟨h1.1,h1.2,h2,_,by rw[LN];simpa using h3,?_⟩;refine Vk hA h fun ys h=>?_;simp only[au]at h;obtain⟨h4,h⟩:=h;exact⟨h4.1,h4.2,hK _ _ h⟩};{cases h}};{cases h}
    ·cases h
   ·cases h
  ·rename_i e0;simp only[e0];split at h
   ·rename_i e1 e2;simp only[e1,e2];simp only[au]at h;obtain⟨h0,h⟩:=h;refine⟨h0,?_⟩;split at h
    ·rename_i e3 e4;simp only[e3,e4];simp only[au]at h;obtain⟨⟨hcp,rfl,rfl⟩,h⟩:=h;rename_i cp _ _;cases cp with
     |none=>cases hcp
     |some c0=>
      split at h;{rename_i e5;simp only[Cy hA e5];split at h;{rename_i e6;split at h;{rename_i m e2';simp only[e6];simp only[au]at h;obtain⟨⟨rfl,h3⟩,h4,h⟩:=h;refine⟨by trivial,by trivial,by trivial,h3,h4,?_⟩;refine Vk hA h fun ys h=>?_;exact hK _ _ h};{cases h}};{cases h}};{cases h}
    ·cases h
   ·cases h
  ·cases h
 ·cases h
def q53 {R:Type} (op:BinOp) (k:IntKind) (a b:Int) (K:V->Option R):OL op k a b K=(OL op k a b some).bind K:=by unfold OL;split <;> first|rfl|(split <;> rfl)
def q6c {R:Type} (op:BinOp) (k:IntKind) (a b:Int) (K:V->Option R):OP op k a b K=(OP op k a b some).bind K:=by unfold OP;split <;> first|rfl|(split <;> rfl)
def q6j {R:Type} (op:BinOp) (a b:List UInt8) (K:V->Option R):OT op a b K=(OT op a b some).bind K:=by unfold OT;split <;> first|rfl|(split <;> rfl)
def sX {R:Type} (op:BinOp) (b:Bool) (K:V->Option R):MN op b K=(MN op b some).bind K:=by unfold MN;split <;> rfl
def q5S {R:Type} (op:BinOp) (a b:Bool) (K:V->Option R):RG op a b K=(RG op a b some).bind K:=by unfold RG;split <;> rfl
def q59 {R:Type} (op:BinOp) (a b:Option Bool) (K:V->Option R):RL op a b K=(RL op a b some).bind K:=by unfold RL;split <;> rfl
def q6f {R:Type} (op:BinOp) (a:Option (Option Bool)) (b:V) (K:V->Option R):RN op a b K=(RN op a b some).bind K:=by unfold RN;split <;> rfl
def q5Q {R:Type} (P:Program) (op:BinOp) (T:TypeId) (x y:V) (K:V->Option R):OE P op T x y K=(OE P op T x y some).bind K:=by unfold OE;split;{split;{split;{split;{exact q6c ..};{rfl}};{split;{exact q53 ..};{rfl}}};{rfl}};{split;{exact q5S ..};{rfl}};{split;{exact q6j ..};{rfl}};{exact q59 ..};{split;{exact sX ..};{rfl}};{split;{exact sX ..};{rfl}};{exact q6f ..};{rfl}
def q6g {R:Type} (P:Program) (T:TypeId) (x:V) (lo hi mx:Option V) (K:V->Option R):OQ P T x lo hi mx K=(OQ P T x lo hi mx some).bind K:=by
 unfold OQ
 repeat' (first|rfl|split)
def q56 {R:Type} (P:Program) (T:TypeId) (x:V) (K:V->Option R):OM P T x K=(OM P T x some).bind K:=by
 unfold OM
 repeat' (first|rfl|split)
def q51 {R:Type} (P:Program) (T:TypeId) (x i:V) (K:V->Option R):OJ P T x i K=(OJ P T x i some).bind K:=by
 unfold OJ
 repeat' (first|rfl|split)
def q5X {R:Type} (P:Program) (T:TypeId) (x:V) (i:Nat) (K:V->Option R):OI P T x i K=(OI P T x i some).bind K:=by
 unfold OI
 repeat' (first|rfl|split)
def q6o {R:Type} (P:Program) (op:UnOp) (T:TypeId) (x:V) (K:V->Option R):OU P op T x K=(OU P op T x some).bind K:=by
 unfold OU
 repeat' (first|rfl|split)
def q5V {R:Type} (P:Program) (a b:TypeId) (x:V) (K:V->Option R):OH P a b x K=(OH P a b x some).bind K:=by
 unfold OH
 repeat' (first|rfl|split)
def q5T {R:Type} (P:Program) (b:Builtin) (ts:Array TypeId) (xs:List V) (K:V->Option R):OG P b ts xs K=(OG P b ts xs some).bind K:=by
 unfold OG
 repeat' (first|rfl|exact q56 .. |split)
def tF {R:Type} (P:Program) (op:Op) (ρ:Operand->V) (K:V->Option R):HC P op ρ K=(HC P op ρ some).bind K:=by unfold HC;split;{rfl};{rfl};{split;{cases(ρ _).toBool <;> rfl};{rfl}};{split <;> rfl};{exact q5Q ..};{exact q6o ..};{exact q5V ..};{exact q5X ..};{split <;> rfl};{exact q51 ..};{repeat' (first|rfl|split)};{exact q6g ..};{repeat' (first|rfl|split)};{repeat' (first|rfl|split)};{repeat' (first|rfl|split)};{repeat' (first|rfl|exact q5T .. |split)};{rfl}
def Km {R:Type} (P:Program) (s:S) (t':TypeId) (eb:Nat) (e:Ty) (Y:V) (K:List C->Option R):Ii P s t' eb e Y K=(Ii P s t' eb e Y some).bind K:=by
 unfold Ii
 repeat' (first|rfl|split)
def K3.run {R:Type} (K:K3 R) (r:RI):Option R:=K r.1 r.2.1 r.2.2
def ri:K3 RI:=fun v lo tn=>some (v,lo,tn)
def MB {α β γ:Type} (x:Option α) (f:α->Option β) (g:β->Option γ):(x.bind f).bind g=x.bind fun a=>(f a).bind g:=by cases x <;> rfl
def q5O {R:Type} (P:Program) (m dst:Nat) (s:S) (t t':TypeId) (x y:V) (K:K3 R):OD P m dst s t t' x y K=(OD P m dst s t t' x y ri).bind K.run:=by
 have key:∀eb e,(Ii P s t' eb e y fun ys=>if m=3 then(if ys.isEmpty=false then K (.sr (.l dst) [] 0 ys.length none eb e) [(.l dst,.box (.d (.arr ys.length e) (.agg ys)))] []else none)else K (.sl eb e ys dst) [] [(dst,some ys.length)])=
   (Ii P s t' eb e y fun ys=>if m=3 then(if ys.isEmpty=false then ri (.sr (.l dst) [] 0 ys.length none eb e) [(.l dst,.box (.d (.arr ys.length e) (.agg ys)))] []else none)else ri (.sl eb e ys dst) [] [(dst,some ys.length)]).bind K.run:=by
  intro eb e;rw[Km,Km P s t' eb e y (fun ys=>if m=3 then(if ys.isEmpty=false then ri _ _ _ else none)else ri _ _ _),MB];congr 1;funext ys
  repeat' (first|rfl|split)
 unfold OD;split;{split;{split;{exact key _ _};{exact key _ _};{rfl}};{rfl}};{rfl}
def tC {R:Type} (P:Program) (s:S) (T:TypeId) (k:Key) (K:V->Option R):RJ P s T k K=(RJ P s T k some).bind K:=by
 unfold RJ
 repeat' (first|rfl|split)
def tD {R:Type} (τ:Ty) (c:C) (K:Option V->Option R) (es:List (C × V)):OO τ es c K=(OO τ es c some).bind K:=by unfold OO;cases DT τ es <;> cases Il es c <;> rfl
def q5Z {R:Type} (X:Cx) (m dst:Nat) (o:Oper) (ρ:Operand->V) (s:S) (K:K3 R):ekI X m dst o ρ s K=(ekI X m dst o ρ s ri).bind K.run:=by
 have pv:∀op,HC X.P op ρ (fun v=>K v [] [])=(HC X.P op ρ fun v=>ri v [] []).bind K.run:=by intro op;rw[tF,tF X.P op ρ (fun v=>ri v [] []),MB];rfl
 unfold ekI;generalize o.op=op;split;{unfold bK;repeat' (first|rfl|split)};{repeat' (first|rfl|split)};{repeat' (first|rfl|split)};{repeat' (first|rfl|split)};{repeat' (first|rfl|split)};{repeat' (first|rfl|split)};{repeat' (first|rfl|split)};{split;{split;{split;{rw[tD,tD _ _ (fun r=>ri _ [] []),MB];rfl};{rfl}};{rfl}};{rfl}};{split;{rfl};{split;{exact q5O ..};{rfl}};{split;{split;{rw[tC,tC X.P s _ _ (fun v=>ri v [] []),MB];rfl};{exact pv _}};{exact pv _}};{exact pv _}};{split;{rfl};{exact pv _}};{exact pv _}
def rs:KS (V × S):=fun v s=>some (v,s)
def KS.run {R:Type} (K:KS R) (r:V × S):Option R:=K r.1 r.2
def qC {α R:Type} (b:Bool) (x:Option α) (f:α->Option R):(bif b then x.bind f else none)=(bif b then x else none).bind f:=by cases b <;> rfl
def q6l {R:Type} (X:Cx) (m dst:Nat) (o:Oper) (ρ:Operand->V) (s:S) (K:KS R):ekT X m dst o ρ s K=(ekT X m dst o ρ s rs).bind K.run:=by
 unfold ekT;split;{repeat' (first|rfl|exact qC _ (rs _ _) K.run|split)};{repeat' (first|rfl|exact qC _ (rs _ _) K.run|split)};{repeat' (first|rfl|split)};{repeat' (first|rfl|split)}
 ·split
  ·split
   ·split
    ·split
     ·split
      ·split
       ·rename_i b _;cases b;{rfl}
        ·simp only[cond_true];rw[Km,Km X.P s _ _ _ _ (fun ys=>if(_+ys.length)*_<=140737488355328/\_ then rs _ _ else none),MB];congr 1;funext ys
         repeat' (first|rfl|split)
       ·rfl
      ·rfl
     ·split
      ·split
       ·split
        ·split
         ·rw[Km,Km X.P s _ _ _ _ (fun ys=>if _/\_ then rs _ _ else none),MB];congr 1;funext ys
          repeat' (first|rfl|split)
         ·rfl
        ·rfl
       ·rfl
      ·rfl
     ·rfl
    ·rfl
   ·rfl
  ·split
   ·split
    ·split
     ·split
      ·split
       ·split;{split;{split;{split;{rw[Km,Km X.P s _ _ _ _ (fun ys=>rs _ _),MB];rfl};{rfl}};{rfl}};{rfl}};{rfl}
       ·rfl
      ·rfl
     ·rfl
    ·rfl
   ·rfl
  ·rfl
 ·rfl
def Vi {X:Cx} {m dst:Nat} {o:Oper} {ρ:Operand->V} {s:S} {R:Type} {r:R} {Kr:K3 R} (h:ekI X m dst o ρ s Kr=some r):
  ∃v lo tn,Kr v lo tn=some r/\∀A',leA s.A A'->∀(md:List (Nat × Nat)) (base:S),Bu md dst=m->∀K:V->List (Key × O)->List (Nat × Option Nat)->Prop,K v lo tn->iop X md base dst o ρ (s.wA A') K:=by
 rw[q5Z]at h;cases h1:ekI X m dst o ρ s ri with
 |none=>rw[h1]at h;cases h
 |some x=>
  obtain⟨v,lo,tn⟩:=x;rw[h1]at h;refine⟨v,lo,tn,h,fun A' hA md base hm K hK=>q50 hm hA h1 fun v' lo' tn' e=>?_⟩;simp only[ri,ek,gm]at e;obtain⟨rfl,rfl,rfl⟩:=e;exact hK
def bL {X:Cx} {m dst:Nat} {o:Oper} {ρ:Operand->V} {s:S} {R:Type} {r:R} {Kr:KS R} (h:ekT X m dst o ρ s Kr=some r):
  ∃v s1,Kr v s1=some r/\∀A',leA s.A A'->∀(md:List (Nat × Nat)),Bu md dst=m->∀K:V->S->Prop,K v (s1.wA A')->top X md dst o ρ (s.wA A') K:=by
 rw[q6l]at h;cases h1:ekT X m dst o ρ s rs with
 |none=>rw[h1]at h;cases h
 |some x=>
  obtain⟨v,s1⟩:=x;rw[h1]at h;refine⟨v,s1,h,fun A' hA md hm K hK=>q6m hm hA h1 fun v' s' e=>?_⟩;simp only[rs,ek,gm]at e;obtain⟨rfl,rfl⟩:=e;exact hK
abbrev Dq (R:Type):=FuncId->List V->(Key->Option O)->(V->List (Key × O)->Option R)->Option R
def JG (X:Cx) {R:Type} (call:Dq R):Prop:=∀f xs A Kr r,call f xs A Kr=some r->∃v L,Bo X f xs A v L/\Kr v L=some r
def LK {R:Type} (tip:Bool) (s:S):List V->Option R->Option R
 | [],r=>r|x::xs,r=>match x with| .sl _ _ cs t=>bif tip then(match s.live t with|some m=>bif bw m cs.length then LK tip s xs r else none|none=>LK tip s xs r)else LK tip s xs r|_=>LK tip s xs r
def Nf (P:Program) (tip:Bool) (s:S) (T:TypeId) (x:V):V:=
 match x with
 | .sl eb e cs t=>bif tip then(match s.live t with|some _=>.ts eb e cs|none=>.d (.slice eb e) (.slice cs))else .d (.slice eb e) (.slice cs)|x=>DU P tip s T x
def VI (P:Program) (tip:Bool) (s:S):List TypeId->List V->List V
 |T::Ts,x::xs=>Nf P tip s T x::VI P tip s Ts xs|_,_=>[]
def Ng (tip:Bool) (s:S) (x:V):Option (Option Nat):=
 match x with
 | .sl _ _ _ t=>bif tip then(match s.live t with|some _=>some (some t)|none=>none)else none|x=>CH tip s x
def TC (tip:Bool) (s:S):List V->List Nat
 | []=>[]|x::xs=>(match Ng tip s x with|some (some t)=>[t] |_=>[])++TC tip s xs
def S.YM (s:S) (tip:Bool) (ys:List V) (d:Nat) (v:V) (L:List (Key × O)):S:=Gp d (v.tkR 2000) (GK (TC tip s ys) (Fu d L s))
def gB {R:Type} {P:Program} {tip:Bool} {s:S} {r0:Option R} {r:R}:∀{ys:List V},LK tip s ys r0=some r->
  r0=some r/\TC tip s ys=CR tip s ys/\∀Ts,VI P tip s Ts ys=CU P tip s Ts ys
 | [],h=>⟨h,rfl,fun Ts=>by cases Ts <;> rfl⟩|x::xs,h=>by
  suffices hs:LK tip s xs r0=some r/\Ng tip s x=CH tip s x/\∀T,Nf P tip s T x=DU P tip s T x by
   obtain⟨h1,h2,h3⟩:=hs;obtain⟨g1,g2,g3⟩:=gB (P:=P) h1;refine⟨g1,by simp only[TC,CR,h2,g2];rfl,fun Ts=>?_⟩;cases Ts with
   |nil=>rfl|cons T Ts=>simp only[VI,CU,h3,g3]
  unfold LK at h;split at h
  ·rename_i eb e cs t;cases tip with
   |false=>exact⟨h,by simp[Ng,CH],fun T=>by simp[Nf,DU]⟩|true=>
    simp only[cond_true]at h;split at h
    ·rename_i m hm;cases hb:bw m cs.length with
     |false=>rw[hb]at h;cases h
     |true=>
      rw[hb]at h;have:=fj hb;subst this;exact⟨h,by simp[Ng,CH,hm],fun T=>by simp[Nf,DU,hm]⟩
    ·rename_i hm;exact⟨h,by simp[Ng,CH,hm],fun T=>by simp[Nf,DU,hm]⟩
  ·rename_i hx;refine⟨h,?_,fun T=>?_⟩;{unfold Ng;split;{exact absurd rfl (hx _ _ _ _)};{rfl}};{unfold Nf;split;{exact absurd rfl (hx _ _ _ _)};{rfl}}
def Js {R:Type} (X:Cx) (call:Dq R) (tip:Bool) (o:Oper) (ρ:Operand->V) (s:S) (K:V->List (Key × O)->Option R):Option R:=
 match o.op with
 | .call c=>(match c.callee with
  | .value fo=>(match ρ fo with
   | .fn f yp=>LK tip s (EF (c.args.toList.map ρ) yp) (if Hn X.P f=true/\c.argTypes.toList.length=c.args.toList.length/\GX (TC tip s (EF (c.args.toList.map ρ) yp))=true then
      call f (VI X.P tip s (Jp c.argTypes.toList yp) (EF (c.args.toList.map ρ) yp)) s.up K else none)
   |_=>none)
  |_=>none)
 |_=>none
def bG {X:Cx} {R:Type} {call:Dq R} (hc:JG X call) {dst:Nat} {o:Oper} {ρ:Operand->V} {base s B:S} (hB:B=base\/B=base.see s (Ek o ρ)) {r:R} {Kr:V->List (Key × O)->Option R} (h:Js X call false o ρ B Kr=some r):
  ∃v L,Kr v L=some r/\∀A',leA B.A A'->∀(md:List (Nat × Nat)) (K:V->List (Key × O)->List (Nat × Option Nat)->Prop),(HY L=true->K ((v.CY 2000).ren (dn dst) (rk dst)) (dnL dst L) (dnT dst (v.tkR 2000))->iop X md (base.wA A') dst o ρ (s.wA A') K)/\
   (Bu md dst=0->(∀k o,B.obj k=some o->s.obj k=some o)->leA s.A A'->HJ s dst L=true->JC s dst (v.tkR 2000)=true->∀K2:V->S->Prop,K2 ((v.CY 2000).ren (dn dst) (rk dst)) ((s.ret false (Ek o ρ) dst v L).wA A')->top X md dst o ρ (s.wA A') K2):=by
 unfold Js at h;unfold Ek at hB ⊢;unfold iop top;generalize o.op=op at h hB ⊢;split at h
 ·dsimp only;split at h
  ·rename_i e0;simp only[e0]at hB ⊢;split at h
   ·rename_i e1;simp only[e1]at hB ⊢;obtain⟨h,n1,n2⟩:=gB (P:=X.P) h;rw[n1,n2]at h;simp only[au]at h;obtain⟨h1,h⟩:=h;obtain⟨v,L,hD,hr⟩:=hc _ _ _ _ _ h;refine⟨v,L,hr,fun A' hA md K=>⟨fun hl hK=>.inl ⟨h1.1,h1.2.1,B.wA A',v,L,hB.imp (congrArg (S.wA · A')) (congrArg (S.wA · A')),?_,hl,hK⟩,fun hm hb hA2 hg ht K2 hK=>?_⟩⟩;{rw[VJ (s.wA A') B];exact hD.mono (nW hA)}
    ·have hm1:(Bu md dst==1)=false:=by rw[hm];rfl
     rw[hm1];refine⟨h1.1,h1.2.1,by rw[XY];rfl,v,L,?_,WD hA2 hg,nI ht,by rw[lZ];exact hK⟩;rw[VJ (s.wA A') B];refine hD.mono fun k x hk=>nW hA2 k x ?_;simp only[S.up,Option.map_eq_some_iff]at hk ⊢;obtain⟨y,h2,h3⟩:=hk;exact⟨y,hb _ _ h2,h3⟩
   ·cases h
  ·cases h
 ·cases h
def sZ {X:Cx} {R:Type} {call:Dq R} (hc:JG X call) {tip:Bool} {dst:Nat} {o:Oper} {ρ:Operand->V} {s:S} {r:R} {Kr:V->List (Key × O)->Option R} (h:Js X call tip o ρ s Kr=some r):
  ∃v L,Kr v L=some r/\s.YM tip (Ek o ρ) dst v L=s.ret tip (Ek o ρ) dst v L/\(HJ s dst L=true->JC s dst (v.tkR 2000)=true->∀A',leA s.A A'->∀md:List (Nat × Nat),(Bu md dst==1)=tip->∀K2:V->S->Prop,K2 ((v.CY 2000).ren (dn dst) (rk dst)) ((s.ret tip (Ek o ρ) dst v L).wA A')->top X md dst o ρ (s.wA A') K2):=by
 unfold Js at h;unfold Ek;unfold top;generalize o.op=op at h ⊢;split at h;{dsimp only;split at h;{rename_i e0;simp only[e0];split at h;{rename_i e1;simp only[e1];obtain⟨h,n1,n2⟩:=gB (P:=X.P) h;rw[n1,n2]at h;simp only[au]at h;obtain⟨h1,h⟩:=h;obtain⟨v,L,hD,hr⟩:=hc _ _ _ _ _ h;refine⟨v,L,hr,by simp only[e0,S.YM,S.ret,n1],fun hg ht A' hA md hm K2 hK=>?_⟩;rw[hm];refine⟨h1.1,h1.2.1,by rw[iP];exact h1.2.2,v,L,?_,WD hA hg,nI ht,by rw[lZ];exact hK⟩;rw[pT];exact hD.mono (nW hA)};{cases h}};{cases h}};{cases h}
section
abbrev Dc:=FuncId->Option (List V->Option V)
def IY (X:Cx) (ext:Dc):Prop:=∀f g xs v,ext f=some g->g xs=some v->NT X f xs v
def RR (ext:Dc) (o:Oper) (ρ:Operand->V):Option (Option V):=
 match o.op with
 | .call c=>(match c.callee with| .value fo=>(match ρ fo with| .fn f []=>(match ext f with|some g=>some (g (c.args.toList.map ρ))|none=>none)|_=>none)|_=>none)|_=>none
def uL {X ext} (he:IY X ext) {md} {dst:Nat} {o ρ s base v} (h:RR ext o ρ=some (some v)) {K} (hK:K v [] []):
  iop X md base dst o ρ s K:=by
 unfold RR at h;unfold iop;generalize o.op=op at h ⊢;split at h;{dsimp only;split at h;{rename_i e0;simp only[e0];split at h;{rename_i e1;simp only[e1];split at h;{rename_i e2;exact .inr (.inl ⟨by first|rfl|trivial,_,he _ _ _ _ e2 (oh h),hK⟩)};{cases h}};{cases h}};{cases h}};{cases h}
def xE (m:Nat) (o:Oper) (ρ:Operand->V):Bool:=
 match o.op with
 | .store _ _ _| .mapUpdate _ _ _ _=>true| .load _ _=>bw m 1| .box _ x=> !(bw m 5)&& !(ρ x).Ay| .call c=>(match c.callee,c.args.toList with| .builtin .copy,_=>true| .builtin .append,x::_=>(match ρ x with| .sl _ _ _ _=>true| .sr _ _ _ _ _ _ _=>true|_=>false)|_,_=>false)|_=>false
def q7r (o:Oper) (ρ:Operand->V):Bool:=
 match o.op with
 | .load _ x=>(match ρ x with| .yn _ _=>true|_=>false)| .convert _ _ x=>(match ρ x with| .sr _ _ _ _ _ _ _=>false|_=>true)| .alloc _| .box _ _| .makeSlice _ _ _| .makeMap _ _| .lookup _ _ _ _=>false| .call c=>(match c.callee,c.args.toList with| .builtin .append,_=>false| .builtin .copy,_=>false| .builtin .len,x::_=>(match ρ x with| .mp _=>false|_=>true)| .builtin _,_=>true|_,_=>false)|_=>true
def Dz (c:C) (b:Bool):C:=match c with| .bool _=>.bool b|c=>c
def q8M {c:C} {b:Bool} (h:c.toBool=b):Dz c b=c:=by cases c <;> first|rfl|(simp only[C.toBool]at h;subst h;rfl)
def S.lit (s:S) (t:Nat) (c:C) (b:Bool):S:={s with env:=LY s.env t (.d .bool (Dz c b))}
def q1a {α:Type}:∀{l:List (Nat × α)} {t:Nat} {x:α},look l t=some x->LY l t x=l
 | [],t,x,h=>by simp[look]at h
 |(j,y)::l,t,x,h=>by simp only[look]at h;simp only[LY];split;{rename_i e;rw[if_pos e]at h;cases h;rfl};{rename_i e;rw[if_neg e]at h;rw[q1a h]}
def eO {s:S} {t:Nat} {c:C} {b:Bool} (h:s.get t= .d .bool c) (hb:c.toBool=b):s.lit t c b=s:=by
 have:look s.env t=some (.d .bool c):=by
  unfold S.get at h;cases hl:look s.env t with
  |none=>rw[hl]at h;cases h
  |some x=>rw[hl]at h;simp at h;rw[h]
 rw[<-q8M hb]at this;simp only[S.lit,q1a this]
def Ob (ops:Array Oper) (j:Nat):Nat:=(GS ops j).getD 0
def Rf {R:Type} (ops:Array Oper) (s:S) (j:Nat) (want:Bool) (go skip:S->Option R):Option R:=
 match gv ops s j with
 | .d .bool c=>(match want with|true=>bif c.toBool then go (s.lit (Ob ops j) c true)else skip (s.lit (Ob ops j) c false)|false=>bif c.toBool then skip (s.lit (Ob ops j) c true)else go (s.lit (Ob ops j) c false))| .tup []=>skip s|_=>none
def q62 {ops} {s:S} {j:Nat} {c:C} {b:Bool} (h:gv ops s j= .d .bool c) (hb:c.toBool=b):s.lit (Ob ops j) c b=s:=by unfold gv at h;unfold Ob;split at h;{cases h};{rename_i t e;rw[e];exact eO h hb}
def cU {R:Type} {ops:Array Oper} {s:S} {j:Nat} {want:Bool} {go skip:S->Option R} {r:R} (h:Rf ops s j want go skip=some r):(go s=some r/\∀p q:Prop,p->gx (gv ops s j) want p q)\/(skip s=some r/\∀p q:Prop,q->gx (gv ops s j) want p q):=by unfold Rf at h;unfold gx;split at h;{rename_i c hb;simp only[hb];cases hc:c.toBool <;> rw[hc]at h <;> cases want <;> simp only[cond_true,cond_false]at h <;> rw[q62 hb hc]at h;{exact .inl ⟨h,fun p q hp=>⟨fun _=>hp,fun h=>absurd rfl h⟩⟩};{exact .inr ⟨h,fun p q hq=>⟨fun h=>(by cases h),fun _=>hq⟩⟩};{exact .inr ⟨h,fun p q hq=>⟨fun h=>(by cases h),fun _=>hq⟩⟩};{exact .inl ⟨h,fun p q hp=>⟨fun _=>hp,fun h=>absurd rfl h⟩⟩}};{rename_i hb;simp only[hb];exact .inr ⟨h,fun p q hq=>hq⟩};{cases h}
def yV (s:S) (A':Key->Option O) (x:V):Ca (s.wA A') x=Ca s x:=by unfold Ca;split;{split;{rw[LN]};{rfl}};{rfl}
def eJ (A':Key->Option O):∀(js:List Nat) (s:S),Dh js (s.wA A')=(Dh js s).wA A'
 | [],_=>rfl|j::l,s=>by simp only[Dh];rw[<-eJ A' l];congr 1;rw[LN];split;{split <;> rfl};{rfl}
def Vj {R:Type} (X:Cx) (call:Dq R) (o:Oper) (ρ:Operand->V) (s:S) (K:V->Option R):Option R:=
 match o.op with
 | .call c=>(match c.callee with
  | .value fo=>(match ρ fo with
   | .fn f yp=>(match yp with
    | []=>if Hn X.P f=true/\GG (c.args.toList.map fun y=>Fw s (ρ y))=true then
      call f (c.args.toList.map fun y=>Fw s (ρ y)) (fun _=>none) (fun v L=>if L.isEmpty=true/\v.DY=true then K v else none)else none
    |_=>none)
   |_=>none)
  |_=>none)
 |_=>none
def mZ {s:S} {A'} (hA:leA s.A A'):∀(f:Nat) {x:V} {τ:Ty} {c:C},Fe f s x= .d τ c->Fe f (s.wA A') x= .d τ c
 |0,_,_,_,h=>by cases h
 |f+1,x,τ,c,h=>by
  have ih:∀(xs:List V) (cs:List C),Du (xs.map (Fe f s))=some cs->Du (xs.map (Fe f (s.wA A')))=some cs:=by
   intro xs
   induction xs with
   |nil=>exact fun _ h=>h|cons x xs ih=>
    intro cs h;simp only[dy,Du]at h ⊢;rcases q1V s f x with e|⟨τ,c,e⟩;{rw[e]at h;simp[Bp]at h};{rw[mZ hA f e];rw[e]at h;cases e2:Du (xs.map (Fe f s))with|none=>rw[e2]at h;simp[Bp]at h|some cs'=>rw[e2]at h;rw[ih _ e2];exact h}
  cases x <;> (try exact h)
  case agg τ0 xs=>
   simp only[Fe]at h ⊢;split at h;{rename_i cs hcs;rw[ih _ _ hcs];exact h};{cases h}
  case sr k q lo n cp eb e=>
   simp only[Fe]at h ⊢;split at h;{rename_i y ho;rw[Cy hA ho];dsimp only;split at h;{rename_i e2;rw[mZ hA f e2];exact h};{cases h}};{cases h}
def z4o {s:S} {A'} (hA:leA s.A A') {x τ c} (h:Fw s x= .d τ c):Fw (s.wA A') x= .d τ c:=mZ hA _ h
def q1W {s:S} {A'} (hA:leA s.A A'):∀{l:List V},GG (l.map (Fw s))=true->l.map (Fw (s.wA A'))=l.map (Fw s)
 | [],_=>rfl|x::l,h=>by simp only[dy,GG,az]at h;simp only[dy];rw[q1W hA h.2];congr 1;cases hs:Fw s x <;> rw[hs]at h <;> simp at h;exact z4o hA hs
def tH {X:Cx} {R:Type} {call:Dq R} (hc:JG X call) {o:Oper} {ρ:Operand->V} {s:S} {r:R} {Kr:V->Option R} (h:Vj X call o ρ s Kr=some r):
  ∃v,Kr v=some r/\∀A',leA s.A A'->∀(md:List (Nat × Nat)) (base:S) (dst:Nat) (K:V->List (Key × O)->List (Nat × Option Nat)->Prop),K v [] []->iop X md base dst o ρ (s.wA A') K:=by
 unfold Vj at h;unfold iop;generalize o.op=op at h ⊢;split at h
 ·dsimp only;split at h
  ·rename_i c _ fo e0;simp only[e0];split at h
   ·rename_i f yp e1;simp only[e1];split at h
    ·simp only[au]at h;obtain⟨⟨h1,h2⟩,h⟩:=h;obtain⟨v,L,hD,hr⟩:=hc _ _ _ _ _ h;simp only[au]at hr;obtain⟨⟨h3,h4⟩,hr⟩:=hr;have hL:L=[]:=by simpa using h3
     subst hL;refine⟨v,hr,fun A' hA md base dst K hK=>.inr (.inr ⟨by first|rfl|trivial,h1,v,?_⟩)⟩;have e:(c.args.toList.map fun y=>Fw (s.wA A') (ρ y))=c.args.toList.map fun y=>Fw s (ρ y):=by
      have h2':GG ((c.args.toList.map ρ).map (Fw s))=true:=by rw[pc];exact h2
      have:=q1W (A':=A') hA h2';rw[pc,pc]at this;exact this
     rw[e];exact⟨h2,hD,h4,hK⟩
    ·cases h
   ·cases h
  ·cases h
 ·cases h
def wZ (o:Oper) (ρ:Operand->V):Bool:=
 match o.op with
 | .makeInterface _ _=>true| .binOp _ _ _ y _=>Kw y| .convert _ dst x=>(match ρ x with| .d τ _=>(match τ with| .str=> !(bw dst 0)&&true|_=>false)|_=>false)|_=>false
def Vh {R:Type} (X:Cx) (o:Oper) (ρ:Operand->V) (K:V->Option R) (other:Option R):Option R:=
 match o.op with
 | .convert src dst x=>(match Ql X.P src dst (ρ x)with|some ys=>K (.d (.slice 1 (.int .u8)) (.slice ys))|none=>other)| .makeInterface T _=>if Qq X.P T=true then K (.d .iface (.bool true))else none| .binOp op T x y _=>if Kw y=true/\ty X.P T= .iface then(match op,ρ x with| .eql,.d .iface c=>K (.d .bool (.bool c.isNil))| .neq,.d .iface c=>K (.d .bool (.bool (!c.isNil)))|_,_=>none)else none|_=>none
def tA {R:Type} {X:Cx} {o:Oper} {ρ:Operand->V} {r:R} {Kr:V->Option R} {other:Option R} (h:Vh X o ρ Kr other=some r):
  (∃v,Kr v=some r/\∀K:V->Prop,K v->fop X o ρ K)\/other=some r:=by
 unfold Vh at h;unfold fop;generalize o.op=op at h ⊢;split at h;{dsimp only;split at h;{rename_i e0;simp only[e0];exact .inl ⟨_,h,fun K hK=>hK⟩};{exact .inr h}};{simp only[au]at h;exact .inl ⟨_,h.2,fun K hK=>⟨h.1,hK⟩⟩};{simp only[au]at h;obtain⟨h1,h⟩:=h;split at h;{rename_i e0;simp only[e0];exact .inl ⟨_,h,fun K hK=>⟨h1.1,h1.2,hK⟩⟩};{rename_i e0;simp only[e0];exact .inl ⟨_,h,fun K hK=>⟨h1.1,h1.2,hK⟩⟩};{cases h}};{cases h}
def xB (m:Nat) (o:Oper):Bool:=
 match o.op with
 | .slice _ _ _ _ _=>bw m 4|_=>false
def bJ {R:Type} (X:Cx) (dst:Nat) (o:Oper) (ρ:Operand->V) (s:S) (K:KS R):Option R:=
 match o.op with
 | .slice T x lo hi mx=>if s.known dst=false/\hi.isSome=true/\mx.isSome=true then(match ty X.P T with| .slice eb e=>(match(ρ x).Ej with|some (eb',e',cs)=>(match CD (lo.map ρ) 0,CD (hi.map ρ) 0,CD (mx.map ρ) 0 with|some l,some h,some m=>if eb'=eb/\e'=e/\l=0 then(if 0<=h/\h=m/\m<=cs.length then K (.sl eb e (cs.take h.toNat) dst) {s with tk:=(dst,some (cs.take h.toNat).length)::s.tk} else none)else none|_,_,_=>none)|none=>none)|_=>none)else none|_=>none
def q6e {R:Type} {X:Cx} {dst:Nat} {o:Oper} {ρ:Operand->V} {s:S} {r:R} {Kr:KS R} (h:bJ X dst o ρ s Kr=some r):
  ∃v s1,Kr v s1=some r/\∀A',∀md:List (Nat × Nat),Bu md dst=4->∀K:V->S->Prop,K v (s1.wA A')->sl3 X md dst o ρ (s.wA A') K:=by
 unfold bJ at h;unfold sl3;generalize o.op=op at h ⊢;split at h;{simp only[au]at h;obtain⟨h1,h⟩:=h;dsimp only;split at h;{rename_i e0;simp only[e0];split at h;{rename_i e1;simp only[e1];split at h;{rename_i e2 e3 e4;simp only[e2,e3,e4];simp only[au]at h;obtain⟨h2,h3,h⟩:=h;exact⟨_,_,h,fun A' md hm K hK=>⟨hm,h1.1,h1.2.1,h1.2.2,h2.1,h2.2.1,h2.2.2,h3.1,h3.2.1,h3.2.2,hK⟩⟩};{cases h}};{cases h}};{cases h}};{cases h}
def OS {R:Type} (X:Cx) (call:Dq R) (ext:Dc) (m:Nat) (o:Oper) (ρ:Operand->V) (s:S) (K:KS R):Option R:=
 if dJ o=true then
  (match RR ext o ρ with
  |some r=>(match r with|some v=>if m=0 then K v s else none|none=>none)|none=>if bw m 8=true then Vj X call o ρ s (fun v=>K v s)else Js X call (m==1) o ρ s fun v L=>if HJ s (Ab o) L=true/\JC s (Ab o) (v.tkR 2000)=true then K ((v.CY 2000).ren (dn (Ab o)) (rk (Ab o))) (s.YM (m==1) (Ek o ρ) (Ab o) v L)else none)
 else if xE m o ρ=true then ekT X m (Ab o) o ρ s K
 else ekI X m (Ab o) o ρ s fun v lo tn=>if bw m 1=false/\Ez s lo=true/\Kq s tn=true then K v (s.add lo tn)else none
def RO {R:Type} (X:Cx) (call:Dq R) (ext:Dc) (m:Nat) (o:Oper) (s:S) (K:KS R):Option R:=
 if bw m 100=true then OS X call ext 0 o (fun y=>Ca s (Ak X.gl s y)) (Dh (GV (o.op.operands.toList.map (Ak X.gl s))) s) K
 else if wZ o (Ak X.gl s)=true then Vh X o (Ak X.gl s) (fun v=>K v s) (OS X call ext m o (Ak X.gl s) s K)
 else if xB m o=true then bJ X (Ab o) o (Ak X.gl s) s K
 else OS X call ext m o (Ak X.gl s) s K
section
variable {X:Cx} {R:Type} {call:Dq R} {ext:Dc} (hc:JG X call) (he:IY X ext)
include hc he
def tI {m:Nat} {o:Oper} {ρ:Operand->V} {s:S} {Kr:KS R} {r:R} (h:OS X call ext m o ρ s Kr=some r):
  ∃v s1,Kr v s1=some r/\∀A',leA s.A A'->∀md:List (Nat × Nat),Bu md (Ab o)=m->∀K:V->S->Prop,K v (s1.wA A')->
   (m≠1/\iop X md (s.wA A') (Ab o) o ρ (s.wA A') (fun v lo tn=>FR (s.wA A') lo/\FT (s.wA A') tn/\K v ((s.wA A').add lo tn)))\/top X md (Ab o) o ρ (s.wA A') K:=by
 unfold OS at h;split at h;{split at h;{rename_i x e0;split at h;{simp only[au]at h;obtain⟨h1,h⟩:=h;exact⟨_,_,h,fun A' hA md hm K hK=>.inl ⟨by rw[h1];decide,uL he e0 ⟨trivial,trivial,hK⟩⟩⟩};{cases h}};{split at h;{rename_i hm8;have hm8:m=8:=fj hm8;obtain⟨v,h1,h2⟩:=tH hc h;exact⟨_,_,h1,fun A' hA md hm K hK=>.inl ⟨by rw[hm8];decide,h2 A' hA md _ _ _ ⟨trivial,trivial,hK⟩⟩⟩};obtain⟨v,L,h1,hq,h2⟩:=sZ (dst:=Ab o) hc h;rw[hq]at h1;simp only[au]at h1;obtain⟨⟨h3,h4⟩,h1⟩:=h1;exact⟨_,_,h1,fun A' hA md hm K hK=>.inr (h2 h3 h4 A' hA md (by rw[hm]) K hK)⟩}};{split at h;{obtain⟨v,s1,h1,h2⟩:=bL h;exact⟨v,s1,h1,fun A' hA md hm K hK=>.inr (h2 A' hA md hm K hK)⟩};{obtain⟨v,lo,tn,h1,h2⟩:=Vi h;simp only[au]at h1;obtain⟨⟨h3,h4,h5⟩,h1⟩:=h1;refine⟨v,_,h1,fun A' hA md hm K hK=>.inl ⟨?_,h2 A' hA md _ hm _ ⟨Rb h4,Rc h5,hK⟩⟩⟩;intro e;subst e;simp at h3}}
def q6i {m:Nat} {o:Oper} {s:S} {Kr:KS R} {r:R} (h:RO X call ext m o s Kr=some r):
  ∃v s1,Kr v s1=some r/\∀A',leA s.A A'->∀md:List (Nat × Nat),Bu md (Ab o)=m->∀K:V->S->Prop,K v (s1.wA A')->sop X md (Ab o) o (s.wA A') K:=by
 unfold RO at h;split at h
 ·rename_i z6I;have z6I:m=100:=fj z6I;obtain⟨v,s1,h1,h2⟩:=tI hc he h;refine⟨v,s1,h1,fun A' hA md hm K hK=>.inl ⟨by rw[hm,z6I],?_⟩⟩;have hA2:leA (Dh (GV (o.op.operands.toList.map (Ak X.gl s))) s).A A':=by rw[(SE _ s).2];exact hA
  have:=h2 A' hA2 [] rfl K hK;unfold zX;simp only[Eu,yV,eJ];exact this.imp (fun h=>h.2) id
 ·have normal:OS X call ext m o (Ak X.gl s) s Kr=some r->∃v s1,Kr v s1=some r/\∀A',leA s.A A'->∀md:List (Nat × Nat),Bu md (Ab o)=m->∀K:V->S->Prop,K v (s1.wA A')->sop X md (Ab o) o (s.wA A') K:=by intro h;obtain⟨v,s1,h1,h2⟩:=tI hc he h;refine⟨v,s1,h1,fun A' hA md hm K hK=>.inr ?_⟩;have:=h2 A' hA md hm K hK;simp only[Eu];rw[hm];exact this.imp id .inl
  split at h;{rcases tA h with⟨v,h1,h2⟩|h;{refine⟨v,s,h1,fun A' hA md hm K hK=>.inr (.inr (.inr ?_))⟩;rw[Eu];exact .inl (h2 _ hK)};{exact normal h}}
  ·split at h
   ·rename_i hsl;obtain⟨v,s1,h1,h2⟩:=q6e h;have hm4:m=4:=by unfold xB at hsl;split at hsl;{exact fj hsl};{cases hsl}
    refine⟨v,s1,h1,fun A' hA md hm K hK=>.inr (.inr (.inr (.inr ?_)))⟩;rw[Eu];exact h2 A' md (hm.trans hm4) K hK
   ·exact normal h
end
end
section
def MO {R:Type} (X:Cx) (call:Dq R) (ext:Dc) (ops:Array Oper) (yq:List Nat) (tbl:List (Nat × Nat)):List Oper->S->(List (Nat × Nat)->S->Option R)->Option R
 | [],s,K=>K [] s|o::rest,s,K=>
  match o.guard with
  |none=>RO X call ext (CQ yq tbl o (Ak X.gl s) s) o s fun v s1=>MO X call ext ops yq tbl rest ((s1.wA s.A).set o.dst v) fun ml s2=>K ((Ab o,CQ yq tbl o (Ak X.gl s) s)::ml) s2
  |some (j,want)=>Rf ops s j want (fun s=>RO X call ext (CQ yq tbl o (Ak X.gl s) s) o s fun v s1=>MO X call ext ops yq tbl rest ((s1.wA s.A).set o.dst v) fun ml s2=>K ((Ab o,CQ yq tbl o (Ak X.gl s) s)::ml) s2)
    (fun s=>MO X call ext ops yq tbl rest (s.set o.dst (.tup [])) K)
def J6:∀(n:Nat) {loc} (ks:List Key),∀p∈Jf n loc ks,AR loc p.1=some p.2
 |0,_,_,p,hp=>by simp[Jf]at hp
 |n+1,loc,ks,p,hp=>by simp only[Jf,List.mem_flatMap]at hp;obtain⟨k,h1,hp⟩:=hp;split at hp;{rename_i o ho;rcases List.mem_cons.1 hp with rfl|hp;{exact ho};{split at hp;{exact J6 n _ p hp};{simp at hp}}};{simp at hp}
def KT (base s:S) (xs:List V):S:=bif (V.Gm xs).all (fun k=>(base.obj k).isSome)then base else base.see s xs
def YX (base s:S) (xs:List V):KT base s xs=base\/KT base s xs=base.see s xs:=by unfold KT;cases(V.Gm xs).all _;{exact .inr rfl};{exact .inl rfl}
def YW (base s:S) (xs:List V):(KT base s xs).A=base.A:=by rcases YX base s xs with h|h <;> rw[h] <;> rfl
def q1I {base s:S} {xs} (hb:∀k o,base.obj k=some o->s.obj k=some o) (k:Key) (o:O) (h:(KT base s xs).obj k=some o):s.obj k=some o:=by
 rcases YX base s xs with e|e <;> rw[e]at h;{exact hb k o h}
 ·unfold S.obj S.see Bx at h;simp only[LH]at h;cases hl:AR (Jf 3 s.loc (V.Gm xs)) k with
  |some o'=>
   rw[hl]at h;cases h;exact zI (J6 3 _ (k,o) (eY hl))
  |none=>
   rw[hl]at h;exact hb k o h
def ekK {R:Type} (X:Cx) (call:Dq R) (ext:Dc) (m:Nat) (o:Oper) (base s:S) (K:RD->Option R):Option R:=
 if dJ o=true then
  (match RR ext o (Ak X.gl s)with
  |some r=>(match r with|some v=>K (.k0 v)|none=>none)
  |none=>if bw m 8=true then Vj X call o (Ak X.gl s) s (fun v=>K (.k1 v [] []))else if bw m 7=true then Js X call false o (Ak X.gl s) s00 fun v L=>if LL L (v.tkR 2000)=true then K (.k0 ((v.CY 2000).ren (dn (Ab o)) (rk (Ab o))))else none else(match m with
   |0=>Js X call false o (Ak X.gl s) (KT base s (Ek o (Ak X.gl s))) fun v L=>if HY L=true then(if Ez s (dnL (Ab o) L)=true/\Kq s (dnT (Ab o) (v.tkR 2000))=true then K (.k1 ((v.CY 2000).ren (dn (Ab o)) (rk (Ab o))) (dnL (Ab o) L) (dnT (Ab o) (v.tkR 2000)))else none)
      else if HJ s (Ab o) L=true/\JC s (Ab o) (v.tkR 2000)=true then K (.k2 ((v.CY 2000).ren (dn (Ab o)) (rk (Ab o))) (s.ret false (Ek o (Ak X.gl s)) (Ab o) v L))else none
   |m=>Js X call (m==1) o (Ak X.gl s) s fun v L=>if HJ s (Ab o) L=true/\JC s (Ab o) (v.tkR 2000)=true then K (.k2 ((v.CY 2000).ren (dn (Ab o)) (rk (Ab o))) (s.YM (m==1) (Ek o (Ak X.gl s)) (Ab o) v L))else none))
 else if xE m o (Ak X.gl s)=true then ekT X m (Ab o) o (Ak X.gl s) s fun v s1=>K (.k2 v s1)
 else if wZ o (Ak X.gl s)=true then Vh X o (Ak X.gl s) (fun v=>K (.k0 v)) (ekI X m (Ab o) o (Ak X.gl s) s00 fun v lo tn=>if LL lo tn=true then K (.k0 v)else none)
 else if(q7r o (Ak X.gl s)&& !(bw m 4||bw m 20))=true then ekI X m (Ab o) o (Ak X.gl s) s00 fun v lo tn=>if LL lo tn=true then K (.k0 v)else none
 else ekI X m (Ab o) o (Ak X.gl s) s fun v lo tn=>if Ez s lo=true/\Kq s tn=true then K (.k1 v lo tn)else none
def HD {R:Type} (X:Cx) (call:Dq R) (ext:Dc) (ops:Array Oper) (yq:List Nat) (tbl:List (Nat × Nat)):List Oper->S->S->(List (Nat × Nat)->List Nat->S->Option R)->Option R
 | [],_,s,K=>K [] [] s|o::rest,base,s,K=>
  match o.guard with
  |none=>ekK X call ext (CQ yq tbl o (Ak X.gl s) s) o base s fun r=>match r with| .k0 v=>HD X call ext ops yq tbl rest base (s.set o.dst v) fun ml ts s2=>K ((Ab o,CQ yq tbl o (Ak X.gl s) s)::ml) (0::ts) s2| .k1 v lo tn=>HD X call ext ops yq tbl rest base ((s.add lo tn).set o.dst v) fun ml ts s2=>K ((Ab o,CQ yq tbl o (Ak X.gl s) s)::ml) (1::ts) s2| .k2 v s1=>HD X call ext ops yq tbl rest ((s1.wA s.A).set o.dst v) ((s1.wA s.A).set o.dst v) fun ml ts s2=>K ((Ab o,CQ yq tbl o (Ak X.gl s) s)::ml) (2::ts) s2
  |some (j,want)=>Rf ops s j want (fun s=>ekK X call ext (CQ yq tbl o (Ak X.gl s) s) o base s fun r=>match r with
    | .k0 v=>HD X call ext ops yq tbl rest base (s.set o.dst v) fun ml ts s2=>K ((Ab o,CQ yq tbl o (Ak X.gl s) s)::ml) (0::ts) s2| .k1 v lo tn=>HD X call ext ops yq tbl rest base ((s.add lo tn).set o.dst v) fun ml ts s2=>K ((Ab o,CQ yq tbl o (Ak X.gl s) s)::ml) (1::ts) s2| .k2 v s1=>HD X call ext ops yq tbl rest ((s1.wA s.A).set o.dst v) ((s1.wA s.A).set o.dst v) fun ml ts s2=>K ((Ab o,CQ yq tbl o (Ak X.gl s) s)::ml) (2::ts) s2)
    (fun s=>HD X call ext ops yq tbl rest base (s.set o.dst (.tup [])) fun ml ts s2=>K ml (0::ts) s2)
section
variable {X:Cx} {R:Type} {call:Dq R} {ext:Dc} (hc:JG X call) (he:IY X ext)
include hc he
def bH {ops} {yq:List Nat} {tbl r}:∀(l:List Oper) (s:S) {K:List (Nat × Nat)->S->Option R},MO X call ext ops yq tbl l s K=some r->
  ∃ml s2,K ml s2=some r/\s2.A=s.A/\∀A',leA s.A A'->∀md:List (Nat × Nat),(∀p∈ml,Bu md p.1=p.2)->∀Φ:S->Prop,Φ (s2.wA A')->vc X md ops Φ l (s.wA A')
 | [],s,K,h=>⟨_,_,h,rfl,fun A' hA md hm Φ hΦ=>hΦ⟩|o::rest,s,K,h=>by
  have go:(RO X call ext (CQ yq tbl o (Ak X.gl s) s) o s fun v s1=>MO X call ext ops yq tbl rest ((s1.wA s.A).set o.dst v) fun ml s2=>K ((Ab o,CQ yq tbl o (Ak X.gl s) s)::ml) s2)=some r->
    ∃ml s2,K ml s2=some r/\s2.A=s.A/\∀A',leA s.A A'->∀md:List (Nat × Nat),(∀p∈ml,Bu md p.1=p.2)->∀Φ:S->Prop,Φ (s2.wA A')->sop X md (Ab o) o (s.wA A') fun v s'=>vc X md ops Φ rest (s'.set o.dst v):=by
   intro h;obtain⟨v,s1,h1,h2⟩:=q6i hc he h;obtain⟨ml,s2,h3,h4,h5⟩:=bH rest _ h1;refine⟨_,s2,h3,by rw[h4,Cc];rfl,fun A' hA md hm Φ hΦ=>h2 A' hA md (hm (Ab o,_) (fl ..)) _ ?_⟩;have:=h5 A' (by rw[Cc];exact hA) md (fun p hp=>hm p (ez _ hp)) Φ hΦ;rw[<-Iy]at this;exact this
  simp only[MO]at h;simp only[vc];cases hg:o.guard with
  |none=>
   rw[hg]at h;exact go h
  |some jw=>
   obtain⟨j,want⟩:=jw;rw[hg]at h;dsimp only at h ⊢;simp only[dA];rcases cU h with⟨h1,h2⟩|⟨h1,h2⟩;{obtain⟨ml,s2,h3,h4,h5⟩:=go h1;exact⟨ml,s2,h3,h4,fun A' hA md hm Φ hΦ=>h2 _ _ (h5 A' hA md hm Φ hΦ)⟩};{obtain⟨ml,s2,h3,h4,h5⟩:=bH rest _ h1;refine⟨ml,s2,h3,by rw[h4,Cc],fun A' hA md hm Φ hΦ=>h2 _ _ ?_⟩;rw[Iy];exact h5 A' (by rw[Cc];exact hA) md hm Φ hΦ}
def tB {m:Nat} {o:Oper} {base s:S} (hb:∀k o,base.obj k=some o->s.obj k=some o) (hAb:base.A=s.A) {Kr:RD->Option R} {r:R} (h:ekK X call ext m o base s Kr=some r):
  ∃rd,Kr rd=some r/\(∀v lo tn,rd= .k1 v lo tn->Ez s lo=true)/\∀A',leA s.A A'->∀md:List (Nat × Nat),Bu md (Ab o)=m->∀(K0:V->Prop) (K1:V->List (Key × O)->List (Nat × Option Nat)->Prop) (K2:V->S->Prop),RD.post s A' K0 K1 K2 rd->kop X md (some rd.kind) (base.wA A') (s.wA A') o K0 K1 K2:=by
 have z6x:∀A',leA s.A A'->leA base.A A':=fun A' hA=>by rw[hAb];exact hA
 unfold ekK at h;split at h
 ·split at h;{rename_i x e0;split at h;{refine⟨_,h,fun _ _ _ e=>(by cases e),fun A' hA md hm K0 K1 K2 hK=>?_⟩;simp only[kop,oq];rw[Eu];exact .inl (uL he e0 ⟨rfl,rfl,hK⟩)};{cases h}}
  ·split at h;{obtain⟨v,h1,h2⟩:=tH hc h;refine⟨_,h1,fun v' lo' tn' e=>(by cases e;rfl),fun A' hA md hm K0 K1 K2 hK=>?_⟩;simp only[kop,oq];rw[Eu];exact h2 A' hA md _ _ _ (hK trivial trivial rfl)};split at h;{obtain⟨v,L,h1,h2⟩:=bG (dst:=Ab o) (s:=s00) (base:=s00) hc (.inl rfl) h;simp only[au]at h1;obtain⟨h3,h1⟩:=h1;simp only[LL,az,qs]at h3;refine⟨_,h1,fun _ _ _ e=>(by cases e),fun A' hA md hm K0 K1 K2 hK=>?_⟩;simp only[kop,oq];rw[Eu];have:=(h2 s00.A (fun _ _ h=>h) md fun v lo tn=>lo=[]/\tn=[]/\K0 v).1 (by rw[h3.1];rfl) ⟨by rw[h3.1];rfl,by rw[h3.2];rfl,hK⟩;exact .inl this};split at h
   ·obtain⟨v,L,h1,h2⟩:∃v L,(if HY L=true then(if Ez s (dnL (Ab o) L)=true/\Kq s (dnT (Ab o) (v.tkR 2000))=true then Kr (.k1 ((v.CY 2000).ren (dn (Ab o)) (rk (Ab o))) (dnL (Ab o) L) (dnT (Ab o) (v.tkR 2000)))else none)
      else if HJ s (Ab o) L=true/\JC s (Ab o) (v.tkR 2000)=true then Kr (.k2 ((v.CY 2000).ren (dn (Ab o)) (rk (Ab o))) (s.ret false (Ek o (Ak X.gl s)) (Ab o) v L))else none)=some r/\∀A',leA (KT base s (Ek o (Ak X.gl s))).A A'->∀(md:List (Nat × Nat)) (K:V->List (Key × O)->List (Nat × Option Nat)->Prop),(HY L=true->K ((v.CY 2000).ren (dn (Ab o)) (rk (Ab o))) (dnL (Ab o) L) (dnT (Ab o) (v.tkR 2000))->iop X md (base.wA A') (Ab o) o (Ak X.gl s) (s.wA A') K)/\
   (Bu md (Ab o)=0->(∀k o',(KT base s (Ek o (Ak X.gl s))).obj k=some o'->s.obj k=some o')->leA s.A A'->HJ s (Ab o) L=true->JC s (Ab o) (v.tkR 2000)=true->∀K2:V->S->Prop,K2 ((v.CY 2000).ren (dn (Ab o)) (rk (Ab o))) ((s.ret false (Ek o (Ak X.gl s)) (Ab o) v L).wA A')->top X md (Ab o) o (Ak X.gl s) (s.wA A') K2):=
     bG hc (YX base s _) h
    split at h1;{rename_i hl;simp only[au]at h1;obtain⟨h3,h1⟩:=h1;refine⟨_,h1,fun v' lo' tn' e=>(by cases e;exact h3.1),fun A' hA md hm K0 K1 K2 hK=>?_⟩;simp only[kop,oq];rw[Eu];exact(h2 A' (by rw[YW];exact z6x A' hA) md K1).1 hl (hK (Rb h3.1) (Rc h3.2) h3.1)};{simp only[au]at h1;obtain⟨h3,h1⟩:=h1;refine⟨_,h1,fun _ _ _ e=>(by cases e),fun A' hA md hm K0 K1 K2 hK=>?_⟩;simp only[kop,oq];rw[Eu];exact(h2 A' (by rw[YW];exact z6x A' hA) md (fun _ _ _=>True)).2 hm (q1I hb) hA h3.1 h3.2 K2 hK}
   ·obtain⟨v,L,h1,hq,h2⟩:=sZ (dst:=Ab o) hc h;rw[hq]at h1;simp only[au]at h1;obtain⟨h3,h1⟩:=h1;refine⟨_,h1,fun _ _ _ e=>(by cases e),fun A' hA md hm K0 K1 K2 hK=>?_⟩;simp only[kop,oq];rw[Eu];exact h2 h3.1 h3.2 A' hA md (by rw[hm]) K2 hK
 ·split at h;{obtain⟨v,s1,h1,h2⟩:=bL h;refine⟨_,h1,fun _ _ _ e=>(by cases e),fun A' hA md hm K0 K1 K2 hK=>?_⟩;simp only[kop,oq];rw[Eu];exact h2 A' hA md hm K2 hK}
  ·have z7k:(ekI X m (Ab o) o (Ak X.gl s) s00 fun v lo tn=>if LL lo tn=true then Kr (.k0 v)else none)=some r->
     ∃rd,Kr rd=some r/\(∀v lo tn,rd= .k1 v lo tn->Ez s lo=true)/\∀A',leA s.A A'->∀md:List (Nat × Nat),Bu md (Ab o)=m->∀(K0:V->Prop) (K1:V->List (Key × O)->List (Nat × Option Nat)->Prop) (K2:V->S->Prop),RD.post s A' K0 K1 K2 rd->kop X md (some rd.kind) (base.wA A') (s.wA A') o K0 K1 K2:=by
    intro h;obtain⟨v,lo,tn,h1,h2⟩:=Vi h;simp only[au]at h1;obtain⟨h3,h1⟩:=h1;refine⟨_,h1,fun _ _ _ e=>(by cases e),fun A' hA md hm K0 K1 K2 hK=>?_⟩;simp only[kop,oq];rw[Eu];simp only[LL,az,qs]at h3;exact .inl (h2 s00.A (fun _ _ h=>h) md s00 hm _ ⟨h3.1,h3.2,hK⟩)
   split at h;{rcases tA h with⟨v,h1,h2⟩|h;{refine⟨_,h1,fun _ _ _ e=>(by cases e),fun A' hA md hm K0 K1 K2 hK=>?_⟩;simp only[kop,oq];rw[Eu];exact .inr (h2 _ hK)};{exact z7k h}};split at h;{exact z7k h};{obtain⟨v,lo,tn,h1,h2⟩:=Vi h;simp only[au]at h1;obtain⟨h3,h1⟩:=h1;refine⟨_,h1,fun v' lo' tn' e=>(by cases e;exact h3.1),fun A' hA md hm K0 K1 K2 hK=>?_⟩;simp only[kop,oq];rw[Eu];exact h2 A' hA md _ hm _ (hK (Rb h3.1) (Rc h3.2) h3.1)}
def RP {ops} {yq:List Nat} {tbl r}:∀(l:List Oper) (base s:S) {K:List (Nat × Nat)->List Nat->S->Option R},base.A=s.A->(∀k o,base.obj k=some o->s.obj k=some o)->HD X call ext ops yq tbl l base s K=some r->
  ∃ml ts s2,K ml ts s2=some r/\s2.A=s.A/\∀A',leA s.A A'->∀md:List (Nat × Nat),(∀p∈ml,Bu md p.1=p.2)->∀Φ:S->Prop,Φ (s2.wA A')->vd X md ops Φ l ts (base.wA A') (s.wA A')
 | [],base,s,K,hAb,hb,h=>⟨_,_,_,h,rfl,fun A' hA md hm Φ hΦ=>hΦ⟩|o::rest,base,s,K,hAb,hb,h=>by
  have go:(ekK X call ext (CQ yq tbl o (Ak X.gl s) s) o base s fun r=>match r with
    | .k0 v=>HD X call ext ops yq tbl rest base (s.set o.dst v) fun ml ts s2=>K ((Ab o,CQ yq tbl o (Ak X.gl s) s)::ml) (0::ts) s2| .k1 v lo tn=>HD X call ext ops yq tbl rest base ((s.add lo tn).set o.dst v) fun ml ts s2=>K ((Ab o,CQ yq tbl o (Ak X.gl s) s)::ml) (1::ts) s2| .k2 v s1=>HD X call ext ops yq tbl rest ((s1.wA s.A).set o.dst v) ((s1.wA s.A).set o.dst v) fun ml ts s2=>K ((Ab o,CQ yq tbl o (Ak X.gl s) s)::ml) (2::ts) s2)=some r->
    ∃ml ts s2,K ml ts s2=some r/\s2.A=s.A/\∀A',leA s.A A'->∀md:List (Nat × Nat),(∀p∈ml,Bu md p.1=p.2)->∀Φ:S->Prop,Φ (s2.wA A')->kop X md ts.head? (base.wA A') (s.wA A') o (fun v=>vd X md ops Φ rest ts.tail (base.wA A') ((s.wA A').set o.dst v))
    (fun v lo tn=>FR (s.wA A') lo/\FT (s.wA A') tn/\vd X md ops Φ rest ts.tail (base.wA A') (((s.wA A').add lo tn).set o.dst v))
    (fun v s'=>vd X md ops Φ rest ts.tail (s'.set o.dst v) (s'.set o.dst v)):=by
   intro h;obtain⟨rd,h1,hf,h2⟩:=tB hc he hb hAb h;cases rd with
   |k0 v=>
    obtain⟨ml,ts,s2,h3,h4,h5⟩:=RP rest base _ (by rw[Cc];exact hAb) (fun k o' hk=>by rw[IE];exact hb k o' hk) h1;refine⟨_,_,s2,h3,by rw[h4,Cc],fun A' hA md hm Φ hΦ=>h2 A' hA md (hm (Ab o,_) (fl ..)) _ _ _ ?_⟩;have:=h5 A' (by rw[Cc];exact hA) md (fun p hp=>hm p (ez _ hp)) Φ hΦ;rw[<-Iy]at this;exact this
   |k1 v lo tn=>
    have hfr:=hf v lo tn rfl;obtain⟨ml,ts,s2,h3,h4,h5⟩:=RP rest base _ (by rw[Cc];exact hAb) (fun k o' hk=>by rw[IE];exact gL hfr (hb k o' hk)) h1;refine⟨_,_,s2,h3,by rw[h4,Cc];rfl,fun A' hA md hm Φ hΦ=>h2 A' hA md (hm (Ab o,_) (fl ..)) _ _ _ ?_⟩;intro f1 f2 f3;refine⟨f1,f2,?_⟩;have:=h5 A' (by rw[Cc];exact hA) md (fun p hp=>hm p (ez _ hp)) Φ hΦ;rw[<-Iy]at this;exact this
   |k2 v s1=>
    obtain⟨ml,ts,s2,h3,h4,h5⟩:=RP rest ((s1.wA s.A).set o.dst v) ((s1.wA s.A).set o.dst v) rfl (fun _ _ h=>h) h1;refine⟨_,_,s2,h3,by rw[h4,Cc];rfl,fun A' hA md hm Φ hΦ=>h2 A' hA md (hm (Ab o,_) (fl ..)) _ _ _ ?_⟩;have:=h5 A' (by rw[Cc];exact hA) md (fun p hp=>hm p (ez _ hp)) Φ hΦ;rw[<-Iy]at this;exact this
  simp only[HD]at h;simp only[vd];cases hg:o.guard with
  |none=>
   rw[hg]at h;exact go h
  |some jw=>
   obtain⟨j,want⟩:=jw;rw[hg]at h;dsimp only at h ⊢;simp only[dA];rcases cU h with⟨h1,h2⟩|⟨h1,h2⟩;{obtain⟨ml,ts,s2,h3,h4,h5⟩:=go h1;exact⟨ml,ts,s2,h3,h4,fun A' hA md hm Φ hΦ=>h2 _ _ (h5 A' hA md hm Φ hΦ)⟩};{obtain⟨ml,ts,s2,h3,h4,h5⟩:=RP rest base _ (by rw[Cc];exact hAb) (fun k o' hk=>by rw[IE];exact hb k o' hk) h1;refine⟨ml,_,s2,h3,by rw[h4,Cc],fun A' hA md hm Φ hΦ=>h2 _ _ ?_⟩;rw[Iy];exact h5 A' (by rw[Cc];exact hA) md hm Φ hΦ}
end
end
section
def xH:∀(σ:List (Nat × List Nat)) (s:S) (k:Key),(Dy σ s).obj k=s.obj k
 | [],_,_=>rfl|(_,_)::σ,s,k=>(xH σ _ k).trans rfl
def q6n {R:Type} {X:Cx} {m dst:Nat} {o:Oper} {ρ:Operand->V} {s:S} {T:TypeId} {p y:Operand} {k:Key} {q:List Nat} {τ:Ty} (ho:o.op= .store T p y) (hp:ρ p= .ptr k q τ) {K:KS R} {r:R} (h:ekT X m dst o ρ s K=some r):
  ∃v s1,ekT X m dst o ρ s (fun v s1=>some (v,s1))=some (v,s1)/\K v s1=some r/\∀A' j,j≠k->(s1.wA A').obj j=(s.wA A').obj j:=by
 unfold ekT at h ⊢;generalize o.op=op at ho h ⊢;subst ho;dsimp only at h ⊢;generalize ρ p=pv at hp h ⊢;subst hp;dsimp only at h ⊢;have yv:∀(ob:O) (A':Key->Option O) (j:Key),j≠k->((s.put k ob).wA A').obj j=(s.wA A').obj j:=fun ob A' j hj=>by show((s.wA A').put k ob).obj j=_;rw[DN,if_neg (fun e=>hj e.symm)]
 have z7V:∀(ob:O) (t:Nat) (A':Key->Option O) (j:Key),j≠k->(((s.put k ob).tok t none).wA A').obj j=(s.wA A').obj j:=fun ob t A' j hj=>(yv ob A' j hj);generalize s.obj k=ok at h ⊢;cases ok with
 |none=>cases h
 |some ob=>
  cases ob with
  |box x=>
   dsimp only at h ⊢;simp only[au]at h;obtain⟨h1,h⟩:=h;rw[if_pos h1];generalize Bm τ (ρ y)=z at h ⊢;cases z with
   |sl eb e cs t=>
    dsimp only at h ⊢;generalize LF s t cs.length=lv at h ⊢;cases lv with
    |none=>exact⟨_,_,rfl,h,fun A' j hj=>yv _ A' j hj⟩|some b=>
     cases b;{cases h};{exact⟨_,_,rfl,h,fun A' j hj=>z7V _ _ A' j hj⟩}
   |_=>
    dsimp only at h ⊢;generalize V.Gl _ _=nb at h ⊢;cases nb;{cases h};{exact⟨_,_,rfl,h,fun A' j hj=>by rw[<-WQ];exact(xH _ _ _).trans (yv _ A' j hj)⟩}
  |_=>cases h
inductive RF where
 |k0 (v:V)|k1 (v:V) (lo:List (Key × O)) (tn:List (Nat × Option Nat))|k3 (v:V) (s:S)|k4 (v:V)
def RF.kind:RF->Nat
 | .k0 _=>0| .k1 _ _ _=>1| .k3 _ _=>3| .k4 _=>4
def RF.post (s:S) (A':Key->Option O) (K0:V->Prop) (K1:V->List (Key × O)->List (Nat × Option Nat)->Prop) (K2:V->S->Prop):RF->Prop
 | .k0 v=>K0 v| .k1 v lo tn=>FR (s.wA A') lo->FT (s.wA A') tn->Ez s lo=true->K1 v lo tn| .k3 v s1=>K2 v (s1.wA A')| .k4 v=>K0 v
def Z6 (F:List Key) (L:List (Key × O)):Bool:=F.all fun k=>(AR L k).isNone
def noF (F:List Key) (k:Key):Bool:=F.all fun j=>decide (j≠k)
def q15 (o:Oper) (ρ:Operand->V):Option Key:=match o.op with| .store _ p _=>(match ρ p with| .ptr k _ _=>some k|_=>none)|_=>none
def RH {R:Type} (X:Cx) (call:Dq R) (ext:Dc) (F:List Key) (m:Nat) (o:Oper) (base s:S) (K:RF->Option R):Option R:=
 if bw m 19=true then ekI X m (Ab o) o (Ak X.gl s) (sF F s) fun v lo tn=>if LL lo tn=true then K (.k4 v)else none
 else match q15 o (Ak X.gl s)with
 |some k=>if noF F k=true then ekT X m (Ab o) o (Ak X.gl s) s fun v s1=>K (.k3 v s1)else none
 |none=>if dJ o=true/\bw m 0=true/\(RR ext o (Ak X.gl s)).isNone=true then
    Js X call false o (Ak X.gl s) (KT base s (Ek o (Ak X.gl s))) fun v L=>if HY L=true then(if Ez s (dnL (Ab o) L)=true/\Kq s (dnT (Ab o) (v.tkR 2000))=true then K (.k1 ((v.CY 2000).ren (dn (Ab o)) (rk (Ab o))) (dnL (Ab o) L) (dnT (Ab o) (v.tkR 2000)))else none)
      else if Z6 F (dnL (Ab o) L)=true/\HJ s (Ab o) L=true/\JC s (Ab o) (v.tkR 2000)=true then K (.k3 ((v.CY 2000).ren (dn (Ab o)) (rk (Ab o))) (s.ret false (Ek o (Ak X.gl s)) (Ab o) v L))else none
   else ekK X call ext m o base s fun r=>match r with| .k0 v=>K (.k0 v)| .k1 v lo tn=>K (.k1 v lo tn)| .k2 _ _=>none
def z34 {F} {s:S} {A'} (hF:∀k∈F,s.obj k≠none) (hA:leA s.A A'):sF F (s.wA A')=sF F s:=by
 have:∀(G:List Key),(∀k∈G,s.obj k≠none)->G.filterMap (fun k=>((s.wA A').obj k).map fun o=>(k,o))=G.filterMap fun k=>(s.obj k).map fun o=>(k,o):=by
  intro G
  induction G with
  |nil=>intro _;rfl|cons k G ih=>
   intro h;simp only[List.filterMap_cons];have hk:=h k (fl ..);cases ho:s.obj k with
   |none=>exact absurd ho hk|some ob=>
    rw[Cy hA ho,ih fun j hj=>h j (ez _ hj)]
 unfold sF;rw[this F hF]
section
variable {X:Cx} {R:Type} {call:Dq R} {ext:Dc} (hc:JG X call) (he:IY X ext)
include hc he
def q55 {F} {m:Nat} {o} {base s:S} (hb:∀k o,base.obj k=some o->s.obj k=some o) (hAb:base.A=s.A) (hF:∀k∈F,s.obj k≠none) {Kr r} (h:RH X call ext F m o base s Kr=some r):
  ∃rd,Kr rd=some r/\(∀v lo tn,rd= .k1 v lo tn->Ez s lo=true)/\(∀v s1,rd= .k3 v s1->∀A',∀k∈F,(s1.wA A').obj k=(s.wA A').obj k)/\
   ∀A',leA s.A A'->∀md:List (Nat × Nat),Bu md (Ab o)=m->∀(K0:V->Prop) (K1:V->List (Key × O)->List (Nat × Option Nat)->Prop) (K2:V->S->Prop),RF.post s A' K0 K1 K2 rd->JY X F md (some rd.kind) (base.wA A') (s.wA A') o K0 K1 K2:=by
 have z6x:∀A',leA s.A A'->leA base.A A':=fun A' hA=>by rw[hAb];exact hA
 unfold RH at h;split at h;{obtain⟨v,lo,tn,h1,h2⟩:=Vi h;simp only[au]at h1;obtain⟨h3,h1⟩:=h1;refine⟨_,h1,fun _ _ _ e=>(by cases e),fun _ _ e=>(by cases e),fun A' hA md hm K0 K1 K2 hK=>?_⟩;simp only[LL,az,qs]at h3;simp only[JY,RF.kind];rw[Eu,z34 hF hA];exact h2 (sF F s).A (fun _ _ h=>h) md (sF F s) hm _ ⟨h3.1,h3.2,hK⟩}
 ·split at h
  ·rename_i k hk;simp only[au]at h;obtain⟨hn,h⟩:=h;have hn':∀j∈F,j≠k:=by simpa[noF]using hn
   unfold q15 at hk;split at hk;{rename_i T p y ho;split at hk;{rename_i k' q τ hp;cases hk;obtain⟨v,s1,g1,g2,g3⟩:=q6n ho hp h;obtain⟨v',s1',e1,h2⟩:=bL g1;cases e1;refine⟨_,g2,fun _ _ _ e=>(by cases e),fun _ _ e=>(by cases e;exact fun A' j hj=>g3 A' j (hn' j hj)),fun A' hA md hm K0 K1 K2 hK=>?_⟩;simp only[JY,RF.kind];rw[Eu];exact h2 A' hA md hm _ ⟨fun j hj=>g3 A' j (hn' j hj),hK⟩};{cases hk}};{cases hk}
  ·split at h
   ·rename_i hcl;obtain⟨v,L,h1,h2⟩:=bG (dst:=Ab o) hc (YX base s _) h;split at h1;{rename_i hl;simp only[au]at h1;obtain⟨h3,h1⟩:=h1;refine⟨_,h1,fun v' lo' tn' e=>(by cases e;exact h3.1),fun _ _ e=>(by cases e),fun A' hA md hm K0 K1 K2 hK=>?_⟩;simp only[JY,kop,RF.kind];rw[Eu];exact(h2 A' (by rw[YW];exact z6x A' hA) md K1).1 hl (hK (Rb h3.1) (Rc h3.2) h3.1)}
    ·simp only[au]at h1;obtain⟨⟨ho,h3⟩,h1⟩:=h1;have ho':∀k∈F,AR (dnL (Ab o) L) k=none:=by simpa[Z6,Option.isNone_iff_eq_none]using ho
     have kp:∀A',∀k∈F,((s.ret false (Ek o (Ak X.gl s)) (Ab o) v L).wA A').obj k=(s.wA A').obj k:=fun A' k hk=>by rw[<-lZ,q1f];unfold S.back S.obj Bx;simp only[LH,ho' k hk]
     refine⟨_,h1,fun _ _ _ e=>(by cases e),fun _ _ e=>(by cases e;exact kp),fun A' hA md hm K0 K1 K2 hK=>?_⟩;simp only[JY,RF.kind];rw[Eu];exact(h2 A' (by rw[YW];exact z6x A' hA) md (fun _ _ _=>True)).2 (hm.trans (fj hcl.2.1)) (q1I hb) hA h3.1 h3.2 _ ⟨kp A',hK⟩
   ·obtain⟨rd,h1,hf,h2⟩:=tB hc he hb hAb h;cases rd with|k0 v=>exact⟨_,h1,fun _ _ _ e=>(by cases e),fun _ _ e=>(by cases e),fun A' hA md hm K0 K1 K2 hK=>h2 A' hA md hm K0 K1 K2 hK⟩|k1 v lo tn=>exact⟨_,h1,fun _ _ _ e=>(by cases e;exact hf v lo tn rfl),fun _ _ e=>(by cases e),fun A' hA md hm K0 K1 K2 hK=>h2 A' hA md hm K0 K1 K2 hK⟩|k2 v s1=>cases h1
end
def Fk {R:Type} (X:Cx) (call:Dq R) (ext:Dc) (F:List Key) (ops:Array Oper) (yq:List Nat) (tbl:List (Nat × Nat)):List Oper->S->S->(List (Nat × Nat)->List Nat->S->Option R)->Option R
 | [],_,s,K=>K [] [] s|o::rest,base,s,K=>
  match o.guard with
  |none=>RH X call ext F (CQ yq tbl o (Ak X.gl s) s) o base s fun r=>match r with| .k0 v=>Fk X call ext F ops yq tbl rest base (s.set o.dst v) fun ml ts s2=>K ((Ab o,CQ yq tbl o (Ak X.gl s) s)::ml) (0::ts) s2| .k1 v lo tn=>Fk X call ext F ops yq tbl rest base ((s.add lo tn).set o.dst v) fun ml ts s2=>K ((Ab o,CQ yq tbl o (Ak X.gl s) s)::ml) (1::ts) s2| .k3 v s1=>Fk X call ext F ops yq tbl rest ((s1.wA s.A).set o.dst v) ((s1.wA s.A).set o.dst v) fun ml ts s2=>K ((Ab o,CQ yq tbl o (Ak X.gl s) s)::ml) (3::ts) s2| .k4 v=>Fk X call ext F ops yq tbl rest base (s.set o.dst v) fun ml ts s2=>K ((Ab o,CQ yq tbl o (Ak X.gl s) s)::ml) (4::ts) s2
  |some (j,want)=>Rf ops s j want (fun s=>RH X call ext F (CQ yq tbl o (Ak X.gl s) s) o base s fun r=>match r with
    | .k0 v=>Fk X call ext F ops yq tbl rest base (s.set o.dst v) fun ml ts s2=>K ((Ab o,CQ yq tbl o (Ak X.gl s) s)::ml) (0::ts) s2| .k1 v lo tn=>Fk X call ext F ops yq tbl rest base ((s.add lo tn).set o.dst v) fun ml ts s2=>K ((Ab o,CQ yq tbl o (Ak X.gl s) s)::ml) (1::ts) s2| .k3 v s1=>Fk X call ext F ops yq tbl rest ((s1.wA s.A).set o.dst v) ((s1.wA s.A).set o.dst v) fun ml ts s2=>K ((Ab o,CQ yq tbl o (Ak X.gl s) s)::ml) (3::ts) s2| .k4 v=>Fk X call ext F ops yq tbl rest base (s.set o.dst v) fun ml ts s2=>K ((Ab o,CQ yq tbl o (Ak X.gl s) s)::ml) (4::ts) s2)
    (fun s=>Fk X call ext F ops yq tbl rest base (s.set o.dst (.tup [])) fun ml ts s2=>K ml (0::ts) s2)
section
variable {X:Cx} {R:Type} {call:Dq R} {ext:Dc} (hc:JG X call) (he:IY X ext)
include hc he
def OV {F ops} {yq:List Nat} {tbl r}:∀(l:List Oper) (base s:S) {K:List (Nat × Nat)->List Nat->S->Option R},base.A=s.A->(∀k o,base.obj k=some o->s.obj k=some o)->(∀k∈F,s.obj k≠none)->Fk X call ext F ops yq tbl l base s K=some r->
  ∃ml ts s2,K ml ts s2=some r/\s2.A=s.A/\∀A',leA s.A A'->∀md:List (Nat × Nat),(∀p∈ml,Bu md p.1=p.2)->∀Φ:S->Prop,Φ (s2.wA A')->vdF X F md ops Φ l ts (base.wA A') (s.wA A')
 | [],base,s,K,hAb,hb,hF,h=>⟨_,_,_,h,rfl,fun A' hA md hm Φ hΦ=>hΦ⟩|o::rest,base,s,K,hAb,hb,hF,h=>by
  have go:(RH X call ext F (CQ yq tbl o (Ak X.gl s) s) o base s fun r=>match r with
    | .k0 v=>Fk X call ext F ops yq tbl rest base (s.set o.dst v) fun ml ts s2=>K ((Ab o,CQ yq tbl o (Ak X.gl s) s)::ml) (0::ts) s2| .k1 v lo tn=>Fk X call ext F ops yq tbl rest base ((s.add lo tn).set o.dst v) fun ml ts s2=>K ((Ab o,CQ yq tbl o (Ak X.gl s) s)::ml) (1::ts) s2| .k3 v s1=>Fk X call ext F ops yq tbl rest ((s1.wA s.A).set o.dst v) ((s1.wA s.A).set o.dst v) fun ml ts s2=>K ((Ab o,CQ yq tbl o (Ak X.gl s) s)::ml) (3::ts) s2| .k4 v=>Fk X call ext F ops yq tbl rest base (s.set o.dst v) fun ml ts s2=>K ((Ab o,CQ yq tbl o (Ak X.gl s) s)::ml) (4::ts) s2)=some r->
    ∃ml ts s2,K ml ts s2=some r/\s2.A=s.A/\∀A',leA s.A A'->∀md:List (Nat × Nat),(∀p∈ml,Bu md p.1=p.2)->∀Φ:S->Prop,Φ (s2.wA A')->JY X F md ts.head? (base.wA A') (s.wA A') o (fun v=>vdF X F md ops Φ rest ts.tail (base.wA A') ((s.wA A').set o.dst v))
    (fun v lo tn=>FR (s.wA A') lo/\FT (s.wA A') tn/\vdF X F md ops Φ rest ts.tail (base.wA A') (((s.wA A').add lo tn).set o.dst v))
    (fun v s'=>vdF X F md ops Φ rest ts.tail (s'.set o.dst v) (s'.set o.dst v)):=by
   intro h;obtain⟨rd,h1,hf,hk3,h2⟩:=q55 hc he hb hAb hF h;cases rd with
   |k0 v=>
    obtain⟨ml,ts,s2,h3,h4,h5⟩:=OV rest base _ (by rw[Cc];exact hAb) (fun k o' hk=>by rw[IE];exact hb k o' hk) (fun k hk=>by rw[IE];exact hF k hk) h1;refine⟨_,_,s2,h3,by rw[h4,Cc],fun A' hA md hm Φ hΦ=>h2 A' hA md (hm (Ab o,_) (fl ..)) _ _ _ ?_⟩;have:=h5 A' (by rw[Cc];exact hA) md (fun p hp=>hm p (ez _ hp)) Φ hΦ;rw[<-Iy]at this;exact this
   |k1 v lo tn=>
    have hfr:=hf v lo tn rfl
    obtain⟨ml,ts,s2,h3,h4,h5⟩:=OV rest base _ (by rw[Cc];exact hAb) (fun k o' hk=>by rw[IE];exact gL hfr (hb k o' hk)) (fun k hk=>by
     rw[IE];cases ho:s.obj k with
     |none=>exact absurd ho (hF k hk)|some ob=>rw[gL hfr ho];exact fun e=>by cases e) h1
    refine⟨_,_,s2,h3,by rw[h4,Cc];rfl,fun A' hA md hm Φ hΦ=>h2 A' hA md (hm (Ab o,_) (fl ..)) _ _ _ ?_⟩;intro f1 f2 f3;refine⟨f1,f2,?_⟩;have:=h5 A' (by rw[Cc];exact hA) md (fun p hp=>hm p (ez _ hp)) Φ hΦ;rw[<-Iy]at this;exact this
   |k3 v s1=>
    obtain⟨ml,ts,s2,h3,h4,h5⟩:=OV rest ((s1.wA s.A).set o.dst v) ((s1.wA s.A).set o.dst v) rfl (fun _ _ h=>h) (fun k hk=>by
     rw[IE,hk3 v s1 rfl s.A k hk];exact hF k hk) h1
    refine⟨_,_,s2,h3,by rw[h4,Cc];rfl,fun A' hA md hm Φ hΦ=>h2 A' hA md (hm (Ab o,_) (fl ..)) _ _ _ ?_⟩;have:=h5 A' (by rw[Cc];exact hA) md (fun p hp=>hm p (ez _ hp)) Φ hΦ;rw[<-Iy]at this;exact this
   |k4 v=>
    obtain⟨ml,ts,s2,h3,h4,h5⟩:=OV rest base _ (by rw[Cc];exact hAb) (fun k o' hk=>by rw[IE];exact hb k o' hk) (fun k hk=>by rw[IE];exact hF k hk) h1;refine⟨_,_,s2,h3,by rw[h4,Cc],fun A' hA md hm Φ hΦ=>h2 A' hA md (hm (Ab o,_) (fl ..)) _ _ _ ?_⟩;have:=h5 A' (by rw[Cc];exact hA) md (fun p hp=>hm p (ez _ hp)) Φ hΦ;rw[<-Iy]at this;exact this
  simp only[Fk]at h;simp only[vdF];cases hg:o.guard with
  |none=>
   rw[hg]at h;exact go h
  |some jw=>
   obtain⟨j,want⟩:=jw;rw[hg]at h;dsimp only at h ⊢;simp only[dA];rcases cU h with⟨h1,h2⟩|⟨h1,h2⟩;{obtain⟨ml,ts,s2,h3,h4,h5⟩:=go h1;exact⟨ml,ts,s2,h3,h4,fun A' hA md hm Φ hΦ=>h2 _ _ (h5 A' hA md hm Φ hΦ)⟩};{obtain⟨ml,ts,s2,h3,h4,h5⟩:=OV rest base _ (by rw[Cc];exact hAb) (fun k o' hk=>by rw[IE];exact hb k o' hk) (fun k hk=>by rw[IE];exact hF k hk) h1;refine⟨ml,_,s2,h3,by rw[h4,Cc],fun A' hA md hm Φ hΦ=>h2 _ _ ?_⟩;rw[Iy];exact h5 A' (by rw[Cc];exact hA) md hm Φ hΦ}
end
end
section
def q7w (tbl:List (Nat × Nat)):List Key:=tbl.filterMap fun p=>bif bw p.2 19 then(bif Nat.ble 3000000 p.1 then some (.g (.l (p.1-3000000)))else bif Nat.ble 2000000 p.1 then some (.l (p.1-2000000))else none)else none
def bI {R:Type} (X:Cx) (call:Dq R) (ext:Dc) (tbl:List (Nat × Nat)) (n:Nat) (ops:List Oper) (draw:Bool) (s:S) (K:S->Option R):Option R:=
 if ops.all (IG n)=true then
  (match draw with
  |true=>(match q7w tbl with| []=>HD X call ext ops.toArray (VF ops) tbl ops s s fun ml ts s2=>if Oy ml ml=true/\PJ ops ts=true then K s2 else none|k::F=>if(k::F).all (fun k=>(s.obj k).isSome)=true then Fk X call ext (k::F) ops.toArray (VF ops) tbl ops s s fun ml ts s2=>if Oy ml ml=true/\PJ ops (ts.map tK)=true then K s2 else none else none)|false=>MO X call ext ops.toArray (VF ops) tbl ops s fun ml s2=>if Oy ml ml=true then K s2 else none)
 else none
abbrev KE (R:Type):=Exit->S->Option R
def RK {R:Type} (body:S->KE R->Option R) (yv:List Nat):Nat->S->KE R->Option R
 |0,_,_=>none|k+1,s,K=>body s fun e s1=>match e with| .normal=>if gcB yv s1=true then RK body yv k (gcS yv s1) K else none|e=>K e s1
section
variable {X:Cx} {R:Type} {call:Dq R} {ext:Dc} (hP:Aq X.P=true) (hmo:X.P.follows .mixedOrders=true) (hc:JG X call) (he:IY X ext)
def Lr (X:Cx) (n:Nat) (c:Code) (s:S) {R:Type} (r:R) (K:KE R):Prop:=
 ∃e s',K e s'=some r/\s'.A=s.A/\∀A',leA s.A A'->∀Ψ:Exit->S->Prop,Ψ e (s'.wA A')->DC X n c (s.wA A') Ψ
def tE {c} {n:Nat} {yv:List Nat} {body r} (hb:∀s (K:KE R),body s K=some r->Lr X n c s r K):
  ∀(k:Nat) (s:S) (K:KE R),RK body yv k s K=some r->∃e s',K e s'=some r/\s'.A=s.A/\∀A',leA s.A A'->∀Ψ:Exit->S->Prop,Ψ e (s'.wA A')->∀(Γ0:G) (a:Act) (w:World),At X n Γ0 (s.wA A') a w->Code.rounds X.P c (fun e a w=>∃s',Ψ e s'/\At X n Γ0 s' a w) k a w
 |0,s,K,h=>by simp[RK]at h
 |k+1,s,K,h=>by
  simp only[RK]at h;obtain⟨e0,s1,h1,hA1,hD⟩:=hb _ _ h;have z6y:∀(hne:e0≠.normal),K e0 s1=some r->∃e s',K e s'=some r/\s'.A=s.A/\∀A',leA s.A A'->∀Ψ:Exit->S->Prop,Ψ e (s'.wA A')->∀(Γ0:G) (a:Act) (w:World),At X n Γ0 (s.wA A') a w->Code.rounds X.P c (fun e a w=>∃s',Ψ e s'/\At X n Γ0 s' a w) (k+1) a w:=by
   intro hne h1;refine⟨e0,s1,h1,hA1,fun A' hA Ψ hΨ Γ0 a w hat=>?_⟩;rw[rounds_succ];refine wp_mono (hD A' hA (fun e1 s2=>e1=e0/\s2=s1.wA A') ⟨rfl,rfl⟩ Γ0 a w hat) ?_;rintro e1 a1 w1 ⟨s2,⟨rfl,rfl⟩,z6m⟩;cases e1 with
   |normal=>exact absurd rfl hne|exit _|goto _|ret|panic _|outgrown=>exact⟨_,hΨ,z6m⟩
  cases e0 with
  |normal=>
   simp only[au]at h1;obtain⟨h2,h1⟩:=h1;obtain⟨e,s',h3,h4,h5⟩:=tE hb k (gcS yv s1) K h1;refine⟨e,s',h3,by rw[h4];exact hA1,fun A' hA Ψ hΨ Γ0 a w hat=>?_⟩;have hA2:leA (gcS yv s1).A A':=by show leA s1.A A';rw[hA1];exact hA
   rw[rounds_succ];refine wp_mono (hD A' hA (fun e1 s2=>e1= .normal/\s2=s1.wA A') ⟨rfl,rfl⟩ Γ0 a w hat) ?_;rintro e1 a1 w1 ⟨s2,⟨rfl,rfl⟩,z6m⟩;exact h5 A' hA2 Ψ hΨ Γ0 a1 w1 (q6Q A' h2 Γ0 a1 w1 z6m)
  |exit _|goto _|ret|panic _|outgrown=>exact z6y (by simp) h1
include hP hmo hc he
def q6a {tbl} {n id:Nat} {ops:List Oper} {draw:Bool} {s:S} {r K} (h:bI X call ext tbl n ops draw s K=some r):
  ∃s',K s'=some r/\s'.A=s.A/\∀A',leA s.A A'->∀Ψ:Exit->S->Prop,Ψ .normal (s'.wA A')->DC X n (.region id ops.toArray draw) (s.wA A') Ψ:=by
 unfold bI at h;simp only[au]at h;obtain⟨h1,h⟩:=h;cases draw with
 |true=>
  dsimp only at h;split at h;{obtain⟨ml,ts,s2,h2,h3,h4⟩:=RP hc he ops s s rfl (fun _ _ h=>h) h;simp only[au]at h2;obtain⟨⟨h5,h6⟩,h2⟩:=h2;exact⟨s2,h2,h3,fun A' hA Ψ hΨ=>q40 hP hmo ml ts h1 h6 (h4 A' hA ml (Ws h5) _ hΨ)⟩}
  ·rename_i k F _;simp only[au]at h;obtain⟨hq,h⟩:=h;have hF:∀j∈k::F,s.obj j≠none:=fun j hj e=>by have:=eh.1 hq j hj;rw[e]at this;cases this
   obtain⟨ml,ts,s2,h2,h3,h4⟩:=OV hc he ops s s rfl (fun _ _ h=>h) hF h;simp only[au]at h2;obtain⟨⟨h5,h6⟩,h2⟩:=h2;refine⟨s2,h2,h3,fun A' hA Ψ hΨ=>q41 hP hmo (k::F) ml ts h1 h6 (fun j hj e=>?_) (h4 A' hA ml (Ws h5) _ hΨ)⟩;cases ho:s.obj j with
   |none=>exact hF j hj ho|some ob=>rw[Cy hA ho]at e;cases e
 |false=>
  obtain⟨ml,s2,h2,h3,h4⟩:=bH hc he ops s h;simp only[au]at h2;obtain⟨h5,h2⟩:=h2;exact⟨s2,h2,h3,fun A' hA Ψ hΨ=>Ih hP ml h1 (h4 A' hA ml (Ws h5) _ hΨ)⟩
end
def PL {R:Type} (s:S):List V->(List V->Option R)->Option R
 | [],K=>K []|x::xs,K=>(match x with| .sl eb e cs t=>(match LF s t cs.length with|some b=>bif b then PL s xs (fun vs=>K (.ts eb e cs::vs))else none|none=>PL s xs (fun vs=>K (.d (.slice eb e) (.slice cs)::vs)))|x=>PL s xs (fun vs=>K (x.FW::vs)))
def XP {R:Type} {s r}:∀{xs:List V} {K:List V->Option R},PL s xs K=some r->K (Iq s xs)=some r
 | [],K,h=>h|x::xs,K,h=>by
  simp only[PL]at h;split at h
  ·rename_i eb e cs t;split at h
   ·rename_i b e0;cases b with
    |false=>cases h
    |true=>
     have hl:=eP e0;have:=XP (xs:=xs) h;simp only[Iq,Mn,if_pos hl];exact this
   ·rename_i e0;have hl:s.live t=none:=by unfold LF at e0;split at e0;{cases e0};{rename_i e5;exact e5}
    have:=XP (xs:=xs) h;simp only[Iq,Mn];rw[if_neg (by rw[hl];simp)];exact this
  ·rename_i hx;have:=XP (xs:=xs) h;simp only[Iq];have e:Mn s x=x.FW:=by cases x <;> first|rfl|exact(hx _ _ _ _ rfl).elim
   rw[e];exact this
def tG {R:Type} (X:Cx) (fn:Func) (s:S) (K:V->List (Key × O)->Option R):Option R:=
 PL s (Eh X s fn.results.toList) fun vs=>
  if UQ X s fn.results.toList=true/\Se (Eh X s fn.results.toList)=true/\Su (Bf (GW s.loc (reach s.loc 100000 (V.JX vs++JV s.loc) []) s.loc)) vs=true/\GX (Iz (Fc 2000 (Eh X s fn.results.toList) vs))=true/\Kg (GW s.loc (reach s.loc 100000 (V.JX vs++JV s.loc) []) s.loc)=true/\
   FK (Bf (GW s.loc (reach s.loc 100000 (V.JX vs++JV s.loc) []) s.loc)) BS (GW s.loc (reach s.loc 100000 (V.JX vs++JV s.loc) []) s.loc)=true/\Ic (GW s.loc (reach s.loc 100000 (V.JX vs++JV s.loc) []) s.loc) s.loc=true then
   K (hU vs) (GW s.loc (reach s.loc 100000 (V.JX vs++JV s.loc) []) s.loc)else none
def q6b {X:Cx} {fn:Func} {s:S} {R:Type} {r:R} {K:V->List (Key × O)->Option R} (h:tG X fn s K=some r):∃v L,K v L=some r/\∀A',leA s.A A'->Jh X fn A' v L (s.wA A'):=by have h:=XP h;simp only[au]at h;obtain⟨h1,h⟩:=h;refine⟨_,_,h,fun A' hA=>q6v hA ?_⟩;simp only[bU,if_pos h1]
abbrev OvK (R:Type):=FuncId->Option (List V->(Key->Option O)->(V->List (Key × O)->Option R)->Option R)
def ZC (X:Cx) {R:Type} (ov:OvK R):Prop:=∀f g,ov f=some g->∀xs A Kr r,g xs A Kr=some r->∃v L,Bo X f xs A v L/\Kr v L=some r
section
variable {X:Cx} {R:Type} {ov:OvK R} {ext:Dc} (hP:Aq X.P=true) (hmo:X.P.follows .mixedOrders=true) (hov:ZC X ov) (he:IY X ext)
include hP hmo hov he
end
abbrev kR:V->List (Key × O)->Option (V × List (Key × O)):=fun v L=>some (v,L)
end
section
section
variable {e:Exit} {s:S} {Q:Exit->S->Prop} {T T':Option (Exit × S)}
end
def DC.post {X} {n:Nat} {c s Ψ Ψ'} (h:DC X n c s Ψ) (hq:∀e s,Ψ e s->∃s',DS X n s s'/\Ψ' e s'):DC X n c s Ψ':=
 fun Γ0 a w hat=>wp_mono (h Γ0 a w hat) fun e a w ⟨s1,h1,h2⟩=>by obtain⟨s2,h3,h4⟩:=hq e s1 h1;exact⟨s2,h4,h3 Γ0 a w h2⟩
abbrev OvG (R:Type):=List V->(Key->Option O)->(V->List (Key × O)->Option R)->Option R
def GOk (X:Cx) (f:FuncId) {R:Type} (g:OvG R):Prop:=∀xs A Kr r,g xs A Kr=some r->∃v L,Bo X f xs A v L/\Kr v L=some r
def KF {R:Type}:List (FuncId × OvG R)->FuncId->Option (OvG R)
 | [],_=>none|(f,g)::l,i=>bif bw f i then some g else KF l i
structure OvS (X:Cx) where
 g:(R:Type)->List (FuncId × OvG R)
 ok:∀R,∀p∈g R,GOk X p.1 p.2
def zG {R:Type}:∀{l:List (FuncId × OvG R)} {f:FuncId} {g:OvG R},KF l f=some g->(f,g)∈l
 |(j,y)::l,f,g,h=>by
  simp only[KF]at h;cases hb:bw j f with
  |true=>
   rw[hb]at h;cases h;rw[fj hb];exact fl ..
  |false=>
   rw[hb]at h;exact ez _ (zG h)
def OvS.ov {X:Cx} (o:OvS X) (R:Type):OvK R:=fun f=>KF (o.g R) f
def OvS.Y6 {X} (o:OvS X) (R:Type):ZC X (o.ov R):=fun f g h=>o.ok R (f,g) (zG h)
def q45 {X:Cx} {f:FuncId} {eb:Nat} {e:Ty} {A:Key->Option O} {v:List C->V} {L:List C->List (Key × O)} (h:∀cs,Bo X f [.d (.slice eb e) (.slice cs)] A (v cs) (L cs)) (c:C):Bo X f [.d (.slice eb e) c] A (v c.elems) (L c.elems):=by intro A' Γ w args hA hg hc hn hr;have hs:args.size=1:=hn.symm;have h0:AG Γ (.d (.slice eb e) c) args[0]:=hr 0 _ _ rfl (Array.getElem?_eq_getElem (by omega:0<args.size));obtain⟨h1,_⟩:=(Bi rfl rfl).1 h0;simp only[AA,AL]at h1;obtain⟨_,_,_,cs,rfl,_⟩:=h1;exact h cs A' Γ w args hA hg hc hn hr
def VV {R:Type} (eb:Nat) (e:Ty):OvG R:=fun xs _ K=>match xs with| [.d (.slice eb' e') c]=>if eb'=eb/\e'=e then K (.ts eb e c.elems) []else none|_=>none
def rD {X:Cx} {f:FuncId} {eb:Nat} {e:Ty} (h:∀(A:Key->Option O) cs,Bo X f [.d (.slice eb e) (.slice cs)] A (.ts eb e cs) []) {R:Type}:GOk X f (VV (R:=R) eb e):=by intro xs A Kr r hr;unfold VV at hr;split at hr;{simp only[au]at hr;obtain⟨⟨rfl,rfl⟩,hr⟩:=hr;exact⟨_,_,q45 (v:=fun cs=>.ts _ _ cs) (L:=fun _=>[]) (h A) _,hr⟩};{cases hr}
def q8F {A A'} (h:∀k,A k=none):leA A A':=fun k o e=>by rw[h k]at e;cases e
end
end Go.E
