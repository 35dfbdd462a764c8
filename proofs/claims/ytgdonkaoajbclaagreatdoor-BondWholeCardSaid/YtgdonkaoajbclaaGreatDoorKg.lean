/-
What Go functions compute, part 7.
Conditions: none.
-/
import Derived.Test.YtgdonkaoajbclaaGreatDoorKf
set_option linter.all false
noncomputable section
set_option maxRecDepth 100000
set_option maxHeartbeats 4000000
open BitVec renaming ofInt->dt
open Go.BinOp renaming xor->ej
open Go.E.C renaming agg->dh,beq->mz,bool->cd,elems->ao,get->ax,int->aw,set->ct,slice->bc,toBool->cz,toInt->aj,wf->ua
open Go.E.Ty renaming arr->cq,int->bn
open Go.E.V renaming tup->ou
open Go.IntKind renaming bits->jc,i64->ar,signed->ig,u32->cf,u64->av,u8->bp,wrap->al
open Go.IntWalk renaming i64_in->df
open Go.Proofs.YtgdonkaoajbclaaGreatDoor.St renaming push->vt
open Int renaming lt_irrefl->fa,natCast_nonneg->bq,toNat->aq,toNat_natCast->bf
open List renaming drop_succ_cons->uy,drop_zero->ia,getD->bj,getD_cons_zero->qe,getD_eq_getElem?_getD->bh,getElem?_append_right->ft,getElem?_eq_getElem->bg,getElem_mem->jx,length->ak,length_append->bt,length_cons->cg,length_map->ep,length_nil->de,length_reverse->jd,map_cons->dy,not_mem_nil->ic,replicate->ay
open Nat renaming beq->bw,beq_refl->br
open Option renaming isSome_none->px,isSome_some->py,map_eq_some_iff->eu
open UInt8 renaming ofNat->nr
namespace Go.Proofs.YtgdonkaoajbclaaGreatDoor
open Go Go.E
variable {R:Type} (N:Nat)
section
variable {R:Type} {N:Nat}
def Mk (o:Int) (k:KD R):Mt N (.int o) k=k [.int (BA o)] []:=by rw[q0r];unfold kH BA;by_cases h1:o=1;{subst h1;rfl};by_cases h2:o=2;{subst h2;simp[go_sem,AP]};by_cases h16:o=16;{subst h16;simp[go_sem,AP]};by_cases h11:o=11;{subst h11;simp[go_sem,AP]};by_cases h12:o=12;{subst h12;simp[go_sem,AP]};simp[go_sem,AP,h1,h2,h16,h11,h12]
def q4W (o:Int) (k:KD R):Ps N (.int o) k=k [.int (Bv o)] []:=by rw[q0p];unfold kG Bv;by_cases h1:o=5;{subst h1;rfl};by_cases h2:o=16;{subst h2;rfl};simp[go_sem,h1,h2]
def Ba (o:Int):Nat:=if o=0\/o=8\/o=12\/o=13\/o=15 then 1 else if o=3\/o=4\/o=5\/o=6\/o=7\/o=9\/o=10\/o=14 then 2 else 0
def PH {o:Int} (h:0<=o/\o<18):o=0\/o=1\/o=2\/o=3\/o=4\/o=5\/o=6\/o=7\/o=8\/o=9\/o=10\/o=11\/o=12\/o=13\/o=14\/o=15\/o=16\/o=17:=by omega
def NH {o:Int} (h:0<=o/\o<18) (k:KD R):LX N (.int o) k=k [.int (Ba o)] []:=by rw[q0u];unfold kK Ba;rcases PH h with rfl|rfl|rfl|rfl|rfl|rfl|rfl|rfl|rfl|rfl|rfl|rfl|rfl|rfl|rfl|rfl|rfl|rfl <;> simp[go_sem,AP]
def LR (b:Bool) (k:KD R):II N (.bool b) k=k [.int (Dk b)] []:=by rw[q0w];unfold kM Dk;cases b <;> rfl
def Io (r:Int × Int):List Int × Int:=if r.2=0 then([r.1],0)else([],r.2)
def Bn (w:C) (op:Nat) (n a b:Int):List Int × Int:=match op with|1=>([n],0)|2=>if n<((w.get 0).elems.length:Int)then([((w.get 0).elems.getD n.toNat .nil).toInt],0)else([],1)|3=>Io (Ap a b)|4=>Io (BT a b)|5=>Io (mulR a b)|6=>([Dk (decide (a<b))],0)|7=>([Dk (decide (a=b))],0)|8=>([Dk (decide (b=0))],0)|9=>([Dk (!decide (a=0)&& !decide (b=0))],0)|10=>([Dk (!decide (a=0)|| !decide (b=0))],0)|13=>([b,b],0)|14=>([b,a],0)|16=>if n<((w.get 1).elems.length:Int)then([Dk ((w.get 1).elems.getD n.toNat .nil).toBool],0)else([],1)|17=>([(w.get 2).toInt],0)|_=>([],0)
def q8E {w:C} (hw:WOk w) (hb1:∀c∈(w.get 1).elems,c= .bool c.toBool) (op:Nat) (hop:op<18) {n a b:Int} (hn:0<=n) (ha:U64 a) (hb:U64 b) (hN:10<N) (k:KD R):
  Tq N (.int op) (.int n) w (.int a) (.int b) k=k [.slice ((Bn w op n a b).1.map aw),.int (Bn w op n a b).2] []:=by
 have c:op=0\/op=1\/op=2\/op=3\/op=4\/op=5\/op=6\/op=7\/op=8\/op=9\/op=10\/op=11\/op=12\/op=13\/op=14\/op=15\/op=16\/op=17:=by omega
 have ofl:∀n:Nat,n<4611686018427387904->IntKind.u64.wrap (n:Int)=n:=fun n hn=>wrap_u64 (by omega) (by omega);have f0:∀i:Nat,i<(w.get 0).elems.length->(w.get 0).elems.getD i .nil= .int ((w.get 0).elems.getD i .nil).toInt:=fun i hi=>by rw[bh,bg hi];exact hw.f _ (jx hi)
 have f1:∀i:Nat,i<(w.get 1).elems.length->(w.get 1).elems.getD i .nil= .bool ((w.get 1).elems.getD i .nil).toBool:=fun i hi=>by rw[bh,bg hi];exact hb1 _ (jx hi)
 have o0:=ofl _ hw.l0;have o1:=ofl _ hw.l1;rw[q0v];unfold kL;rcases c with rfl|rfl|rfl|rfl|rfl|rfl|rfl|rfl|rfl|rfl|rfl|rfl|rfl|rfl|rfl|rfl|rfl|rfl;{simp[go_sem,AP,Bn]};{simp[go_sem,AP,Bn]}
 ·by_cases h:n<((w.get 0).elems.length:Int)
  ·have h':¬((w.get 0).elems.length:Int)<=n:=by omega
   have hf:=f0 n.toNat (by omega);simp only[go_sem,AP,Bn,o0,h,h',hn,AB];simp;exact congrArg (fun c=>k [.slice [c],.int 0] []) (by simpa using hf)
  ·have h':((w.get 0).elems.length:Int)<=n:=by omega
   simp[go_sem,AP,Bn,o0,h,h']
 ·simp only[AP,z1o ha hb];by_cases h:(Ap a b).2=0 <;> simp[go_sem,Bn,Io,h]
 ·simp only[AP,z3N];by_cases h:(BT a b).2=0 <;> simp[go_sem,Bn,Io,h]
 ·simp only[AP,z3z ha hb hN];by_cases h:(mulR a b).2=0 <;> simp[go_sem,Bn,Io,h]
 ·(simp[go_sem,AP,Bn,LR] <;> rfl)
 ·(simp[go_sem,AP,Bn,LR] <;> rfl)
 ·(simp[go_sem,AP,Bn,LR] <;> rfl)
 ·by_cases h:a=0;{(simp[go_sem,AP,Bn,LR,h] <;> rfl)};{(simp[go_sem,AP,Bn,LR,h] <;> rfl)}
 ·by_cases h:a=0;{(simp[go_sem,AP,Bn,LR,h] <;> rfl)};{(simp[go_sem,AP,Bn,LR,h] <;> rfl)}
 ·simp[go_sem,AP,Bn]
 ·simp[go_sem,AP,Bn]
 ·simp[go_sem,AP,Bn]
 ·simp[go_sem,AP,Bn]
 ·simp[go_sem,AP,Bn]
 ·by_cases h:n<((w.get 1).elems.length:Int)
  ·have h':¬((w.get 1).elems.length:Int)<=n:=by omega
   have hf:=f1 n.toNat (by omega);simp only[go_sem,AP,Bn,o1,h,h',hn,AB];rw[hf]
   (simp[LR] <;> rfl)
  ·have h':((w.get 1).elems.length:Int)<=n:=by omega
   simp[go_sem,AP,Bn,o1,h,h']
 ·have hh:=hw.h;rw[hh];simp[go_sem,AP,Bn]
end
section
variable {R:Type} {N:Nat}
def z0K {p:List C} (hp:ua (.slice 1 (.int .u8)) (.slice p)) (hl:p.length<=256) (i:Nat) (o:Int) (h:i+1+BA o<=p.length) (hN:100<N) (k2:KD R):
  Ae N (Tl N k2) [.slice p,.int i,.int o,.int 0,.int 0] []=k2 [.int o,.int (CC p (i+1) (BA o))] []:=by
 have hm:=KH o;refine DX (F:=Tl N k2) (fun j:Nat=>[.slice p,.int i,.int o,.int (CC p (i+1) j),.int j]) (fun _=>[]) (BA o) _ ?_ ?_ (by omega)
 ·intro j hj rec;unfold Tl;have w1:IntKind.i64.wrap ((i:Int)+1)=((i+1:Nat):Int):=by rw[df _ (by omega)];rfl
  have w2:IntKind.i64.wrap (((i+1:Nat):Int)+(j:Int))=((i+1+j:Nat):Int):=by rw[df _ (by omega)];rfl
  have w3:IntKind.i64.wrap ((j:Int)+1)=((j+1:Nat):Int):=by rw[df _ (by omega)];rfl
  have hb:=Hm hp (i:=i+1+j) (by omega);obtain⟨a1,a2,a3⟩:=Lx hp (i:=i+1) (k:=j) (by omega) (by omega);have a4:=a3 (by omega);have b1:(j:Int)<((BA o:Nat):Int):=by omega
  have b2:(0:Int)<=((i+1+j:Nat):Int)/\((i+1+j:Nat):Int)<(p.length:Int):=by omega
  have w4:IntKind.u64.wrap (CC p (i+1) j*256)=CC p (i+1) j*256:=wrap_u64 (by omega) (by omega);have w5:IntKind.u64.wrap (bN p (i+1+j))=bN p (i+1+j):=wrap_u64 (by omega) (by omega);have w6:IntKind.u64.wrap (CC p (i+1) j*256+bN p (i+1+j))=CC p (i+1) j*256+bN p (i+1+j):=wrap_u64 (by omega) (by omega);simp only[go_sem,Mk,AB,AI,w1,w2,w3,b1,b2,AE,and_self,bf];rw[hb.1];simp only[AB,w4,w5,w6];rfl
 ·intro rec;unfold Tl;simp only[go_sem,Mk,AB,fa,AE]
def Z4 {p:List C} (hp:ua (.slice 1 (.int .u8)) (.slice p)) (hl:p.length<=256) (i:Nat) (hi:i<=100000) (hN:100<N) (k:KD R):
  Tm N (.slice p) (.int i) k=k [.int (if Ar p i=0 then bN p i else 0),.int (if Ar p i=0 then CP p i else 0),.int (Ar p i)] []:=by
 rw[q0s];unfold kI;by_cases h1:p.length<=i
 ·have h1':(p.length:Int)<=(i:Int):=by omega
  have e:Ar p i=9:=by unfold Ar;rw[if_pos h1]
  simp[go_sem,h1',e]
 have h1':¬(p.length:Int)<=(i:Int):=by omega
 have b1:(0:Int)<=(i:Int)/\(i:Int)<(p.length:Int):=by omega
 have hb:=Hm hp (i:=i) (by omega);have w0:IntKind.i64.wrap (bN p i)=bN p i:=df _ (by omega);by_cases h2:18<=bN p i
 ·have e:Ar p i=33:=by unfold Ar;rw[if_neg h1,if_pos h2]
  have h2':17<bN p i:=by omega
  simp only[go_sem,AB,AI,h1',b1,AE,and_self,bf,hb.1,w0,h2',e];rfl
 have h2':¬17<bN p i:=by omega
 have hm:=KH (bN p i);have w1:IntKind.i64.wrap ((i:Int)+1)=((i+1:Nat):Int):=by rw[df _ (by omega)];rfl
 have w2:IntKind.i64.wrap (((i+1:Nat):Int)+((BA (bN p i):Nat):Int))=((i+1+BA (bN p i):Nat):Int):=by rw[df _ (by omega)];rfl
 by_cases h3:p.length<i+1+BA (bN p i)
 ·have e:Ar p i=9:=by unfold Ar;rw[if_neg h1,if_neg h2,if_pos h3]
  have h3':(p.length:Int)<((i+1+BA (bN p i):Nat):Int):=by omega
  simp only[go_sem,AB,AI,h1',b1,AE,and_self,bf,hb.1,w0,h2',Mk,AF,w1,w2,h3',e];rfl
 ·have e:Ar p i=0:=by unfold Ar;rw[if_neg h1,if_neg h2,if_neg h3]
  have h3':¬(p.length:Int)<((i+1+BA (bN p i):Nat):Int):=by omega
  simp only[go_sem,AB,AI,h1',b1,and_self,bf,hb.1,w0,h2',AE,Mk,AF,AK,w1,w2,h3',AP,z0K hp hl i (bN p i) (by omega) hN,e];rfl
structure DF (r:List Int) (lf:List Int × Int) (y:St):Prop where
 bad:lf.2≠0->y.e=lf.2
 full:lf.2=0->32<r.length+lf.1.length->y.e=4
 ok:lf.2=0->¬32<r.length+lf.1.length->y=⟨lf.1.reverse++r,0⟩
def DF.push {r:List Int} (a:Int):DF r ([a],0) (vt ⟨r,0⟩ a):=by unfold vt St.fail;refine⟨fun h=>absurd rfl h,fun _ h=>?_,fun _ h=>?_⟩;{simp only[cg,de]at h;rw[if_pos (by dsimp only;omega)];rfl};{simp only[cg,de]at h;rw[if_neg (by dsimp only;omega)];rfl}
def DF.put {r:List Int} (q:Int × Int):DF r (Io q) (St.put ⟨r,0⟩ q):=by unfold Io St.put;by_cases h:q.2=0;{simp only[h,if_true];exact DF.push _};{simp only[h,if_false];exact⟨fun _=>rfl,fun h'=>absurd h' h,fun h'=>absurd h' h⟩}
def DF.FY {r:List Int} (hr:r.length<=31) (a b:Int):DF r ([a,b],0) (St.FY ⟨r,0⟩ a b):=by
 have p1:vt ⟨r,0⟩ a=⟨a::r,0⟩:=by unfold vt;rw[if_neg (by dsimp only;omega)]
 unfold St.FY;rw[if_neg (by dsimp only;omega),p1];have hl:(a::r).length=r.length+1:=cg;unfold vt St.fail;refine⟨fun h=>absurd rfl h,fun _ h=>?_,fun _ h=>?_⟩;{simp only[cg,de]at h;rw[if_pos (show 32<=(a::r).length by omega)];rfl};{simp only[cg,de]at h;rw[if_neg (show ¬32<=(a::r).length by omega)];rfl}
def Yc {w} {op:Nat} (h:op=1\/op=2\/op=16\/op=17) (n a b:Int) (r:List Int):DF r (Bn w op n a b) (CG w op n ⟨r,0⟩):=by rcases h with rfl|rfl|rfl|rfl;{exact DF.push _};{by_cases h:n<((w.get 0).elems.length:Int);{simp only[Bn,CG,h,if_true];exact DF.push _};{simp only[Bn,CG,h,if_false];exact⟨fun _=>rfl,fun h=>absurd (show(1:Int)=0 from h) (by decide),fun h=>absurd (show(1:Int)=0 from h) (by decide)⟩}};{by_cases h:n<((w.get 1).elems.length:Int);{simp only[Bn,CG,h,if_true];exact DF.push _};{simp only[Bn,CG,h,if_false];exact⟨fun _=>rfl,fun h=>absurd (show(1:Int)=0 from h) (by decide),fun h=>absurd (show(1:Int)=0 from h) (by decide)⟩}};{exact DF.push _}
def nA {w} {op:Nat} (h:op=8\/op=13\/op=15) (n a b:Int) (r:List Int) (hr:r.length<=31):DF r (Bn w op n a b) (CG w op n ⟨b::r,0⟩):=by rcases h with rfl|rfl|rfl;{exact DF.push _};{exact DF.FY hr b b};{refine⟨fun h=>absurd rfl h,fun _ h=>?_,fun _ _=>rfl⟩;simp only[Bn,de]at h;omega}
def Lg {w} {op:Nat} (h:op=3\/op=4\/op=5\/op=6\/op=7\/op=9\/op=10\/op=14) (n a b:Int) (r:List Int) (hr:r.length<=30):DF r (Bn w op n a b) (CG w op n ⟨b::a::r,0⟩):=by rcases h with rfl|rfl|rfl|rfl|rfl|rfl|rfl|rfl;{exact DF.put (Ap a b)};{exact DF.put (BT a b)};{exact DF.put (mulR a b)};{exact DF.push _};{exact DF.push _};{exact DF.push _};{exact DF.push _};{exact DF.FY (by omega) b a}
end
section
variable {R:Type} {N:Nat}
def stk (s:List Int):C:=.slice (s.reverse.map aw)
def ND (s:List Int):(stk s).elems.length=s.length:=by simp[stk,ao]
def q18 (b:Int) (r:List Int):(stk (b::r)).elems.getD r.length .nil= .int b:=by
 have:(stk (b::r)).elems=r.reverse.map aw++[.int b]:=by simp[stk,ao]
 rw[this,bh,ft (by simp)];simp
def z4F (b a:Int) (r:List Int):(stk (b::a::r)).elems.getD r.length .nil= .int a:=by
 have:(stk (b::a::r)).elems=r.reverse.map aw++[.int a,.int b]:=by simp[stk,ao]
 rw[this,bh,ft (by simp)];simp
def nB (q r:List Int):cut (stk (q++r)).elems 0 (r.length:Int)=r.reverse.map aw:=by
 have:(stk (q++r)).elems=r.reverse.map aw++q.reverse.map aw:=by simp[stk,ao]
 rw[this];unfold cut;simp
def nC (r l:List Int):bc (r.reverse.map aw++l.map aw)=stk (l.reverse++r):=by simp[stk]
def q8C (w:C) (op:Nat) (n a b:Int):(Bn w op n a b).1.length<=2:=by unfold Bn Io;split <;> (try split) <;> simp
structure q3k where
 i:Nat
 sp:Int
 s:List Int
def z3H {p:List C} (hp:ua (.slice 1 (.int .u8)) (.slice p)) (hl:p.length<=256) {gas:Int} (hg:0<=gas/\gas<=4096) {w:C} (hw:WOk w) (hb1:∀c∈(w.get 1).elems,c= .bool c.toBool)
  (hN:5000<N) (k rec:KD R) (i:Nat) (hi:i<=100000) (sp:Int) (h0:0<=sp) (h1:sp<=gas) (s:List Int) (hs:s.length<=32) (hu:∀a∈s,U64 a):
  Tn N k rec [.slice p,.int gas,w,stk s,.int i,.int sp] []=
   if Ar p i≠0 then k [.int 0,.int sp,.int (Ar p i)] []
   else if gas<sp+Bv (bN p i)then k [.int 0,.int sp,.int 24] []
   else if s.length<Ba (bN p i)then k [.int 0,.int (sp+Bv (bN p i)),.int 12] []
   else if bN p i=0 then k [.int (s.getD 0 0),.int (sp+Bv (bN p i)),.int 0] []
   else
    let a:=if Ba (bN p i)=2 then s.getD 1 0 else 0
    let b:=if 1<=Ba (bN p i)then s.getD 0 0 else 0
    let lf:=Bn w (bN p i).toNat (CP p i) a b
    let r:=s.drop (Ba (bN p i))
    if lf.2≠0 then k [.int 0,.int (sp+Bv (bN p i)),.int lf.2] []
    else if 32<r.length+lf.1.length then k [.int 0,.int (sp+Bv (bN p i)),.int 4] []
    else rec [.slice p,.int gas,w,stk (lf.1.reverse++r),.int (if bN p i=11\/(bN p i=12/\b≠0)then(CP p i).toNat else i+1+BA (bN p i):Nat),.int (sp+Bv (bN p i))] []:=by
 unfold Tn;by_cases e1:Ar p i=0
 case neg=>simp only[Z4 hp hl i hi (by omega:100<N),e1,AF,AK,AO,AV,Ac,Av,AB,AE,ne_eq,not_false_iff]
 have hb:i<p.length/\bN p i<18/\i+1+BA (bN p i)<=p.length:=by unfold Ar at e1;split at e1;{cases e1};split at e1;{cases e1};split at e1;{cases e1};omega
 have hbw:=Hm hp hb.1;have hop:0<=bN p i/\bN p i<18:=by omega
 have hcp:=Qs (bN p i);have w2:IntKind.i64.wrap (sp+Bv (bN p i))=sp+Bv (bN p i):=df _ (by omega);have hmo:=KH (bN p i);obtain⟨g1,g2,g3⟩:=Lx hp (i:=i+1) (k:=BA (bN p i)) (by omega) hmo;have h16:bN p i=11\/bN p i=12->CP p i<65536:=fun h=>(VG hp hb.2.2 h).2;have hq:CC p (i+1) (BA (bN p i))=CP p i:=rfl;rw[hq]at g1 g2;simp only[Z4 hp hl i hi (by omega:100<N),e1,AE,AF,AK,AO,AV,Ac,Av,AB,q4W,NH hop,w2,ne_eq,not_true,ND];by_cases e2:gas<sp+Bv (bN p i);{simp only[e2,AE]};simp only[e2,AE];have z70:=PH hop;generalize hO:bN p i=o at*;generalize CP p i=n at*;generalize Bv o=c at*;have ht:Ba o=0\/Ba o=1\/Ba o=2:=by unfold Ba;(repeat' split) <;> simp
 have z68:∀m n:Nat,m<=100->n<=100->IntKind.i64.wrap ((m:Int)+(n:Int))=((m+n:Nat):Int):=fun m n h1 h2=>by rw[df _ (by omega)];rfl
 have z6L:=fun n a b:Int=>q8C w o.toNat n a b;have w3:IntKind.i64.wrap ((i:Int)+1)=((i+1:Nat):Int):=by rw[df _ (by omega)];rfl
 have w4:IntKind.i64.wrap (((i+1:Nat):Int)+((BA o:Nat):Int))=((i+1+BA o:Nat):Int):=by rw[df _ (by omega)];rfl
 have ho:((o.toNat:Nat):Int)=o:=by omega
 have lq:=fun(n a b:Int) (hn:0<=n) (ha:U64 a) (hb:U64 b) (k:KD R)=>q8E (R:=R) hw hb1 o.toNat (by omega) hn ha hb (show 10<N by omega) k;rw[ho]at lq;have u0:U64 0:=⟨by omega,by omega⟩;have z0:Int.ofNat 0<=0:=Int.le_refl _;rcases ht with ht|ht|ht
 ·have w5:IntKind.i64.wrap ((s.length:Int)-((0:Nat):Int))=(s.length:Int):=by rw[df _ (by omega)];omega
  have hc:cut (stk s).elems 0 (s.length:Int)=s.reverse.map aw:=nB [] s;have b1:¬((s.length:Nat):Int)<((0:Nat):Int):=by omega
  have b2:¬(1:Int)<=((0:Nat):Int):=by omega
  have b3:¬((0:Nat):Int)=2:=by omega
  have b4:(0:Int)<=(s.length:Int)/\(s.length:Int)<=(s.length:Int):=by omega
  have b5:¬s.length<0:=by omega
  have b6:¬1<=0:=by omega
  have b7:¬(0:Nat)=2:=by omega
  have o00:¬o=0:=fun h=>by subst h;exact absurd ht (by decide)
  simp only[ht,AP,AF,AK,AO,AV,Ac,Av,BW,Cm,DK,Ee,AB,AI,Ag,NH hop,AE,ND,br,and_self,b1,b2,b3,w5,hc,b4,z0,b5,b6,b7,ia];by_cases o0:o=0;{exact absurd o0 o00};have o0':decide (o=0)=false:=decide_eq_false o0;have rl:s.length<=32:=hs;simp only[o0,AE,lq n 0 0 g1 u0 u0,AF,AK,AB,AI,ep,jd];have hlen:=z6L n 0 0;generalize Bn w o.toNat n 0 0=lf at hlen ⊢;obtain⟨l,f⟩:=lf;dsimp only at hlen ⊢;have c1:=z68 s.length l.length (by omega) (by omega);have c2:(s.length+l.length)*8<=140737488355328/\s.length+l.length<=9223372036854775807:=by omega
  by_cases hf:f=0
  case neg=>simp only[hf,AE,not_false_iff]
  by_cases full:32<s.length+l.length
  ·have zt:(32:Int)<((s.length+l.length:Nat):Int):=by omega
   simp only[hf,c1,full,zt,AE,not_true]
  ·have zt:¬(32:Int)<((s.length+l.length:Nat):Int):=by omega
   simp only[hf,c1,c2,full,zt,AE,not_true,and_self,Mk,AF,AB,w3,w4,bt,ep,jd,br,nC];by_cases o11:o=11
   ·have wn:IntKind.i64.wrap n=((n.toNat:Nat):Int):=by rw[df _ (by have:=h16 (.inl o11);omega)];omega
    simp only[o11,AE,true_or,wn]
   by_cases o12:o=12
   ·have wn:IntKind.i64.wrap n=((n.toNat:Nat):Int):=by rw[df _ (by have:=h16 (.inr o12);omega)];omega
    by_cases b0:0=0;{simp[o11,o12,b0,wn]};{simp[o11,o12,b0,wn]}
   ·simp only[o11,o12,AE,false_or,false_and]
 ·rcases s with _|⟨b,r⟩;{simp[ht,AP,NH hop,ND]};have hub:U64 b:=hu b (by simp);have w5:IntKind.i64.wrap (((b::r).length:Int)-((1:Nat):Int))=(r.length:Int):=by rw[df _ (by simp only[cg]at hs ⊢;omega)];simp
  have w6:IntKind.i64.wrap (((b::r).length:Int)-1)=(r.length:Int):=w5;have hc:cut (stk (b::r)).elems 0 (r.length:Int)=r.reverse.map aw:=nB [b] r;have hll:(b::r).length=r.length+1:=cg;have b1:¬((b::r).length:Int)<((1:Nat):Int):=by omega
  have b2:(1:Int)<=((1:Nat):Int):=by omega
  have b3:¬((1:Nat):Int)=2:=by omega
  have b4:(0:Int)<=(r.length:Int)/\(r.length:Int)<=((b::r).length:Int):=by omega
  have b8:(0:Int)<=(r.length:Int)/\(r.length:Int)<((b::r).length:Int):=by omega
  have b5:¬(b::r).length<1:=by omega
  have b6:(1:Nat)<=1:=by omega
  have b7:¬(1:Nat)=2:=by omega
  simp only[ht,AP,AF,AK,AO,AV,Ac,Av,BW,Cm,DK,Ee,AB,AI,Ag,NH hop,AE,ND,br,and_self,b1,b2,b3,w5,w6,hc,b4,b8,z0,b5,b6,b7,bf,q18,uy,ia,qe];by_cases o0:o=0;{simp only[o0,AE]};have o0':decide (o=0)=false:=decide_eq_false o0;have rl:r.length<=32:=(by omega);simp only[o0,AE,lq n 0 b g1 u0 hub,AF,AK,AB,AI,ep,jd];have hlen:=z6L n 0 b;generalize Bn w o.toNat n 0 b=lf at hlen ⊢;obtain⟨l,f⟩:=lf;dsimp only at hlen ⊢;have c1:=z68 r.length l.length (by omega) (by omega);have c2:(r.length+l.length)*8<=140737488355328/\r.length+l.length<=9223372036854775807:=by omega
  by_cases hf:f=0
  case neg=>simp only[hf,AE,not_false_iff]
  by_cases full:32<r.length+l.length
  ·have zt:(32:Int)<((r.length+l.length:Nat):Int):=by omega
   simp only[hf,c1,full,zt,AE,not_true]
  ·have zt:¬(32:Int)<((r.length+l.length:Nat):Int):=by omega
   simp only[hf,c1,c2,full,zt,AE,not_true,and_self,Mk,AF,AB,w3,w4,bt,ep,jd,br,nC];by_cases o11:o=11
   ·have wn:IntKind.i64.wrap n=((n.toNat:Nat):Int):=by rw[df _ (by have:=h16 (.inl o11);omega)];omega
    simp only[o11,AE,true_or,wn]
   by_cases o12:o=12
   ·have wn:IntKind.i64.wrap n=((n.toNat:Nat):Int):=by rw[df _ (by have:=h16 (.inr o12);omega)];omega
    by_cases b0:b=0;{simp[o11,o12,b0,wn]};{simp[o11,o12,b0,wn]}
   ·simp only[o11,o12,AE,false_or,false_and]
 ·rcases s with _|⟨b,_|⟨a,r⟩⟩;{simp[ht,AP,NH hop,ND]};{simp[ht,AP,NH hop,ND]};have hub:U64 b:=hu b (by simp);have hua:U64 a:=hu a (by simp);have hll:(b::a::r).length=r.length+2:=by simp
  have w5:IntKind.i64.wrap (((b::a::r).length:Int)-((2:Nat):Int))=(r.length:Int):=by rw[df _ (by omega)];omega
  have w6:IntKind.i64.wrap (((b::a::r).length:Int)-1)=((r.length+1:Nat):Int):=by rw[df _ (by omega)];omega
  have w7:IntKind.i64.wrap (((b::a::r).length:Int)-2)=(r.length:Int):=w5;have hc:cut (stk (b::a::r)).elems 0 (r.length:Int)=r.reverse.map aw:=nB [b,a] r;have e0:(stk (b::a::r)).elems.getD (r.length+1) .nil= .int b:=q18 b (a::r);have b1:¬((b::a::r).length:Int)<((2:Nat):Int):=by omega
  have b1':¬((b::a::r).length:Int)<2:=by omega
  have b2:(1:Int)<=((2:Nat):Int):=by omega
  have b3:((2:Nat):Int)=2:=rfl;have b4:(0:Int)<=(r.length:Int)/\(r.length:Int)<=((b::a::r).length:Int):=by omega
  have b8:(0:Int)<=(r.length:Int)/\(r.length:Int)<((b::a::r).length:Int):=by omega
  have b9:(0:Int)<=((r.length+1:Nat):Int)/\((r.length+1:Nat):Int)<((b::a::r).length:Int):=by omega
  have b5:¬(b::a::r).length<2:=by omega
  have b6:(1:Nat)<=2:=by omega
  have b7:(2:Nat)=2:=rfl;have b10:(1:Int)<=2:=by omega
  have o00:¬o=0:=fun h=>by subst h;exact absurd ht (by decide)
  simp only[ht,AP,AF,AK,AO,AV,Ac,Av,BW,Cm,DK,Ee,AB,AI,Ag,NH hop,AE,ND,br,and_self,b1,b1',b2,b3,b10,w5,w6,w7,hc,b4,b8,b9,z0,b5,b6,b7,bf,e0,z4F,uy,ia,qe,List.getD_cons_succ];by_cases o0:o=0;{exact absurd o0 o00};have o0':decide (o=0)=false:=decide_eq_false o0;have rl:r.length<=32:=(by omega);simp only[o0,AE,lq n a b g1 hua hub,AF,AK,AB,AI,ep,jd];have hlen:=z6L n a b;generalize Bn w o.toNat n a b=lf at hlen ⊢;obtain⟨l,f⟩:=lf;dsimp only at hlen ⊢;have c1:=z68 r.length l.length (by omega) (by omega);have c2:(r.length+l.length)*8<=140737488355328/\r.length+l.length<=9223372036854775807:=by omega
  by_cases hf:f=0
  case neg=>simp only[hf,AE,not_false_iff]
  by_cases full:32<r.length+l.length
  ·have zt:(32:Int)<((r.length+l.length:Nat):Int):=by omega
   simp only[hf,c1,full,zt,AE,not_true]
  ·have zt:¬(32:Int)<((r.length+l.length:Nat):Int):=by omega
   simp only[hf,c1,c2,full,zt,AE,not_true,and_self,Mk,AF,AB,w3,w4,bt,ep,jd,br,nC];by_cases o11:o=11
   ·have wn:IntKind.i64.wrap n=((n.toNat:Nat):Int):=by rw[df _ (by have:=h16 (.inl o11);omega)];omega
    simp only[o11,AE,true_or,wn]
   by_cases o12:o=12
   ·have wn:IntKind.i64.wrap n=((n.toNat:Nat):Int):=by rw[df _ (by have:=h16 (.inr o12);omega)];omega
    by_cases b0:b=0;{simp[o11,o12,b0,wn]};{simp[o11,o12,b0,wn]}
   ·simp only[o11,o12,AE,false_or,false_and]
end
section
variable {R:Type} {N:Nat}
def PF (b:Bool):U64 (Dk b):=by cases b <;> exact⟨by decide,by decide⟩
def z5m (n:Int):U64 (IntKind.u64.wrap n):=by
 have:IntKind.u64.wrap n=n%18446744073709551616:=by simp[al,jc,ig]
 rw[this];exact⟨by omega,by omega⟩
def eG {q:Int × Int} (h:U64 q.1):∀x∈(Io q).1,U64 x:=by unfold Io;split;{intro x hx;simp at hx;subst hx;exact h};{intro x hx;simp at hx}
def KM {n:Int} (h:U64 n):∀x∈[n],U64 x:=by intro x hx;simp at hx;subst hx;exact h
def q2w {n m:Int} (h:U64 n) (h2:U64 m):∀x∈[n,m],U64 x:=by intro x hx;simp at hx;rcases hx with rfl|rfl;{exact h};{exact h2}
def q8D {w:C} (hf:∀c∈(w.get 0).elems,U64 c.toInt) (hh:U64 (w.get 2).toInt) (op:Nat) {n a b:Int} (hn:U64 n) (ha:U64 a) (hb:U64 b):∀x∈(Bn w op n a b).1,U64 x:=by
 have u0:U64 0:=⟨by omega,by omega⟩;unfold Bn;split;{exact KM hn}
 ·split
  ·rename_i h;refine KM ?_;have hi:n.toNat<(w.get 0).elems.length:=by have:=hn.1;omega
   rw[bh,bg hi];exact hf _ (jx hi)
  ·intro x hx;simp at hx
 ·refine eG ?_;unfold Ap;split;{exact⟨by dsimp only;omega,by dsimp only;omega⟩};{exact u0}
 ·refine eG ?_;unfold BT;split;{exact u0};{exact z5m _}
 ·refine eG ?_;rw[v5 ha hb];have:=Int.mul_nonneg ha.1 hb.1;split;{exact⟨this,by assumption⟩};{exact u0}
 ·exact KM (PF _)
 ·exact KM (PF _)
 ·exact KM (PF _)
 ·exact KM (PF _)
 ·exact KM (PF _)
 ·exact q2w hb hb
 ·exact q2w hb ha
 ·split;{exact KM (PF _)};{intro x hx;simp at hx}
 ·exact KM hh
 ·intro x hx;simp at hx
def under {w} {o:Int} (ho:0<=o/\o<18) (h0:o≠0) (h12:o≠12) (n:Int) {s:List Int} (hlt:s.length<Ba o):(CG w o.toNat n ⟨s,0⟩).e=12:=by
 rcases s with _|⟨b,_|⟨a,r⟩⟩
 ·rcases PH ho with h|h|h|h|h|h|h|h|h|h|h|h|h|h|h|h|h|h <;> subst h <;> first
   |exact absurd rfl h0|exact absurd rfl h12|rfl|(exfalso;simp[Ba]at hlt;done)
 ·rcases PH ho with h|h|h|h|h|h|h|h|h|h|h|h|h|h|h|h|h|h <;> subst h <;> first
   |exact absurd rfl h0|exact absurd rfl h12|rfl|(exfalso;simp[Ba]at hlt;done)
 ·exfalso;unfold Ba at hlt;simp only[cg]at hlt
  (repeat' split at hlt) <;> omega
def z4B {w} {o:Int} (ho:0<=o/\o<18) (h0:o≠0) (h11:o≠11) (h12:o≠12) (n:Int) {s:List Int} (hs:s.length<=32) (hlt:¬s.length<Ba o):
  DF (s.drop (Ba o)) (Bn w o.toNat n (if Ba o=2 then s.getD 1 0 else 0) (if 1<=Ba o then s.getD 0 0 else 0)) (CG w o.toNat n ⟨s,0⟩):=by
 rcases PH ho with h|h|h|h|h|h|h|h|h|h|h|h|h|h|h|h|h|h <;> subst h;{exact absurd rfl h0};{exact Yc (by decide) n _ _ s};{exact Yc (by decide) n _ _ s};{rcases s with _|⟨b,_|⟨a,r⟩⟩;{exfalso;simp[Ba]at hlt};{exfalso;simp[Ba]at hlt};{exact Lg (by decide) n a b r (by simp at hs;omega)}};{rcases s with _|⟨b,_|⟨a,r⟩⟩;{exfalso;simp[Ba]at hlt};{exfalso;simp[Ba]at hlt};{exact Lg (by decide) n a b r (by simp at hs;omega)}};{rcases s with _|⟨b,_|⟨a,r⟩⟩;{exfalso;simp[Ba]at hlt};{exfalso;simp[Ba]at hlt};{exact Lg (by decide) n a b r (by simp at hs;omega)}};{rcases s with _|⟨b,_|⟨a,r⟩⟩;{exfalso;simp[Ba]at hlt};{exfalso;simp[Ba]at hlt};{exact Lg (by decide) n a b r (by simp at hs;omega)}};{rcases s with _|⟨b,_|⟨a,r⟩⟩;{exfalso;simp[Ba]at hlt};{exfalso;simp[Ba]at hlt};{exact Lg (by decide) n a b r (by simp at hs;omega)}};{rcases s with _|⟨b,r⟩;{exfalso;simp[Ba]at hlt};{exact nA (by decide) n _ b r (by simp at hs;omega)}};{rcases s with _|⟨b,_|⟨a,r⟩⟩;{exfalso;simp[Ba]at hlt};{exfalso;simp[Ba]at hlt};{exact Lg (by decide) n a b r (by simp at hs;omega)}};{rcases s with _|⟨b,_|⟨a,r⟩⟩;{exfalso;simp[Ba]at hlt};{exfalso;simp[Ba]at hlt};{exact Lg (by decide) n a b r (by simp at hs;omega)}};{exact absurd rfl h11};{exact absurd rfl h12};{rcases s with _|⟨b,r⟩;{exfalso;simp[Ba]at hlt};{exact nA (by decide) n _ b r (by simp at hs;omega)}};{rcases s with _|⟨b,_|⟨a,r⟩⟩;{exfalso;simp[Ba]at hlt};{exfalso;simp[Ba]at hlt};{exact Lg (by decide) n a b r (by simp at hs;omega)}};{rcases s with _|⟨b,r⟩;{exfalso;simp[Ba]at hlt};{exact nA (by decide) n _ b r (by simp at hs;omega)}};{exact Yc (by decide) n _ _ s};{exact Yc (by decide) n _ _ s}
def z3J {p:List C} (hp:ua (.slice 1 (.int .u8)) (.slice p)) (hl:p.length<=256) {gas:Int} (hg:0<=gas/\gas<=4096) {w:C} (hw:WOk w) (hb1:∀c∈(w.get 1).elems,c= .bool c.toBool)
  (hf:∀c∈(w.get 0).elems,U64 c.toInt) (hh:U64 (w.get 2).toInt) (hN:5000<N) (k:KD R):
  Ae N (Tn N k) [.slice p,.int gas,w,.slice [],.int 0,.int 0] []=k [.int (EO p gas w 0 0 ⟨[],0⟩).1,.int (EO p gas w 0 0 ⟨[],0⟩).2.1,.int (EO p gas w 0 0 ⟨[],0⟩).2.2] []:=by
 refine Hy (F:=Tn N k) (fun j:q3k=>[.slice p,.int gas,w,stk j.s,.int j.i,.int j.sp]) (fun _=>[]) (fun j=>(gas-j.sp).toNat)
  (fun j=>j.s.length<=32/\(∀a∈j.s,U64 a)/\0<=j.sp/\j.sp<=gas/\j.i<=100000) (fun j=>k [.int (EO p gas w j.i j.sp ⟨j.s,0⟩).1,.int (EO p gas w j.i j.sp ⟨j.s,0⟩).2.1,.int (EO p gas w j.i j.sp ⟨j.s,0⟩).2.2] [])
  ?_ N ⟨0,0,[]⟩ ⟨by simp,by simp,by dsimp only;omega,by dsimp only;omega,by dsimp only;omega⟩ (by dsimp only;omega)
 rintro⟨i,sp,s⟩ ⟨hs,hu,h0,h1,hi⟩ rec zd;dsimp only at hs hu h0 h1 hi zd ⊢;rw[z3H hp hl hg hw hb1 hN k rec i hi sp h0 h1 s hs hu,q1r];by_cases e1:Ar p i=0
 case neg=>simp[e1]
 have hb:i<p.length/\bN p i<18/\i+1+BA (bN p i)<=p.length:=by unfold Ar at e1;split at e1;{cases e1};split at e1;{cases e1};split at e1;{cases e1};omega
 have hbw:=Hm hp hb.1;have hop:0<=bN p i/\bN p i<18:=by omega
 have hcp:=Qs (bN p i);have hmo:=KH (bN p i);obtain⟨g1,g2,_⟩:=Lx hp (i:=i+1) (k:=BA (bN p i)) (by omega) hmo;have h16:bN p i=11\/bN p i=12->0<=CP p i/\CP p i<65536:=fun h=>VG hp hb.2.2 h;have hq:CC p (i+1) (BA (bN p i))=CP p i:=rfl;rw[hq]at g1 g2;have hnu:U64 (CP p i):=⟨g1,by omega⟩;have e1':¬Ar p i≠0:=by simpa using e1
 rw[if_neg e1',if_neg e1'];by_cases e2:gas<sp+Bv (bN p i)
 ·have e2':gas-sp<Bv (bN p i):=by omega
  rw[if_pos e2,if_pos e2']
 have e2':¬gas-sp<Bv (bN p i):=by omega
 rw[if_neg e2,if_neg e2'];have z70:=PH hop;generalize bN p i=o at*;generalize CP p i=n at*;generalize Bv o=c at*;clear hq;by_cases e3:s.length<Ba o;{rw[if_pos e3];by_cases o0:o=0;{subst o0;rcases s with _|⟨b,r⟩;{rfl};{exact absurd e3 (by simp[Ba])}};by_cases o11:o=11;{subst o11;exact absurd e3 (by simp[Ba])};by_cases o12:o=12;{subst o12;rcases s with _|⟨b,r⟩;{rfl};{exact absurd e3 (by simp[Ba])}};have hun:=under (w:=w) hop o0 o12 n e3;rw[if_neg o0,if_neg o11,if_neg o12,if_pos (by rw[hun];decide),hun]};rw[if_neg e3];by_cases o0:o=0;{subst o0;rcases s with _|⟨b,r⟩;{exact absurd (show(0:Nat)<1 by omega) e3};{rfl}};rw[if_neg o0,if_neg o0]
 have z54:∀(q:List Int),(∀a∈q,U64 a)->q.length<=32->∀at',at'<=100000->rec [.slice p,.int gas,w,stk q,.int (at':Nat),.int (sp+c)] []=k [.int (EO p gas w at' (sp+c) ⟨q,0⟩).1,.int (EO p gas w at' (sp+c) ⟨q,0⟩).2.1,.int (EO p gas w at' (sp+c) ⟨q,0⟩).2.2] []:=
  fun q hq hl at' ha=>zd ⟨at',sp+c,q⟩ ⟨hl,hq,by dsimp only;omega,by dsimp only;omega,ha⟩ (by dsimp only;omega)
 by_cases o11:o=11
 ·subst o11;have:=h16 (.inl rfl);have q:=z54 s hu hs n.toNat (by omega);have f32:¬32<s.length:=by omega
  simpa[Ba,Bn,f32]using q
 by_cases o12:o=12
 ·subst o12;have:=h16 (.inr rfl);rcases s with _|⟨b,r⟩;{exact absurd (show(0:Nat)<1 by omega) e3};have hrl:r.length<=31:=by simp at hs;omega
  have f32:¬32<r.length:=by omega
  have hur:∀a∈r,U64 a:=fun a ha=>hu a (by simp[ha]);have hm12:BA 12=2:=rfl;by_cases b0:b=0;{have q:=z54 r hur (by omega) (i+1+BA 12) (by omega);subst b0;simpa[Ba,Bn,St.pop,f32]using q};{have q:=z54 r hur (by omega) n.toNat (by omega);simpa[Ba,Bn,St.pop,f32,b0]using q}
 rw[if_neg o11,if_neg o12];have hS:=z4B (w:=w) hop o0 o11 o12 n hs e3;have ha:U64 (if Ba o=2 then s.getD 1 0 else 0):=by split;{rw[bh,bg (by omega)];exact hu _ (jx _)};{exact⟨by omega,by omega⟩}
 have hbb:U64 (if 1<=Ba o then s.getD 0 0 else 0):=by split;{rw[bh,bg (by omega)];exact hu _ (jx _)};{exact⟨by omega,by omega⟩}
 have hlu:=q8D hf hh o.toNat hnu ha hbb;dsimp only;generalize (if Ba o=2 then s.getD 1 0 else 0)=a at*;generalize (if 1<=Ba o then s.getD 0 0 else 0)=b at*;generalize Bn w o.toNat n a b=lf at*;generalize CG w o.toNat n ⟨s,0⟩=y at*;have hdu:∀a∈s.drop (Ba o),U64 a:=fun a ha=>hu a (List.mem_of_mem_drop ha);generalize s.drop (Ba o)=r at*;by_cases f1:lf.2=0
 case neg=>
  have hy:=hS.bad f1;rw[if_pos f1,if_pos (by rw[hy];exact f1),hy]
 rw[if_neg (by simpa using f1)];by_cases f2:32<r.length+lf.1.length;{have hy:=hS.full f1 f2;rw[if_pos f2,if_pos (by rw[hy];decide),hy]}
 ·have hy:=hS.ok f1 f2;subst hy;have hne:¬(o=11\/o=12/\b≠0):=fun h=>h.elim o11 fun h=>o12 h.1;rw[if_neg f2,if_neg hne,if_neg (by simp)]
  exact z54 (lf.1.reverse++r) (fun a ha=>by
   rcases List.mem_append.1 ha with h|h;{exact hlu a (List.mem_reverse.1 h)}
   ·exact hdu a h) (by simp;omega) _ (by omega)
end
def ZW (a0 a1 a2:C) (k1:KD R):Option R:=jn (fun d1 m1=>(bif cz (dk d1 2)then(k1 [aw 0,aw 1,BG] [])else(MF N (dk d1 3) (dk d1 1) (fun d2 m2=>(bif !decide (aj (dk d2 0)=0)then(k1 [aw 0,dk d2 0,BG] [])else(MD N (dk d1 3) (dk d1 1) (fun d3 m3=>(if 0<=aj (dk d1 0)/\aj (dk d1 0)<2 then(if 0<=aj (dk d1 0)/\aj (dk d1 0)<2 then(bif decide (al av (aj (ax (ax (ax (dk d3 0) 8) 3) (aq (aj (dk d1 0))))-aj (ax (ax (dk d3 0) 5) (aq (aj (dk d1 0)))))=0)then(k1 [aw 0,aw 6,BG] [])else(if 0<=aj (dk d1 0)/\aj (dk d1 0)<2 then(if 0<=aj (dk d1 0)/\aj (dk d1 0)<2 then(k1 [aw (al av (aj (ax (ax (ax (dk d3 0) 8) 3) (aq (aj (dk d1 0))))-aj (ax (ax (dk d3 0) 5) (aq (aj (dk d1 0)))))),aw 0,ct (dk d3 0) 5 (ct (ax (dk d3 0) 5) (aq (aj (dk d1 0))) (aw (al av (aj (ax (ax (dk d3 0) 5) (aq (aj (dk d1 0))))+al av (aj (ax (ax (ax (dk d3 0) 8) 3) (aq (aj (dk d1 0))))-aj (ax (ax (dk d3 0) 5) (aq (aj (dk d1 0)))))))))] [])else none)else none))else none)else none)))))))) (fun k2=>(bif !decide (aj a1=0)then(k2 [a1,a2,cd !decide (aj a1=1),a0,BG] [])else(k2 [a1,a2,cd false,a0,BG] [])))
def Qe:=lid "" (@ZW R N)
def qE {R N a0 a1 a2 k}:@Qe R N a0 a1 a2 k=ZW N a0 a1 a2 k:=by unfold Qe;rw[AW]
def q3Q:OvG R:=Af [Az,.int .i64,EE] (Ds (Qe N)) fun a K d1 m1=>K (ou [V.d Az (dk d1 2),V.d (bn av) (dk d1 0),V.d (bn ar) (dk d1 1)]) []
def q3R:okX 50 (@q3Q R N):=Ai (AH (Zg N) <| AH (Ze N) <| AZ) N [(50,[(0,[(5,5)])])] [(50,[([0,0,1],(AY [1,3,5,6] [(16,.d .bool)])),
  ([9],⟨[],[(6,.as (.ptr (.l 6) [] Az)),(7,.d (.int .u64)),(8,.d (.int .i64))],[],[(.l 6,.box (.d Az))],[],[]⟩)])] (fun _ _=>qE)
def Zb (a0 a1 a2:C) (k1:KD R):Option R:=bif decide (aj (ax a0 6)=0)then(k1 [aw 3,BG] [])else(MF N a0 a1 (fun d1 m1=>(bif !decide (aj (dk d1 0)=0)then(k1 [dk d1 0,BG] [])else(bif decide (aj (ax a0 7)<=aj a2)then(k1 [aw 29,BG] [])else(bif decide (aj (ax (ax a1 0) 1)<=aj (ax (ax a0 8) 1))then(k1 [aw 25,BG] [])else(MD N a0 a1 (fun d2 m2=>(k1 [aw 0,dk d2 0] []))))))))
def Qi:=lid "" (@Zb R N)
def qJ {R N a0 a1 a2 k}:@Qi R N a0 a1 a2 k=Zb N a0 a1 a2 k:=by unfold Qi;rw[AW]
def q32:OvG R:=Af [Az,EE,.int .u64] (Ds (Qi N)) fun a K d1 m1=>K (ou [V.d Az (dk d1 1),V.d (bn ar) (dk d1 0)]) []
def q33:okX 15 (@q32 R N):=Ai (AH (Zg N) <| AH (Ze N) <| AZ) N [(15,[(0,[(3,5),(4,5)])])] [(15,[([9],⟨[],[(6,.as (.ptr (.l 6) [] Az)),(7,.d (.int .i64))],[],[(.l 6,.box (.d Az))],[],[]⟩)])] (fun _ _=>qJ)
def lH (a0 a1 a2:C) (k1:KD R):Option R:=bif decide (aj (ax a1 6)=2)then(k1 [aw 31] [])else(Jg N a0 (ax a1 2) a2 (ax a1 0) (fun d1 m1=>(bif !cz (dk d1 0)then(k1 [aw 20] [])else(Pu N (ax a2 0) (ax a1 4) (fun d2 m2=>(bif !decide (aj (dk d2 0)=0)then(k1 [dk d2 0] [])else(jn (fun d3 m3=>(bif cz (dk d3 0)then(k1 [aw 12] [])else(k1 [aw 0] []))) (fun k2=>(bif decide (aj (ax (ax a1 8) 1)<aj (ax (ax a2 0) 1))then(bif decide (aj (ax (ax (ax a2 0) 3) (aq 0))<aj (ax (ax a1 5) (aq 0)))then(k2 [cd true] [])else(k2 [cd (decide (aj (ax (ax (ax a2 0) 3) (aq 1))<aj (ax (ax a1 5) (aq 1))))] []))else(k2 [cd false] []))))))))))
def Mw:=lid "" (@lH R N)
def q0Q {R N a0 a1 a2 k}:@Mw R N a0 a1 a2 k=lH N a0 a1 a2 k:=by unfold Mw;rw[AW]
def z21:OvG R:=Af [Br,Az,EE] (Ds (Mw N)) (BD (bn ar))
def lG:okX 75 (@z21 R N):=Ai (AH (z2S N) <| AH (q0C N) <| AZ) N [(75,[(0,[(3,5),(4,5),(5,5)])])] [(75,[([0,0,1,1,1,1,1],(Ah [(53,.d .bool)])),
  ([9],(Ah [(6,.d (.int .i64))]))])] (fun _ _=>q0Q)
def lP {R:Type} (N:Nat) (a0 a1:C) (k1:KD R):Option R:=jn (fun d1 m1=>(k1 [dk d1 0] [])) (fun k2=>(bif decide (aj (ax (ax a0 8) 1)<aj (ax (ax a1 0) 1))then(k2 [ct a0 8 (ax a1 0),BG] [])else(k2 [a0,BG] [])))
def Mx:=lid "" (@lP R N)
def q0X {R N a0 a1 k}:@Mx R N a0 a1 k=lP N a0 a1 k:=by unfold Mx;rw[AW]
def z3b:OvG R:=Af [Az,EE] (Bl (Mx N)) (BD Az)
def lN:okX 76 (@z3b R N):=Ai AZ N [(76,[(0,[(3,5)])])] [(76,[([1,0,1],(AY [2,4] [])),
  ([9],⟨[],[(4,.as (.ptr (.l 4) [] Az))],[],[(.l 4,.box (.d Az))],[],[]⟩)])] (fun _ _=>q0X)
def lD (a0 a1 a2 a3:C) (k1:KD R):Option R:=jn (fun d1 m1=>(bif cz (dk d1 3)then(k1 [aw 0,aw 1,BG] [])else(Mw N (dk d1 1) (dk d1 4) (dk d1 2) (fun d2 m2=>(bif !decide (aj (dk d2 0)=0)then(k1 [aw 0,dk d2 0,BG] [])else(Mx N (dk d1 4) (dk d1 2) (fun d3 m3=>(if 0<=aj (dk d1 0)/\aj (dk d1 0)<2 then(if 0<=aj (dk d1 0)/\aj (dk d1 0)<2 then(bif decide (al av (aj (ax (ax (ax (dk d3 0) 8) 3) (aq (aj (dk d1 0))))-aj (ax (ax (dk d3 0) 5) (aq (aj (dk d1 0)))))=0)then(k1 [aw 0,aw 6,BG] [])else(if 0<=aj (dk d1 0)/\aj (dk d1 0)<2 then(if 0<=aj (dk d1 0)/\aj (dk d1 0)<2 then(k1 [aw (al av (aj (ax (ax (ax (dk d3 0) 8) 3) (aq (aj (dk d1 0))))-aj (ax (ax (dk d3 0) 5) (aq (aj (dk d1 0)))))),aw 0,ct (dk d3 0) 5 (ct (ax (dk d3 0) 5) (aq (aj (dk d1 0))) (ax (ax (ax (dk d3 0) 8) 3) (aq (aj (dk d1 0)))))] [])else none)else none))else none)else none)))))))) (fun k2=>(bif !decide (aj a2=0)then(k2 [a2,a0,a3,cd !decide (aj a2=1),a1,BG] [])else(k2 [a2,a0,a3,cd false,a1,BG] [])))
def Tz:=lid "" (@lD R N)
def q0N {R N a0 a1 a2 a3 k}:@Tz R N a0 a1 a2 a3 k=lD N a0 a1 a2 a3 k:=by unfold Tz;rw[AW]
def z2T:OvG R:=Af [Br,Az,.int .i64,EE] (fun a=>Tz N (a 0) (a 1) (a 2) (a 3)) fun a K d1 m1=>K (ou [V.d Az (dk d1 2),V.d (bn av) (dk d1 0),V.d (bn ar) (dk d1 1)]) []
def z2U:okX 51 (@z2T R N):=Ai (AH (lG N) <| AH (lN N) <| AZ) N [(51,[(0,[(4,5),(7,5)])])] [(51,[([0,0,1],(AY [2,4,5,7,8] [(18,.d .bool)])),
  ([9],⟨[],[(8,.as (.ptr (.l 8) [] Az)),(9,.d (.int .u64)),(10,.d (.int .i64))],[],[(.l 8,.box (.d Az))],[],[]⟩)])] (fun _ _=>q0N)
def lM (a0:C) (k1:KD R):Option R:=Tp N (ax a0 3) (dh [bc [ax (ax a0 4) (aq 0),ax (ax a0 4) (aq 1),ax (ax a0 8) 1],bc [],AJ (bn av)]) (aw 200) (fun d1 m1=>(bif !decide (aj (dk d1 2)=0)then(k1 [aw 5] [])else(bif decide (aj (dk d1 0)<1)then(k1 [aw 1] [])else(bif decide (50<aj (dk d1 0))then(k1 [aw 50] [])else(k1 [dk d1 0] [])))))
def UF:=lid "" (@lM R N)
def q0W {R N a0 k}:@UF R N a0 k=lM N a0 k:=by unfold UF;rw[AW]
def z29:OvG R:=Af [Az] (Bs (UF N)) (BD (bn av))
def z3a:okX 77 (@z29 R N):=Ai (AH (z2q N) <| AZ) N [(77,[(0,[(1,5)])])] [(77,[([9],(Ah [(2,.d (.int .u64))]))])] (fun _ _=>q0W)
def lF (a0 a1 a2 a3:C) (k1:KD R):Option R:=bif decide (aj (ax a1 6)=1)then(k1 [aw 3,BG] [])else(Mw N a0 a1 a2 (fun d1 m1=>(bif !decide (aj (dk d1 0)=0)then(k1 [dk d1 0,BG] [])else(Mx N a1 a2 (fun d2 m2=>(UF N (dk d2 0) (fun d3 m3=>(Fv N a3 (dk d3 0) (fun d4 m4=>(bif !decide (aj (dk d4 1)=0)then(k1 [dk d4 1,BG] [])else(k1 [aw 0,ct (ct (dk d2 0) 6 (aw 1)) 7 (dk d4 0)] [])))))))))))
def UB:=lid "" (@lF R N)
def q0P {R N a0 a1 a2 a3 k}:@UB R N a0 a1 a2 a3 k=lF N a0 a1 a2 a3 k:=by unfold UB;rw[AW]
def z2Z:OvG R:=Af [Br,Az,EE,.int .u64] (fun a=>UB N (a 0) (a 1) (a 2) (a 3)) fun a K d1 m1=>K (ou [V.d Az (dk d1 1),V.d (bn ar) (dk d1 0)]) []
def z20:okX 52 (@z2Z R N):=Ai (AH (LS N) <| AH (lG N) <| AH (lN N) <| AH (z3a N) <| AZ) N [(52,[(0,[(4,5),(6,5)])])] [(52,[([9],⟨[],[(8,.as (.ptr (.l 8) [] Az)),(9,.d (.int .i64))],[],[(.l 8,.box (.d Az))],[],[]⟩)])] (fun _ _=>q0P)
def lL (a0 a1 a2 a3:C) (k1:KD R):Option R:=bif decide (aj (ax a1 6)=0)then(k1 [aw 3,BG] [])else(Mw N a0 a1 a2 (fun d1 m1=>(bif !decide (aj (dk d1 0)=0)then(k1 [dk d1 0,BG] [])else(bif decide (aj (ax a1 7)<=aj a3)then(k1 [aw 29,BG] [])else(bif decide (aj (ax (ax a2 0) 1)<=aj (ax (ax a1 8) 1))then(k1 [aw 25,BG] [])else(Mx N a1 a2 (fun d2 m2=>(k1 [aw 0,dk d2 0] []))))))))
def UE:=lid "" (@lL R N)
def q0V {R N a0 a1 a2 a3 k}:@UE R N a0 a1 a2 a3 k=lL N a0 a1 a2 a3 k:=by unfold UE;rw[AW]
def z27:OvG R:=Af [Br,Az,EE,.int .u64] (fun a=>UE N (a 0) (a 1) (a 2) (a 3)) fun a K d1 m1=>K (ou [V.d Az (dk d1 1),V.d (bn ar) (dk d1 0)]) []
def z28:okX 53 (@z27 R N):=Ai (AH (lG N) <| AH (lN N) <| AZ) N [(53,[(0,[(4,5),(5,5),(6,5)])])] [(53,[([9],⟨[],[(8,.as (.ptr (.l 8) [] Az)),(9,.d (.int .i64))],[],[(.l 8,.box (.d Az))],[],[]⟩)])] (fun _ _=>q0V)
def lI (a0 a1 a2:C) (k1:KD R):Option R:=jn (fun d1 m1=>(bif cz (dk d1 2)then(k1 [aw 1,BG] [])else(bif decide (aj (ax (dk d1 3) 6)=2)then(k1 [aw 31,BG] [])else(if 0<=aj (dk d1 0)/\aj (dk d1 0)<2 then(Fv N (ax (ax (dk d1 3) 4) (aq (aj (dk d1 0)))) (dk d1 1) (fun d2 m2=>(bif !decide (aj (dk d2 1)=0)then(k1 [dk d2 1,BG] [])else(if 0<=aj (dk d1 0)/\aj (dk d1 0)<2 then(Fv N (ax (ax (ct (dk d1 3) 4 (ct (ax (dk d1 3) 4) (aq (aj (dk d1 0))) (dk d2 0))) 4) (aq 0)) (ax (ax (ct (dk d1 3) 4 (ct (ax (dk d1 3) 4) (aq (aj (dk d1 0))) (dk d2 0))) 4) (aq 1)) (fun d3 m3=>(bif !decide (aj (dk d3 1)=0)then(k1 [dk d3 1,BG] [])else(k1 [aw 0,ct (dk d1 3) 4 (ct (ax (dk d1 3) 4) (aq (aj (dk d1 0))) (dk d2 0))] []))))else none))))else none)))) (fun k2=>(bif !decide (aj a1=0)then(bif !decide (aj a1=1)then(k2 [a1,a2,cd true,a0,BG] [])else(k2 [a1,a2,cd (decide (aj a2=0)),a0,BG] []))else(k2 [a1,a2,cd (decide (aj a2=0)),a0,BG] [])))
def UC:=lid "" (@lI R N)
def q0R {R N a0 a1 a2 k}:@UC R N a0 a1 a2 k=lI N a0 a1 a2 k:=by unfold UC;rw[AW]
def z22:OvG R:=Af [Az,.int .i64,.int .u64] (Ds (UC N)) fun a K d1 m1=>K (ou [V.d Az (dk d1 1),V.d (bn ar) (dk d1 0)]) []
def z23:okX 48 (@z22 R N):=Ai (AH (LS N) <| AZ) N [] [(48,[([0,0,1],(AY [1,2,3,6] [(19,.d .bool)])),
  ([9],⟨[],[(6,.as (.ptr (.l 6) [] Az)),(7,.d (.int .i64))],[],[(.l 6,.box (.d Az))],[],[]⟩)])] (fun _ _=>q0R)
section
variable {R:Type} {N:Nat}
def z3I {p} (hp:ua (.slice 1 (.int .u8)) (.slice p)) {gas:Int} {w:C} (hw:WOk w) (hb1:∀c∈(w.get 1).elems,c= .bool c.toBool)
  (hf:∀c∈(w.get 0).elems,U64 c.toInt) (hh:U64 (w.get 2).toInt) (hN:5000<N) (k:KD R):
  Tp N (.slice p) w (.int gas) k=k [.int (GZ p w gas).1,.int (GZ p w gas).2.1,.int (GZ p w gas).2.2] []:=by
 rw[q0t];unfold kJ GZ;by_cases a1:(256:Int)<(p.length:Int)
 ·have a1':256<p.length:=by omega
  simp only[AP,go_sem,AI,AB,Ag,a1,a1',AE,true_or]
 have a1':¬256<p.length:=by omega
 by_cases a2:gas<0;{simp only[AP,go_sem,AI,AB,Ag,a1,a1',a2,AE,true_or,or_true]};by_cases a3:(4096:Int)<gas;{simp only[AP,go_sem,AI,AB,Ag,a1,a1',a2,a3,AE,true_or,or_true]}
 ·have a4:¬(256<p.length\/gas<0\/4096<gas):=by omega
  rw[if_neg a4];simp only[AP,go_sem,AI,AB,Ag,a1,a2,a3,AE];exact z3J hp (by omega) (by omega) hw hb1 hf hh hN k
section
variable {id who rts:C} {yj:List C} {put yi ph un yh:C}
def z02 (yh yi s:C):okE (Ax (KN yh yi s) 0 () [0,1])=if(yh.get 1).toInt<(s.get 1).toInt/\(((s.get 3).get 0).toInt<(yi.get 0).toInt\/((s.get 3).get 1).toInt<(yi.get 1).toInt)then 12 else 0:=by by_cases h:(yh.get 1).toInt<(s.get 1).toInt;{by_cases h0:((s.get 3).get 0).toInt<(yi.get 0).toInt;{simp[Ax,KN,okE,h,h0]};{by_cases h1:((s.get 3).get 1).toInt<(yi.get 1).toInt <;> simp[Ax,KN,okE,h,h0,h1]}};{simp[Ax,KN,okE,h]}
def mF {T d:C} {w:Bool} (hW:∀k:KD R,Jg N T rts d id k=k [.bool w] []) (hst:StN (d.get 0) put) (hN:2199023255552<N) (k:KD R):
  Mw N T (mkB id who rts yj put yi ph un yh) d k=k [.int (EB ph put yi yh d w)] []:=by
 have t0:aq 0=0:=rfl;have t1:aq 1=1:=rfl;rw[q0Q];unfold lH EB mkB;simp only[AP,Eg,Kt,Oa,cW,cX,WH,AB,Ag,hW,q1o (d.get 0) put hst hN,AF,t0,t1,z02];by_cases h1:ph.toInt=2;{simp[h1]};cases w;{simp[h1]};by_cases h2:ED (d.get 0) put=0
 case neg=>simp[h1,h2]
 by_cases h3:(yh.get 1).toInt<((d.get 0).get 1).toInt;{by_cases h4:(((d.get 0).get 3).get 0).toInt<(yi.get 0).toInt;{simp[h1,h2,h3,h4]};{by_cases h5:(((d.get 0).get 3).get 1).toInt<(yi.get 1).toInt <;> simp[h1,h2,h3,h4,h5]}};{simp[h1,h2,h3]}
def mB (d:C) (k:KD R):Mx N (mkB id who rts yj put yi ph un yh) d k=k [mkB id who rts yj put yi ph un (BL yh d)] []:=by rw[q0X];unfold lP BL mkB;simp only[AP,WH];by_cases h:(yh.get 1).toInt<((d.get 0).get 1).toInt;{simp only[h,AE,AF];rfl};{simp only[h,AE,AF]}
structure BU (put yh:C):Prop where
 i:QS put yh
 u0:U64 (put.get 0).toInt
 u1:U64 (put.get 1).toInt
 u2:U64 (yh.get 1).toInt
def z31 (hr:ua (.slice 1 (.int .u8)) (.slice yj)) (h:BU put yh) (hN:5000<N) (k:KD R):UF N (mkB id who rts yj put yi ph un yh) k=k [.int (Gw yj put yh)] []:=by
 rw[q0W];unfold lM mkB Gw;have hw:dh [bc [put.get (aq 0),put.get (aq 1),yh.get 1],bc [],AJ (bn av)]=Gd put yh:=rfl;have hb1:∀c∈((Gd put yh).get 1).elems,c= .bool c.toBool:=fun c hc=>nomatch hc
 have hf:∀c∈((Gd put yh).get 0).elems,U64 c.toInt:=by intro c hc;have hc:c∈[put.get 0,put.get 1,yh.get 1]:=hc;simp only[List.mem_cons,ic,or_false]at hc;rcases hc with rfl|rfl|rfl;{exact h.u0};{exact h.u1};{exact h.u2}
 have hh:U64 ((Gd put yh).get 2).toInt:=(⟨by decide,by decide⟩:U64 0);simp only[cV,Oa,WH,hw,z3I hr (q22 h.i) hb1 hf hh hN];simp only[go_sem,AB];generalize GZ yj (Gd put yh) 200=r;by_cases h1:r.2.2=0
 case neg=>simp[h1]
 by_cases h2:r.1<1
 ·have a:¬50<r.1:=by omega
  have b:¬1<r.1:=by omega
  simp[h1,h2,a,b]
 ·by_cases h3:50<r.1;{simp[h1,h2,h3]}
  ·by_cases h4:1<r.1;{simp[h1,h2,h3,h4]}
   ·have:r.1=1:=by omega
    simp[h1,h2,h3,this]
def z3p {T d:C} {w:Bool} (hW:∀k:KD R,Jg N T rts d id k=k [.bool w] []) (hst:StN (d.get 0) put) (hr:ua (.slice 1 (.int .u8)) (.slice yj)) (hi:BU put (BL yh d)) (hN:2199023255552<N) (yk:C) (hh:W64 yk.toInt) (k:KD R):
  UB N T (mkB id who rts yj put yi ph un yh) d yk k=k [.int (HG id who rts yj put yi ph un yh d w yk.toInt).1,(HG id who rts yj put yi ph un yh d w yk.toInt).2] []:=by
 have wr:=z47 yj put (BL yh d);have ww:W64 (Gw yj put (BL yh d)):=⟨by omega,by omega⟩;have h6:(mkB id who rts yj put yi ph un yh).get 6=ph:=rfl;rw[q0P];unfold lF HG;rw[GC];simp only[h6,mF hW hst hN,AF,AB,mB,z31 hr hi (show 5000<N by omega)];rw[Je yk (.int (Gw yj put (BL yh d))) hh ww];simp only[AF,AK,AB];by_cases h1:ph.toInt=1;{simp[h1]};by_cases h2:EB ph put yi yh d w=0
 case neg=>simp[h1,h2]
 by_cases h3:(Ap yk.toInt (Gw yj put (BL yh d))).2=0
 case neg=>simp[h1,h2,h3]
 simp only[h1,h2,h3,AE,ne_eq,not_true];rfl
def Hh (id who rts:C) (yj:List C) (put yi ph un yh d:C) (w:Bool) (yk:Int):Int × C:=
 if ph.toInt=0 then(3,zB)else if EB ph put yi yh d w≠0 then(EB ph put yi yh d w,zB)else
  if un.toInt<=yk then(29,zB)else if((d.get 0).get 1).toInt<=(yh.get 1).toInt then(25,zB)else(0,mkB id who rts yj put yi ph un (BL yh d))
def z4b {d:C} {w:Bool} (hW:∀k:KD R,JQ N rts d id k=k [.bool w] []) (h:SOk yh) (hd:SOk (d.get 0)) (hN:2199023255552<N) (yk:C) (k:KD R):
  Qi N (mkB id who rts yj put yi ph un yh) d yk k=k [.int (Hh id who rts yj put yi ph un yh d w yk.toInt).1,(Hh id who rts yj put yi ph un yh d w yk.toInt).2] []:=by
 have h6:(mkB id who rts yj put yi ph un yh).get 6=ph:=rfl;have h7:(mkB id who rts yj put yi ph un yh).get 7=un:=rfl;have h8:(mkB id who rts yj put yi ph un yh).get 8=yh:=rfl;rw[qJ];unfold Zb Hh;rw[GC];simp only[h6,h7,h8,look_eq hW hN,AF,AB,ZV h hd];by_cases h1:ph.toInt=0;{simp[h1]};by_cases h2:EB ph put yi yh d w=0
 case neg=>simp[h1,h2]
 by_cases h3:un.toInt<=yk.toInt;{simp[h1,h2,h3]};by_cases h4:((d.get 0).get 1).toInt<=(yh.get 1).toInt <;> simp[h1,h2,h3,h4]
def z3K {T d:C} {w:Bool} (hW:∀k:KD R,Jg N T rts d id k=k [.bool w] []) (hst:StN (d.get 0) put) (hN:2199023255552<N) (yk:C) (k:KD R):
  UE N T (mkB id who rts yj put yi ph un yh) d yk k=k [.int (Hh id who rts yj put yi ph un yh d w yk.toInt).1,(Hh id who rts yj put yi ph un yh d w yk.toInt).2] []:=by
 have h6:(mkB id who rts yj put yi ph un yh).get 6=ph:=rfl;have h7:(mkB id who rts yj put yi ph un yh).get 7=un:=rfl;have h8:(mkB id who rts yj put yi ph un yh).get 8=yh:=rfl;rw[q0V];unfold lL Hh;rw[GC];simp only[h6,h7,h8,mF hW hst hN,AF,AB,mB];by_cases h1:ph.toInt=0;{simp[h1]};by_cases h2:EB ph put yi yh d w=0
 case neg=>simp[h1,h2]
 by_cases h3:un.toInt<=yk.toInt;{simp[h1,h2,h3]};by_cases h4:((d.get 0).get 1).toInt<=(yh.get 1).toInt <;> simp[h1,h2,h3,h4]
def PV (yi yh d:C) (side:Nat):Int:=IntKind.u64.wrap ((((BL yh d).get 3).get side).toInt-(yi.get side).toInt)
def Ef (id who rts:C) (yj:List C) (put yi ph un yh d:C) (w:Bool) (side:Int):Int × Int × C:=
 if side≠0/\side≠1 then(0,1,zB)else if EB ph put yi yh d w≠0 then(0,EB ph put yi yh d w,zB)else
  if PV yi yh d side.toNat=0 then(0,6,zB)else(PV yi yh d side.toNat,0,mkB id who rts yj put (yi.set side.toNat (((BL yh d).get 3).get side.toNat)) ph un (BL yh d))
def z4d (side:Int) (a b c e:C) (K:KD R):(bif !decide (side=0)then K [a,b,.bool (!decide (side=1)),c,e] []else K [a,b,.bool false,c,e] [])=K [a,b,.bool (decide (side≠0/\side≠1)),c,e] []:=by by_cases h0:side=0;{simp[h0]};{by_cases h1:side=1 <;> simp[h0,h1]}
def z4e (side:Int) (a b f c e:C) (K:KD R):(bif !decide (side=0)then K [a,b,f,.bool (!decide (side=1)),c,e] []else K [a,b,f,.bool false,c,e] [])=K [a,b,f,.bool (decide (side≠0/\side≠1)),c,e] []:=by by_cases h0:side=0;{simp[h0]};{by_cases h1:side=1 <;> simp[h0,h1]}
def q5M {d:C} {w:Bool} (hW:∀k:KD R,JQ N rts d id k=k [.bool w] []) (h:SOk yh) (hd:SOk (d.get 0)) (hN:2199023255552<N) (side:C)
  (hp:∀i<2,W64 (yi.get i).toInt) (ht:∀i<2,((BL yh d).get 3).get i= .int (((BL yh d).get 3).get i).toInt/\W64 (((BL yh d).get 3).get i).toInt) (k:KD R):
  Qe N (mkB id who rts yj put yi ph un yh) side d k=k [.int (Ef id who rts yj put yi ph un yh d w side.toInt).1,.int (Ef id who rts yj put yi ph un yh d w side.toInt).2.1,(Ef id who rts yj put yi ph un yh d w side.toInt).2.2] []:=by
 rw[qE];unfold ZW Ef;rw[GC];refine(Oh [side,d,.bool (decide (side.toInt≠0/\side.toInt≠1)),mkB id who rts yj put yi ph un yh,zB] [] fun K=>z4d _ _ _ _ _ K).trans ?_;by_cases h0:side.toInt≠0/\side.toInt≠1;{simp only[AO,Ag,h0,AE,ne_eq,not_false_iff,and_self]};have hs:0<=side.toInt/\side.toInt<2:=by omega
 have h5:(mkB id who rts yj put yi ph un (BL yh d)).get 5=yi:=rfl;have h8:(mkB id who rts yj put yi ph un (BL yh d)).get 8=BL yh d:=rfl;rw[if_neg h0];simp only[AF,AK,AO,AV,Ag,h0,AE,look_eq hW hN,AB,ZV h hd,hs,and_self,h5,h8];by_cases h1:EB ph put yi yh d w=0
 case neg=>simp[h1]
 simp only[h1,AE,ne_eq,not_true];obtain⟨t1,t2,t3⟩:=ht side.toInt.toNat (by omega);obtain⟨p1,p2⟩:=hp side.toInt.toNat (by omega);have wu:∀n:Int,IntKind.u64.wrap n=n%18446744073709551616:=fun n=>by simp[al,jc,ig]
 have back:IntKind.u64.wrap ((yi.get side.toInt.toNat).toInt+IntKind.u64.wrap ((((BL yh d).get 3).get side.toInt.toNat).toInt-(yi.get side.toInt.toNat).toInt))=(((BL yh d).get 3).get side.toInt.toNat).toInt:=by rw[wu,wu];omega
 rw[back,<-t1];unfold PV;by_cases h2:IntKind.u64.wrap ((((BL yh d).get 3).get side.toInt.toNat).toInt-(yi.get side.toInt.toNat).toInt)=0;{simp only[h2,AE]};{simp only[h2,AE];rfl}
def z1r {T d:C} {w:Bool} (hW:∀k:KD R,Jg N T rts d id k=k [.bool w] []) (hst:StN (d.get 0) put) (hN:2199023255552<N) (side:C) (k:KD R):
  Tz N T (mkB id who rts yj put yi ph un yh) side d k=k [.int (Ef id who rts yj put yi ph un yh d w side.toInt).1,.int (Ef id who rts yj put yi ph un yh d w side.toInt).2.1,(Ef id who rts yj put yi ph un yh d w side.toInt).2.2] []:=by
 rw[q0N];unfold lD Ef;rw[GC];refine(Oh [side,T,d,.bool (decide (side.toInt≠0/\side.toInt≠1)),mkB id who rts yj put yi ph un yh,zB] [] fun K=>z4e _ _ _ _ _ _ K).trans ?_;by_cases h0:side.toInt≠0/\side.toInt≠1;{simp only[AV,Ag,h0,AE,ne_eq,not_false_iff,and_self]};have hs:0<=side.toInt/\side.toInt<2:=by omega
 have h5:(mkB id who rts yj put yi ph un (BL yh d)).get 5=yi:=rfl;have h8:(mkB id who rts yj put yi ph un (BL yh d)).get 8=BL yh d:=rfl;rw[if_neg h0];simp only[AF,AK,AO,AV,Ac,Ag,h0,AE,mF hW hst hN,AB,mB,hs,and_self,h5,h8];by_cases h1:EB ph put yi yh d w=0
 case neg=>simp[h1]
 simp only[h1,AE,ne_eq,not_true];unfold PV;by_cases h2:IntKind.u64.wrap ((((BL yh d).get 3).get side.toInt.toNat).toInt-(yi.get side.toInt.toNat).toInt)=0;{simp only[h2,AE]};{simp only[h2,AE];rfl}
def q8U (k:KD R):Nl N (mkB id who rts yj put yi ph un yh) k=k [.int (if ph.toInt=2 then 0 else((put.get 0).toInt+(put.get 1).toInt-(yi.get 0).toInt-(yi.get 1).toInt)%18446744073709551616)] []:=by
 have t0:aq 0=0:=rfl;have t1:aq 1=1:=rfl;have wu:∀n:Int,IntKind.u64.wrap n=n%18446744073709551616:=fun n=>by simp[al,jc,ig]
 rw[qH];unfold ZZ mkB;simp only[Oa,cW,cX,t0,t1,wu];by_cases h:ph.toInt=2;{simp[h]};{simp only[h,AE];congr 3;omega}
end
end
def fH (a0:C) (k1:KD R):Option R:=KG N (aw 6) (bc [bc (cut (ao a0) 0 32)]) (fun d1 m1=>(k1 [dk d1 0] []))
def SR:=lid "" (@fH R N)
def ai {R N a0 k}:@SR R N a0 k=fH N a0 k:=by unfold SR;rw[AW]
def q9c:OvG R:=Af [.arr 32 (.int .u8)] (Bs (SR N)) (BD (cq 32 (bn bp)))
def q9d:okX 80 (@q9c R N):=Ai (AH (SQ N) <| AZ) N [(80,[(0,[(1,5)])])] [(80,[([9],⟨[],[(2,.as (.ptr (.l 2) [] (.arr 32 (.int .u8))))],[],[(.l 2,.box (.d (.arr 32 (.int .u8))))],[],[]⟩)])] (fun _ _=>ai)
def jL (a0 a1:C) (k1:KD R):Option R:=Gq N a0 (aw 6) (bc [bc (cut (ao a1) 0 32)]) (fun d1 m1=>(k1 [dk d1 0] []))
def TS:=lid "" (@jL R N)
def H6 {R N a0 a1 k}:@TS R N a0 a1 k=jL N a0 a1 k:=by unfold TS;rw[AW]
def z1F:OvG R:=Af [Br,.arr 32 (.int .u8)] (Bl (TS N)) (BD (cq 32 (bn bp)))
def z1G:okX 81 (@z1F R N):=Ai (AH (Mq N) <| AZ) N [(81,[(0,[(2,5),(3,5)]),(1,[(8,7)])])] [(81,[([9],⟨[],[(4,.as (.ptr (.l 4) [] (.arr 32 (.int .u8))))],[],[(.l 4,.box (.d (.arr 32 (.int .u8))))],[],[]⟩)])] (fun _ _=>H6)
def q98:List Sh:=[.as (.ptr (.g (.l 1)) [] Ff),.d (.arr 32 (.int .u8)),.d (.int .u64)]
def z0b:List (Key × OSh):=[(.l 1,.box (.agg Ff [.as (.mp (.g (.l 2)))])),(.l 2,.map (.arr 32 (.int .u8)) AX)]
def gI (a0 a1 a2 b0:C) (m0:Es) (k1:KD R):Option R:=SR N a0 (fun d1 m1=>(bif DT AX (dE AX m0)then(bif Il (dE AX m0) (dk d1 0)then(if BO AX (dE AX m0)=true then(k1 [aw 7] [unE (dE AX m0)])else none)else(if BO AX (Gn (dE AX (dm [m0] 0)) (dk d1 0) (V.d AX (ct (ct (dh [dh (ay 32 (aw 0)),aw 0]) 0 a0) 1 a1)))=true then(k1 [aw 0] [unE (Gn (dE AX (dm [m0] 0)) (dk d1 0) (V.d AX (ct (ct (dh [dh (ay 32 (aw 0)),aw 0]) 0 a0) 1 a1)))])else none))else none))
def Sk:=lid "" (@gI R N)
def r7 {R N a0 a1 a2 b0 m0 k}:@Sk R N a0 a1 a2 b0 m0 k=gI N a0 a1 a2 b0 m0 k:=by unfold Sk;rw[AW]
def q99:OvG R:=Cf q98 z0b (fun ds ms=>Sk N (dk ds 0) (dk ds 1) (dk ds 2) (dk ds 3) (dm ms 0)) fun ds ms K d1 m1=>K (V.d (bn ar) (dk d1 0)) [(Key.g (Key.l 1),O.box (V.agg Ff [V.mp (Key.g (Key.l 2))])),
 (Key.g (Key.l 2),O.map (cq 32 (bn bp)) AX (dE AX (dm m1 0)))]
def z0a:okX 55 (@q99 R N):=Cq (AH (q9d N) <| AZ) N [(55,[(0,[(4,5)]),(4,[(7,6)]),(7,[(7,6)])])] [(55,[([9],⟨[],[(6,.d (.int .i64))],[.g (.l 1),.g (.l 2)],[],[],[]⟩)])] (fun _ _ _=>r7)
def z17:List Sh:=[.as (.ptr (.g (.l 1)) [] DB),.d (.arr 32 (.int .u8))]
def z19:List (Key × OSh):=[(.l 1,.box (.agg DB [.d Br,.ts 72 EP]))]
def Ti {R:Type} (N:Nat) (b0:C) (k1:KD R) (k2:KD R):KD R->KD R:=fun k3 d1 m1=>(bif decide (aj (dk d1 1)<(↑(ak (ao b0)):Int))then(if 0<=aj (dk d1 1)/\aj (dk d1 1)<(↑(ak (ao b0)):Int)then(bif mz (ax (bj (ao b0) (aq (aj (dk d1 1))) C.nil) 0) (dk d1 0)then(k1 [dk d1 1] [])else(k3 [dk d1 0,aw (al ar (aj (dk d1 1)+1))] []))else none)else(k2 [] []))
def kD (a0 a1 b0 b1:C) (k1:KD R):Option R:=jn (fun d1 m1=>(k1 [aw (-1)] [])) (fun k2=>(Ae N (Ti N b0 k1 k2) [a0,aw 0] []))
def Pr:=lid "" (@kD R N)
def q0l {R N a0 a1 b0 b1 k}:@Pr R N a0 a1 b0 b1 k=kD N a0 a1 b0 b1 k:=by unfold Pr;rw[AW]
def z18:OvG R:=Cf z17 z19 (fun ds ms=>Pr N (dk ds 0) (dk ds 1) (dk ds 2) (dk ds 3)) fun ds ms K d1 m1=>K (V.d (bn ar) (dk d1 0)) []
def q0k:okX 82 (@z18 R N):=Cq AZ N [(82,[(0,[(3,5)])])] [(82,[([1,0,1],⟨[0],[],[],[],[.g (.l 1)],[]⟩),
  ([4,1,0,1],⟨[0,3],[(5,.d (.int .i64))],[],[],[.g (.l 1)],[]⟩),
  ([9],⟨[],[(4,.d (.int .i64))],[],[],[.g (.l 1)],[]⟩)])] (fun _ _ _=>q0l)
def z2e:List Sh:=[.as (.ptr (.g (.l 1)) [] DB),.d (.arr 32 (.int .u8)),.d (.int .u64)]
def z2h:List (Key × OSh):=[(.l 1,.box (.agg DB [.d Br,.ts 72 EP]))]
def kF (a0 a1 a2 b0 b1:C) (k1:KD R):Option R:=TS N a2 a0 (fun d1 m1=>(Pr N (dk d1 0) a2 (bc (ao b0)) C.nil (fun d2 m2=>(bif decide (0<=aj (dk d2 0))then(k1 [aw 7,a2,bc (ao b0)] [])else(bif bw (ak (ao b0)) (ak (ao b0))then(if(ak (ao b0)+1)*72<=140737488355328/\ak (ao b0)+1<=9223372036854775807 then(bif bw (ak (ao b0)+1) (ak (ao b0++[ct (ct (ct (dh [dh (ay 32 (aw 0)),dh (ay 32 (aw 0)),aw 0]) 0 (dk d1 0)) 1 a0) 2 a1]))then(k1 [aw 0,a2,bc (ao b0++[ct (ct (ct (dh [dh (ay 32 (aw 0)),dh (ay 32 (aw 0)),aw 0]) 0 (dk d1 0)) 1 a0) 2 a1])] [])else none)else none)else none)))))
def Tk:=lid "" (@kF R N)
def q0n {R N a0 a1 a2 b0 b1 k}:@Tk R N a0 a1 a2 b0 b1 k=kF N a0 a1 a2 b0 b1 k:=by unfold Tk;rw[AW]
def z2f:OvG R:=Cf z2e z2h (fun ds ms=>Tk N (dk ds 0) (dk ds 1) (dk ds 2) (dk ds 3) (dk ds 4)) fun ds ms K d1 m1=>K (V.d (bn ar) (dk d1 0)) [(Key.g (Key.l 1),O.box (V.agg DB [V.d Br (dk d1 1),V.ts 72 EP (ao (dk d1 2))]))]
def z2g:okX 56 (@z2f R N):=Cq (AH (z1G N) <| AH (q0k N) <| AZ) N [(56,[(0,[(4,5)]),(1,[(13,7)]),(4,[(7,6)])])] [(56,[([9],⟨[],[(6,.d (.int .i64))],[.g (.l 1)],[(.g (.l 1),.box (.agg DB [.d Br,.ts 72 EP]))],[],[]⟩)])] (fun _ _ _=>q0n)
def z2a:List Sh:=[.as (.ptr (.g (.l 1)) [] DB),.d DQ,.d (.int .u64)]
def z2d:List (Key × OSh):=[(.l 1,.box (.agg DB [.d Br,.ts 72 EP]))]
def kE (a0 a1 b0 b1:C) (k1:KD R):Option R:=Pr N (ax a0 3) b0 (bc (ao b1)) C.nil (fun d1 m1=>(jn (fun d2 m2=>(bif cz (dk d2 2)then(k1 [aw 1] [])else(bif decide (aj (ax (dk d2 1) 4)<aj (dk d2 0))then(k1 [aw 2] [])else(k1 [aw 0] [])))) (fun k2=>(bif decide (0<=aj (dk d1 0))then(if 0<=aj (dk d1 0)/\aj (dk d1 0)<(↑(ak (ao b1)):Int)then(k2 [a1,a0,cd (decide (aj (ax (bj (ao b1) (aq (aj (dk d1 0))) C.nil) 2)<=aj (ax a0 4)))] [])else none)else(k2 [a1,a0,cd false] [])))))
def Tj:=lid "" (@kE R N)
def q0m {R N a0 a1 b0 b1 k}:@Tj R N a0 a1 b0 b1 k=kE N a0 a1 b0 b1 k:=by unfold Tj;rw[AW]
def z2b:OvG R:=Cf z2a z2d (fun ds ms=>Tj N (dk ds 0) (dk ds 1) (dk ds 2) (dk ds 3)) fun ds ms K d1 m1=>K (V.d (bn ar) (dk d1 0)) []
def z2c:okX 78 (@z2b R N):=Cq (AH (q0k N) <| AZ) N [(78,[(0,[(4,5)])])] [(78,[([0,0,1,1],⟨[0,2,4],[(26,.d .bool)],[],[],[.g (.l 1)],[]⟩),
  ([9],⟨[],[(6,.d (.int .i64))],[],[],[.g (.l 1)],[]⟩)])] (fun _ _ _=>q0m)
section
variable {R:Type} {N:Nat}
def TH:Es->C->C->Es
 | [],c,v=>[(c,v)]|(k,u)::l,c,v=>if mz c k=true then(k,v)::l else(k,u)::TH l c v
def U6 (τ:Ty) (c v:C):∀m:Es,Gn (dE τ m) c (V.d τ v)=dE τ (TH m c v)
 | []=>rfl|(k,u)::m=>by have ih:=U6 τ c v m;simp only[dE,dy,Gn,TH]at ih ⊢;by_cases h:mz c k=true;{simp[h]};{simp[h,ih]}
abbrev Ent:=C × C × Int
def DL (e:Ent):C:=.agg [e.1,e.2.1,.int e.2.2]
def CE (e:Ent):C × C:=(e.1,.agg [e.2.1,.int e.2.2])
def EJ (x:C):List Ent->Option Nat
 | []=>none|e::l=>if mz x e.1=true then some 0 else(EJ x l).map (·+1)
def z09 (x:C) (e:Ent) (l:List Ent):EJ x (e::l)=if mz x e.1=true then some 0 else(EJ x l).map (·+1):=rfl
def U1 {x}:∀{l:List Ent} {i:Nat},EJ x l=some i->i<l.length
 | [],i,h=>by cases h
 |e::l,i,h=>by unfold EJ at h;split at h;{cases h;simp};{obtain⟨j,hj,rfl⟩:=eu.1 h;have:=U1 hj;simp;omega}
def zE:Ent:=(.nil,.nil,0)
def dC (x:C):∀l:List Ent,FG (l.map CE) x=(EJ x l).isSome
 | []=>rfl|e::l=>by have ih:=dC x l;simp only[dy,CE,FG,EJ]at ih ⊢;cases h:mz x e.1 <;> simp[ih]
def wF (x:C):∀(l:List Ent) (i:Nat),EJ x l=some i->getM (l.map CE) x= .agg [(l.getD i zE).2.1,.int (l.getD i zE).2.2]
 | [],i,h=>by cases h
 |e::l,i,h=>by have ih:=wF x l;unfold EJ at h;simp only[dy,CE,getM]at ih ⊢;split at h;{rename_i he;cases h;simp[he]};{rename_i he;obtain⟨j,hj,rfl⟩:=eu.1 h;simp[he,ih j hj]}
def U4 (x:C) (s:C) (t:Int):∀l:List Ent,EJ x l=none->TH (l.map CE) x (.agg [s,.int t])=(l++[(x,s,t)]).map CE
 | [],_=>rfl|e::l,h=>by
  unfold EJ at h;split at h;{cases h}
  ·rename_i he;have hn:EJ x l=none:=by simpa using h
   simp only[dy,List.cons_append,CE,TH,if_neg he];exact congrArg _ (U4 x s t l hn)
def vZ {l:List Ent} {i:Nat} (h:i<l.length):(l.map DL).getD i .nil=DL (l.getD i zE):=by rw[bh,List.getElem?_map,bh,bg h];rfl
def Vx (x:C) (l:List Ent):Int:=match EJ x l with|some i=>i|none=>-1
def q3L (a b:C):mz a b=mz b a:=by rw[pY,pY,decide_eq_decide];exact eq_comm
def vE (x:C) (l:List Ent) (hl:l.length<4611686018427387904) (k1 k2:KD R):∀(m i M:Nat),i+m=l.length->m<M->
  Ae M (Ti N (.slice (l.map DL)) k1 k2) [x,.int i] []=(match EJ x (l.drop i)with|some j=>k1 [.int ((i+j:Nat):Int)] [] |none=>k2 [] [])
 |0,i,M,hi,hM=>by
  obtain⟨M,rfl⟩:∃a,M=a+1:=⟨M-1,by omega⟩;have e1:¬(i:Int)<(l.length:Int):=by omega
  rw[Bq,List.drop_of_length_le (by omega)];unfold Ti;simp only[AF,AK,AB,AI,ep,e1,AE];rfl
 |m+1,i,M,hi,hM=>by
  obtain⟨M,rfl⟩:∃a,M=a+1:=⟨M-1,by omega⟩;have e1:(i:Int)<(l.length:Int):=by omega
  have hil:i<l.length:=by omega
  have ih:=vE x l hl k1 k2 m (i+1) M (by omega) (by omega);have hd:l.drop i=l.getD i zE::l.drop (i+1):=by rw[List.drop_eq_getElem_cons hil,bh,bg hil];rfl
  have hg:ax (DL (l.getD i zE)) 0=(l.getD i zE).1:=rfl;have one:∀rec:KD R,Ti N (.slice (l.map DL)) k1 k2 rec [x,.int i] []=if mz x (l.getD i zE).1=true then k1 [.int i] []else rec [x,.int ((i+1:Nat):Int)] []:=fun rec=>by unfold Ti;simp only[AF,AK,AB,AI,ep,e1,AE,bq,and_self,bf,vZ hil,hg,BK (show i<4611686018427387904 by omega)];rw[q3L];cases h:mz x (l.getD i zE).1 <;> simp
  rw[Bq,one,hd,ih,z09];by_cases h:mz x (l.getD i zE).1=true;{rw[if_pos h,if_pos h];rfl};{rw[if_neg h,if_neg h];cases hp:EJ x (l.drop (i+1))with|none=>rfl|some j=>simp only[Option.map_some];rw[show i+1+j=i+(j+1) by omega]}
def vA (x:C) (l:List Ent) (hl:l.length<4611686018427387904) (hN:l.length<N) (a c:C) (k:KD R):Pr N x a (.slice (l.map DL)) c k=k [.int (Vx x l)] []:=by
 rw[q0l];unfold kD;simp only[AP];refine(vE x l hl _ _ l.length 0 N (by omega) hN).trans ?_;unfold Vx;rw[ia];cases EJ x l with
 |none=>rfl|some j=>simp only[Nat.zero_add,AF]
def HS (s:C):C:=Hg (CK (.int 6) [bc (ao s)])
def q1P:BQ (.int 6):=⟨rfl,by decide,by decide⟩
def q8T (s:C) (hs:Ao 32 s) (hN:5000<N) (hN2:N<4611686018427387904) (k:KD R):SR N s k=k [HS s] []:=by obtain⟨hp,hc⟩:=TB 32 100 (by omega) s hs;have hl:=(FQ hs).1;have hc:cut s.elems 0 32=s.elems:=hc;rw[ai];unfold fH HS;have:=QV (R:=R) (N:=N) (.int 6) q1P [bc (cut (ao s) 0 32)] 100 hp (by simp;omega) (by omega) hN2 (by rw[hc,KI];omega);rw[hc]at this ⊢;rw[this];rfl
def q8S (t:C) (ht:DH t) (s:C) (hs:Ao 32 s) (hN:5000<N) (k:KD R):TS N t s k=k [HS s] []:=by obtain⟨hp,hc⟩:=TB 32 100 (by omega) s hs;have hl:=(FQ hs).1;have hc:cut s.elems 0 32=s.elems:=hc;rw[H6];unfold jL HS;have:=QU (R:=R) (N:=N) t ht (.int 6) q1P [bc (cut (ao s) 0 32)] 100 hp (by omega) (by simp) (by rw[hc,KI];omega) (by rw[hc,KI];simp;omega);rw[hc]at this ⊢;rw[this];rfl
def IX (l:List Ent) (s:C) (t:Int):Int × List Ent:=match EJ (HS s) l with|some _=>(7,l)|none=>(0,l++[(HS s,s,t)])
def z4T (s:C) (hs:Ao 32 s) (t a b:C) (ht:t= .int t.toInt) (l:List Ent) (hN:5000<N) (hN2:N<4611686018427387904) (k:KD R):
  Sk N s t a b (l.map CE) k=k [.int (IX l s t.toInt).1] [(IX l s t.toInt).2.map CE]:=by
 rw[r7];unfold gI;have e:dm [(l.map CE)] 0=l.map CE:=rfl;simp only[q8T s hs hN hN2,AF,e,VE,WI,U6,Cu,Dn,dC];unfold IX;cases hp:EJ (HS s) l with
 |some i=>simp only[py,AE]|none=>
  have z5V:ct (ct (dh [dh (ay 32 (aw 0)),aw 0]) 0 s) 1 t= .agg [s,.int t.toInt]:=by rw[<-ht];rfl
  simp only[px,AE,z5V,U4 (HS s) s t.toInt l hp]
def z3P (s:C) (hs:Ao 32 s) (t:C) (ht:t= .int t.toInt) (T:C) (hT:DH T) (l:List Ent) (hl:l.length<=1000) (hN:5000<N) (b1:C) (k:KD R):
  Tk N s t T (.slice (l.map DL)) b1 k=k [.int (IX l s t.toInt).1,T,.slice ((IX l s t.toInt).2.map DL)] []:=by
 rw[q0n];unfold kF;have hf:=fun(a c:C) (k:KD R)=>vA (N:=N) (HS s) l (by omega) (by omega) a c k;simp only[q8S T hT s hs hN,AF,AI,hf,AB];unfold IX Vx;cases hp:EJ (HS s) l with
 |some i=>
  have:(0:Int)<=(i:Int):=by omega
  simp only[this,AE]
 |none=>
  have h0:¬(0:Int)<=-1:=by decide
  have g1:(l.length+1)*72<=140737488355328/\l.length+1<=9223372036854775807:=by omega
  have z5V:ct (ct (ct (dh [dh (ay 32 (aw 0)),dh (ay 32 (aw 0)),aw 0]) 0 (HS s)) 1 s) 2 t=DL (HS s,s,t.toInt):=by unfold DL;rw[<-ht];rfl
  simp only[h0,AE,ep,bt,cg,de,Nat.zero_add,br,g1,and_self,List.map_append,dy,List.map_nil,z5V]
def z4U (l:List Ent) (s:C) (t:Int):(IX l s t).2.length<=l.length+1:=by unfold IX;cases EJ (HS s) l <;> simp
def z3B (c:C) (yk:C) (l:List Ent) (hl:l.length<=1000) (hN:5000<N) (b0:C) (k:KD R):
  Tj N c yk b0 (.slice (l.map DL)) k=k [.int (ofP (l.map CE) c yk.toInt)] []:=by
 have hf:=fun(a d:C) (k:KD R)=>vA (N:=N) (c.get 3) l (by omega) (by omega) a d k;rw[q0m];unfold kE ofP;simp only[AP,AI,hf,AF,AB,dC];unfold Vx;cases hp:EJ (c.get 3) l with
 |none=>
  have h0:¬(0:Int)<=-1:=by decide
  simp only[h0,AE,AF,AK,AO,Ag,AB,px,Bool.false_eq_true,false_and];by_cases h2:(c.get 4).toInt<yk.toInt;{simp only[h2,AE]};{simp only[h2,AE]}
 |some i=>
  have hi:=U1 hp;have h0:(0:Int)<=(i:Int):=by omega
  have h1:(0:Int)<=(i:Int)/\(i:Int)<((l.map DL).length:Int):=by rw[ep];omega
  have hg:=wF (c.get 3) l i hp;have g2:ax (DL (l.getD i zE)) 2= .int (l.getD i zE).2.2:=rfl;have g1:ax (.agg [(l.getD i zE).2.1,.int (l.getD i zE).2.2]) 1= .int (l.getD i zE).2.2:=rfl;simp only[h0,h1,AE,and_self,AF,AK,AO,Ag,AB,bf,vZ hi,g2,g1,hg,py,true_and];by_cases h3:(l.getD i zE).2.2<=(c.get 4).toInt;{simp only[h3,AE]};{simp only[h3,AE];by_cases h2:(c.get 4).toInt<yk.toInt;{simp only[h2,AE]};{simp only[h2,AE]}}
end
def SA (a0 a1:C) (k1:KD R):Option R:=Ry N a0 (ax a1 3) (fun d1 m1=>(jn (fun d2 m2=>(k1 [dk d2 1] [])) (fun k2=>(bif decide (aj (ax a1 4)=1)then(k2 [dh [dh [AJ (bn cf),AJ (bn av),AJ (cq 2 (bn av)),AJ (cq 2 (bn av)),bc []],AJ (cq 2 Cd)],ct (ct (dk d1 0) 1 (ct (ax (dk d1 0) 1) (aq 0) (ax (ax (dk d1 0) 1) (aq 1)))) 1 (ct (ax (ct (dk d1 0) 1 (ct (ax (dk d1 0) 1) (aq 0) (ax (ax (dk d1 0) 1) (aq 1)))) 1) (aq 1) (ax (ax (dk d1 0) 1) (aq 0)))] [])else(jn (fun d2 m2=>(k2 [dk d2 0,dk d2 1] [])) (fun k3=>(bif decide (aj (ax a1 4)=2)then(k3 [dh [dh [AJ (bn cf),AJ (bn av),AJ (cq 2 (bn av)),AJ (cq 2 (bn av)),bc []],AJ (cq 2 Cd)],ct (dk d1 0) 0 (ct (ax (dk d1 0) 0) 2 (ct (ax (ax (dk d1 0) 0) 2) (aq 0) (aw (Aj ej av (aj (ax (ax (ax (dk d1 0) 0) 2) (aq 0))) 1))))] [])else(k3 [dh [dh [AJ (bn cf),AJ (bn av),AJ (cq 2 (bn av)),AJ (cq 2 (bn av)),bc []],AJ (cq 2 Cd)],dk d1 0] []))))))))
def KC:=lid "" (@SA R N)
def Wf {R N a0 a1 k}:@KC R N a0 a1 k=SA N a0 a1 k:=by unfold KC;rw[AW]
def q8o:OvG R:=Af [NG,IW] (Bl (KC N)) (BD EE)
def q8p:okX 49 (@q8o R N):=Ai (AH (q8l N) <| AZ) N [(49,[(0,[(2,5),(3,5)])])] [(49,[([1,4,1,0,1,1],(AY [4,5] [])),
  ([1,3,1,4,1,0,1,1],(AY [4,5] [])),
  ([9],⟨[],[(4,.as (.ptr (.l 4) [] EE))],[],[(.l 4,.box (.d EE))],[],[]⟩)])] (fun _ _=>Wf)
def eC (a0:C) (k1:KD R):Option R:=Rv N (ax a0 8) (fun d1 m1=>(k1 [dh [ax a0 0,ax a0 1,ct (ct (dh [dh [dh (ay 32 (aw 0)),dh (ay 32 (aw 0))],aw 0]) 0 (ct (ct (AJ (cq 2 (cq 32 (bn bp)))) 0 (ax (ax (ax a0 2) 0) (aq 0))) 1 (ax (ax (ax a0 2) 0) (aq 1)))) 1 (ax (ax a0 2) 1),ax a0 3,ax a0 4,ax a0 5,ax a0 6,ax a0 7,dk d1 0]] []))
def GU:=lid "" (@eC R N)
def yE {R N a0 k}:@GU R N a0 k=eC N a0 k:=by unfold GU;rw[AW]
def q8j:OvG R:=Af [Az] (Bs (GU N)) (BD Az)
def yD:okX 27 (@q8j R N):=Ai (AH (q79 N) <| AZ) N [(27,[(0,[(1,5)]),(1,[(32,7)])])] [(27,[([9],⟨[],[(2,.as (.ptr (.l 2) [] Az))],[],[(.l 2,.box (.d Az))],[],[]⟩)])] (fun _ _=>yE)
def lK (a0 a1:C) (k1:KD R):Option R:=jn (fun d1 m1=>(k1 [cd (cz (dk d1 0))] [])) (fun k2=>(bif decide (aj (ax a0 0)=aj (ax a1 0))then(bif mz (ax a0 1) (ax a1 1)then(bif mz (ax a0 2) (ax a1 2)then(bif List.map (fun c=>nr (aq (aj c))) (ao (ax a0 3))==List.map (fun c=>nr (aq (aj c))) (ao (ax a1 3))then(bif mz (ax a0 4) (ax a1 4)then(bif mz (ax a0 5) (ax a1 5)then(bif decide (aj (ax a0 6)=aj (ax a1 6))then(bif decide (aj (ax a0 7)=aj (ax a1 7))then(Mu N (ax a0 8) (ax a1 8) (fun d1 m1=>(k2 [cd (cz (dk d1 0))] [])))else(k2 [cd false] []))else(k2 [cd false] []))else(k2 [cd false] []))else(k2 [cd false] []))else(k2 [cd false] []))else(k2 [cd false] []))else(k2 [cd false] []))else(k2 [cd false] [])))
def Hb:=lid "" (@lK R N)
def q0U {R N a0 a1 k}:@Hb R N a0 a1 k=lK N a0 a1 k:=by unfold Hb;rw[AW]
def z26:OvG R:=Af [Az,Az] (Bl (Hb N)) Ev
def q0T:okX 26 (@z26 R N):=Ai (AH (q0B N) <| AZ) N [(26,[(0,[(2,5),(3,5)])])] [(26,[([0,1],(Ah [(4,.d .bool)])),
  ([9],(Ah [(4,.d .bool)]))])] (fun _ _=>q0U)
section
variable {R:Type} {N:Nat}
structure StC (s:C):Prop where
 b:StB s
 r:s.get 1= .int (s.get 1).toInt
 t0:(s.get 3).get 0= .int ((s.get 3).get 0).toInt
 t1:(s.get 3).get 1= .int ((s.get 3).get 1).toInt
def Lt {c:C} (h:ua (.int .u64) c):W64 c.toInt/\c= .int c.toInt:=by
 have m1:IntKind.u64.min=0:=by decide
 have m2:IntKind.u64.max=18446744073709551615:=by decide
 exact⟨⟨by have:=h.2.1;omega,by have:=h.2.2;omega⟩,h.1⟩
def Qm {n:Nat} {c} (h:ua (.arr n (.int .u8)) c):Ao n c:=by
 simp only[ua]at h;have m1:IntKind.u8.min=0:=by decide
 have m2:IntKind.u8.max=255:=by decide
 exact⟨c.elems,h.1,h.2.1,fun x hx=>by obtain⟨a1,a2,a3⟩:=h.2.2 x hx;exact⟨a1,by omega,by omega⟩⟩
def iM {c:C} (h:ua (.arr 2 (.int .u64)) c):c= .agg [c.get 0,c.get 1]/\(W64 (c.get 0).toInt/\c.get 0= .int (c.get 0).toInt)/\(W64 (c.get 1).toInt/\c.get 1= .int (c.get 1).toInt):=by
 simp only[ua]at h;obtain⟨h1,h2,h3⟩:=h;have e:∀i,c.get i=c.elems.getD i .nil:=fun i=>by rw[h1];rfl
 refine⟨?_,Lt (by rw[e];simp only[ua];exact h3 _ (CT (by omega))),Lt (by rw[e];simp only[ua];exact h3 _ (CT (by omega)))⟩;rw[e,e];generalize hl:c.elems=l at*;rw[h1]
 match l,h2 with
 | [x,y],_=>rfl
def z4z {s:C} (h:ua Bk s) (hl:(s.get 4).elems.length<=12):StC s:=by
 have m1:IntKind.u32.min=0:=by decide
 have m2:IntKind.u32.max=4294967295:=by decide
 have ch:=C.Gx (i:=0) (f:=.int .u32) h rfl;have rd:=Lt (C.Gx (i:=1) h rfl);have mv:=iM (C.Gx (i:=2) h rfl);have tk:=iM (C.Gx (i:=3) h rfl);have cs:=C.Gx (i:=4) (f:=.slice 64 DQ) h rfl;simp only[ua]at cs;obtain⟨c1,_,_,c2⟩:=cs;have hch:(s.get 0).toInt<4294967296:=by have:=ch.2.2;omega
 refine⟨⟨⟨⟨by have:=ch.2.1;omega,by omega⟩,rd.1,mv.2.1.1,mv.2.2.1,tk.2.1.1,tk.2.2.1,fun c hc=>?_,hl⟩,⟨?_,fun c hc=>?_,hl⟩,fun c hc=>?_,hch⟩,rd.2,tk.2.1.2,tk.2.2.2⟩;{have hw:=c2 c hc;exact⟨(Lt (C.Gx (i:=0) hw rfl)).1,(Lt (C.Gx (i:=2) hw rfl)).1,(FQ (Qm (C.Gx (i:=3) (f:=.arr 32 (.int .u8)) hw rfl))).1,(Lt (C.Gx (i:=4) hw rfl)).1⟩};{show s= .agg [s.get 0,s.get 1,s.get 2,s.get 3,.slice (s.get 4).elems];rw[<-c1];exact(C.q2Y h).symm};{exact(C.q2Y (c2 c hc)).symm};{exact Qm (C.Gx (i:=3) (f:=.arr 32 (.int .u8)) (c2 c hc) rfl)}
def StC.stn {s put:C} (h:StC s) (h0:W64 (put.get 0).toInt) (h1:W64 (put.get 1).toInt):StN s put:=by refine⟨fun i hi=>?_,fun c hc=>(h.b.w.cs c hc).am⟩;rcases(by omega:i=0\/i=1)with rfl|rfl;{exact⟨h0,h.b.w.p0,h.b.w.q0⟩};{exact⟨h1,h.b.w.p1,h.b.w.q1⟩}
structure Yy (d:C):Prop where
 b:NS d
 s:StC (d.get 0)
def z5o (v:Int):W64 (Aj ej av v 1):=by
 have m1:IntKind.u64.min=0:=by decide
 have m2:IntKind.u64.max=18446744073709551615:=by decide
 have:=wrap_within av (((dt IntKind.u64.bits v)^^^(dt IntKind.u64.bits 1)).toNat:Int);exact⟨by show 0<=IntKind.u64.wrap _;omega,by show IntKind.u64.wrap _<_;omega⟩
section
variable {T:C} (hT:DH T)
include hT
def z4c (s sa sb:C) (x:C) (hx:x.get 3=s) (hsa:Ao 32 sa) (hsb:Ao 32 sb) (a0 a1 a2 b0 b1 b2:List C) (ga0:∀y∈a0,Ao 32 y) (ga1:∀y∈a1,Ao 32 y) (gb0:∀y∈b0,Ao 32 y) (gb1:∀y∈b1,Ao 32 y) (ha0:a0.length=4) (ha1:a1.length=2) (ha2:a2.length=1) (hb0:b0.length=4) (hb1:b1.length=2) (hb2:b2.length=1) (h:StC s) (hp:s.get 2= .agg [(s.get 2).get 0,(s.get 2).get 1]) (hN:20000<N):
  ∃d,Yy d/\∀k:KD R,KC N (.agg [T,.agg [sa,sb],.agg [.slice [.slice a0,.slice a1,.slice a2],.slice [.slice b0,.slice b1,.slice b2]]]) x k=k [d] []:=by
 obtain⟨u,v,hu,hv,hD⟩:=q3h (R:=R) (N:=N) hT s sa sb hsa hsb a0 a1 a2 b0 b1 b2 ga0 ga1 gb0 gb1 ha0 ha1 ha2 hb0 hb1 hb2 h.b hN;have t0:aq 0=0:=rfl;have t1:aq 1=1:=rfl;by_cases z1:(x.get 4).toInt=1;{refine⟨.agg [s,.agg [v,u]],⟨⟨rfl,h.b,hv,hu⟩,h⟩,fun k=>?_⟩;rw[Wf];unfold SA;simp only[hx,hD,AP,z1,AE,AF,AK,Eg,GR,Hf,IM,t0,t1]};by_cases z2:(x.get 4).toInt=2
 case neg=>
  refine⟨.agg [s,.agg [u,v]],⟨⟨rfl,h.b,hu,hv⟩,h⟩,fun k=>?_⟩;rw[Wf];unfold SA;simp only[hx,hD,AP,z1,z2,AE,AF,AK]
 have he:s= .agg [s.get 0,s.get 1,s.get 2,s.get 3,.slice (s.get 4).elems]:=h.b.e.eta;generalize hw:Aj ej av ((s.get 2).get 0).toInt 1=w;have z8u:W64 w:=by rw[<-hw];exact z5o _
 have hs:StC (.agg [s.get 0,s.get 1,.agg [.int w,(s.get 2).get 1],s.get 3,.slice (s.get 4).elems]):=
  ⟨⟨⟨h.b.w.ch,h.b.w.rd,z8u,h.b.w.p1,h.b.w.q0,h.b.w.q1,h.b.w.cs,h.b.w.ln⟩,⟨rfl,h.b.e.cs,h.b.e.ln⟩,h.b.hb,h.b.ch⟩,h.r,h.t0,h.t1⟩
 refine⟨.agg [.agg [s.get 0,s.get 1,.agg [.int w,(s.get 2).get 1],s.get 3,.slice (s.get 4).elems],.agg [u,v]],⟨⟨rfl,hs.b,hu,hv⟩,hs⟩,fun k=>?_⟩;rw[Wf];unfold SA;have e1:ct s 2 (ct (s.get 2) 0 (.int w))= .agg [s.get 0,s.get 1,.agg [.int w,(s.get 2).get 1],s.get 3,.slice (s.get 4).elems]:=by
  have:ct (s.get 2) 0 (.int w)= .agg [.int w,(s.get 2).get 1]:=by rw[hp];rfl
  rw[this]
  conv=>lhs;rw[he]
  rfl
 simp only[hx,hD,AP,z2,show ¬(2:Int)=1 by decide,AE,AF,AK,Eg,GR,Hf,IM,t0,t1,hw,e1]
end
def q8d (d:C) (h:NS d) (hN:2000<N) (k:KD R):LC N d k=k [d] []:=by
 have t0:aq 0=0:=rfl;have t1:aq 1=1:=rfl;rw[yB];unfold dZ;simp only[q8b _ h.st.e hN,AF,t0,t1,q1N _ h.s0 (show 100<N by omega),q1N _ h.s1 (show 100<N by omega)]
 conv=>rhs;rw[h.eta]
 rfl
def NY (r:C):Prop:=r= .agg [.agg [(r.get 0).get 0,(r.get 0).get 1],r.get 1]
def Ux (id who rts:C) (yj:List C) (put yi ph un yh:C) (hr:NY rts) (hb:StE yh) (hN:2000<N) (k:KD R):GU N (mkB id who rts yj put yi ph un yh) k=k [mkB id who rts yj put yi ph un yh] []:=by
 have t0:aq 0=0:=rfl;have t1:aq 1=1:=rfl;have g8:(mkB id who rts yj put yi ph un yh).get 8=yh:=rfl;have e:ct (ct (dh [dh [dh (ay 32 (aw 0)),dh (ay 32 (aw 0))],aw 0]) 0 (ct (ct (AJ (cq 2 (cq 32 (bn bp)))) 0 ((rts.get 0).get 0)) 1 ((rts.get 0).get 1))) 1 (rts.get 1)=rts:=by
  conv=>rhs;rw[hr]
  rfl
 rw[yE];unfold eC;rw[g8,q78 yh hb hN];unfold mkB;simp only[Eg,GR,Kt,cV,Oa,cW,cX,q6S,AF,t0,t1,e]
def z5p:zB=mkB (.int 0) zz (.agg [.agg [.agg (ay 32 (.int 0)),.agg (ay 32 (.int 0))],.int 0]) [] zz zz (.int 0) (.int 0) (stZ 0):=rfl
def oO (hN:2000<N) (k:KD R):GU N zB k=k [zB] []:=by rw[z5p];refine Ux _ _ _ _ _ _ _ _ _ ?_ ?_ hN k;{rfl};{exact⟨z4A 0,fun c hc=>absurd hc (ic),Nat.zero_le _⟩}
def q3m (s:C) (hl:(s.get 4).elems.length<2199023255552) (hN:2199023255552<N) (k:KD R):Mu N s s k=k [.bool true] []:=by
 rw[kS];unfold Xw;simp only[go_sem,Ag,AB];generalize hcs:(s.get 4).elems=cs at hl;refine DX (fun i=>[s,s,.int i]) (fun _=>[]) cs.length (k [.bool true] []) ?_ ?_ (by omega)
 ·intro i hi rec;have h1:(i:Int)<(cs.length:Int):=by omega
  have h3:IntKind.i64.wrap ((i:Int)+1)=((i+1:Nat):Int):=by rw[df _ (by omega)];simp
  unfold Xv;simp only[go_sem,AB,AI,hcs,h1,h3,bq,and_self,AE]
 ·intro rec;unfold Xv;simp only[go_sem,AB,AI,hcs,fa,if_false]
def QX (b:C) (hl:((b.get 8).get 4).elems.length<2199023255552) (hN:2199023255552<N) (k:KD R):Hb N b b k=k [.bool true] []:=by rw[q0U];unfold lK;simp only[go_sem,Ag,AB,AE,q3m _ hl hN]
end
def z2V:List Sh:=[.d Az,.as (.ptr (.g (.l 1)) [] DB),.d (.int .u64)]
def z2Y:List (Key × OSh):=[(.l 1,.box (.agg DB [.d Br,.ts 72 EP]))]
def YC (b0:C) (b1:C) (k1:KD R) (k2:KD R):KD R->KD R:=fun k3 d1 m1=>(bif decide (aj (dk d1 2)<(↑(ak (ao (ax (ax (dk d1 3) 8) 4))):Int))then(if 0<=aj (dk d1 2)/\aj (dk d1 2)<(↑(ak (ao (ax (ax (dk d1 3) 8) 4))):Int)then(Tj N (bj (ao (ax (ax (dk d1 3) 8) 4)) (aq (aj (dk d1 2))) C.nil) (dk d1 0) b0 (bc (ao b1)) (fun d2 m2=>(bif decide (aj (dk d2 0)=0)then(k1 [aw 30,BG,AJ (cq 2 (bn av))] [])else(bif bw (ak (ao (dk d1 1))) (ak (ao (dk d1 1)))then(if(ak (ao (dk d1 1))+1)*1<=140737488355328/\ak (ao (dk d1 1))+1<=9223372036854775807 then(bif bw (ak (ao (dk d1 1))+1) (ak (ao (dk d1 1)++[cd (decide (aj (dk d2 0)=1))]))then(k3 [dk d1 0,bc (ao (dk d1 1)++[cd (decide (aj (dk d2 0)=1))]),aw (al ar (aj (dk d1 2)+1)),dk d1 3,dk d1 4,dk d1 5] [])else none)else none)else none))))else none)else(bif bw (ak (ao (dk d1 1))) (ak (ao (dk d1 1)))then(k2 [bc (ao (dk d1 1)),dk d1 3,dk d1 4,dk d1 5] [])else none))
def lE (a0 a1 b0 b1:C) (k1:KD R):Option R:=bif decide (aj (ax a0 6)=0)then(k1 [aw 3,BG,AJ (cq 2 (bn av))] [])else(bif decide (aj (ax a0 6)=2)then(k1 [aw 31,BG,AJ (cq 2 (bn av))] [])else(bif decide (aj a1<aj (ax a0 7))then(k1 [aw 30,BG,AJ (cq 2 (bn av))] [])else(jn (fun d1 m1=>(Tv N (ax (dk d1 1) 8) (ax (dk d1 1) 4) (ax (dk d1 1) 5) (bc (ao (dk d1 0))) (fun d2 m2=>(bif !decide (aj (dk d2 0)=0)then(k1 [dk d2 0,BG,AJ (cq 2 (bn av))] [])else(k1 [aw 0,ct (dk d1 1) 6 (aw 2),dk d2 1] []))))) (fun k2=>(Ae N (YC N b0 b1 k1 k2) [a1,bc [],aw 0,a0,BG,AJ (cq 2 (bn av))] [])))))
def UA:=lid "" (@lE R N)
def q0O {R N a0 a1 b0 b1 k}:@UA R N a0 a1 b0 b1 k=lE N a0 a1 b0 b1 k:=by unfold UA;rw[AW]
def z2W:OvG R:=Cf z2V z2Y (fun ds ms=>UA N (dk ds 0) (dk ds 1) (dk ds 2) (dk ds 3)) fun ds ms K d1 m1=>K (ou [V.d Az (dk d1 1),V.d (cq 2 (bn av)) (dk d1 2),V.d (bn ar) (dk d1 0)]) []
def z2X:okX 54 (@z2W R N):=Cq (AH (z2c N) <| AH (z2F N) <| AZ) N [(54,[(19,[(12,6),(3,6)])])] [(54,[([1,0,1,1,1,1,1],⟨[1,3,6,7],[(9,.sl 1 .bool 5009)],[],[],[.g (.l 1)],[]⟩),
  ([4,1,0,1,1,1,1,1],⟨[1,2,3,6,7],[(9,.sl 1 .bool 5009),(10,.d (.int .i64))],[],[],[.g (.l 1)],[]⟩),
  ([9],⟨[],[(6,.as (.ptr (.l 6) [] Az)),(7,.as (.ptr (.l 7) [] (.arr 2 (.int .u64)))),(8,.d (.int .i64))],[],[(.l 6,.box (.d Az)),(.l 7,.box (.d (.arr 2 (.int .u64))))],[.g (.l 1)],[]⟩)])] (fun _ _ _=>q0O)
end Go.Proofs.YtgdonkaoajbclaaGreatDoor
