/-
 What the functions on the way compute, part 7.
 Conditions: none.
-/
import Derived.Test.YtgdonkaoajbclaaGreatDoorKf
set_option linter.all false
noncomputable section
set_option maxRecDepth 100000
set_option maxHeartbeats 4000000
open BitVec renaming ofInt->dv
open Go.BinOp renaming xor->ep
open Go.E.C renaming agg->dj,beq->na,bool->cg,elems->au,get->bc,int->az,set->db,slice->bj,toBool->cz,toInt->ao,wf->ub
open Go.E.Ty renaming arr->ct,int->br
open Go.E.V renaming tup->ow
open Go.IntKind renaming bits->jk,i64->aw,signed->iw,u32->cm,u64->ay,u8->bt,wrap->ar
open Go.IntWalk renaming i64_in->dh
open Go.Proofs.YtgdonkaoajbclaaGreatDoor.St renaming push->vv
open Int renaming lt_irrefl->fb,natCast_nonneg->bu,toNat->av,toNat_natCast->bh
open List renaming drop_succ_cons->va,drop_zero->ib,getD->bp,getD_cons_zero->qf,getD_eq_getElem?_getD->bn,getElem?_append_right->fu,getElem?_eq_getElem->bm,getElem_mem->jy,length->aq,length_append->bx,length_cons->cn,length_map->ez,length_nil->df,length_reverse->jc,map_cons->ed,not_mem_nil->jd,replicate->bf
open Nat renaming beq->bo,beq_refl->bw
open Option renaming isSome_none->py,isSome_some->pz,map_eq_some_iff->fa
open UInt8 renaming ofNat->nt
namespace Go.Proofs.YtgdonkaoajbclaaGreatDoor
open Go Go.E
variable {R:Type} (N:Nat)
section
variable {R:Type} {N:Nat}
theorem Mh (o:Int) (k:KD R):Mq N (.int o) k=k [.int (Ay o)] []:=by
 rw[q0a];unfold jX Ay;by_cases h1:o=1
 ·subst h1;rfl
 by_cases h2:o=2
 ·subst h2;simp[go_sem,AQ]
 by_cases h16:o=16
 ·subst h16;simp[go_sem,AQ]
 by_cases h11:o=11
 ·subst h11;simp[go_sem,AQ]
 by_cases h12:o=12
 ·subst h12;simp[go_sem,AQ]
 simp[go_sem,AQ,h1,h2,h16,h11,h12]
theorem q4x (o:Int) (k:KD R):Pn N (.int o) k=k [.int (Bs o)] []:=by
 rw[F8];unfold jW Bs;by_cases h1:o=5
 ·subst h1;rfl
 by_cases h2:o=16
 ·subst h2;rfl
 simp[go_sem,h1,h2]
def BT (o:Int):Nat:=if o=0\/o=8\/o=12\/o=13\/o=15 then 1 else if o=3\/o=4\/o=5\/o=6\/o=7\/o=9\/o=10\/o=14 then 2 else 0
theorem PD {o:Int} (h:0<=o/\o<18):o=0\/o=1\/o=2\/o=3\/o=4\/o=5\/o=6\/o=7\/o=8\/o=9\/o=10\/o=11\/o=12\/o=13\/o=14\/o=15\/o=16\/o=17:=by omega
theorem NF {o:Int} (h:0<=o/\o<18) (k:KD R):LS N (.int o) k=k [.int (BT o)] []:=by
 rw[q0d];unfold kA BT;rcases PD h with rfl|rfl|rfl|rfl|rfl|rfl|rfl|rfl|rfl|rfl|rfl|rfl|rfl|rfl|rfl|rfl|rfl|rfl <;> simp[go_sem,AQ]
theorem LL (b:Bool) (k:KD R):Hy N (.bool b) k=k [.int (Df b)] []:=by
 rw[q0f];unfold kC Df;cases b <;> rfl
def Ih (r:Int × Int):List Int × Int:=if r.2=0 then([r.1],0)else([],r.2)
def Bk (w:C) (op:Nat) (n a b:Int):List Int × Int:=match op with
 |1=>([n],0)
 |2=>if n<((w.get 0).elems.length:Int)then([((w.get 0).elems.getD n.toNat .nil).toInt],0)else([],1)
 |3=>Ih (Ap a b)
 |4=>Ih (Bu a b)
 |5=>Ih (mulR a b)
 |6=>([Df (decide (a<b))],0)
 |7=>([Df (decide (a=b))],0)
 |8=>([Df (decide (b=0))],0)
 |9=>([Df (!decide (a=0)&& !decide (b=0))],0)
 |10=>([Df (!decide (a=0)|| !decide (b=0))],0)
 |13=>([b,b],0)
 |14=>([b,a],0)
 |16=>if n<((w.get 1).elems.length:Int)then([Df ((w.get 1).elems.getD n.toNat .nil).toBool],0)else([],1)
 |17=>([(w.get 2).toInt],0)
 |_=>([],0)
theorem q8h {w:C} (hw:WOk w) (hb1:∀c∈(w.get 1).elems,c= .bool c.toBool) (op:Nat) (hop:op<18) {n a b:Int} (hn:0<=n) (ha:U64 a) (hb:U64 b) (hN:10<N) (k:KD R):
  Tl N (.int op) (.int n) w (.int a) (.int b) k=k [.slice ((Bk w op n a b).1.map az),.int (Bk w op n a b).2] []:=by
 have c:op=0\/op=1\/op=2\/op=3\/op=4\/op=5\/op=6\/op=7\/op=8\/op=9\/op=10\/op=11\/op=12\/op=13\/op=14\/op=15\/op=16\/op=17:=by omega
 have ofl:∀n:Nat,n<4611686018427387904->IntKind.u64.wrap (n:Int)=n:=fun n hn=>wrap_u64 (by omega) (by omega);have f0:∀i:Nat,i<(w.get 0).elems.length->(w.get 0).elems.getD i .nil= .int ((w.get 0).elems.getD i .nil).toInt:=fun i hi=>by rw[bn,bm hi];exact hw.f _ (jy hi)
 have f1:∀i:Nat,i<(w.get 1).elems.length->(w.get 1).elems.getD i .nil= .bool ((w.get 1).elems.getD i .nil).toBool:=fun i hi=>by rw[bn,bm hi];exact hb1 _ (jy hi)
 have o0:=ofl _ hw.l0;have o1:=ofl _ hw.l1;rw[q0e];unfold kB;rcases c with rfl|rfl|rfl|rfl|rfl|rfl|rfl|rfl|rfl|rfl|rfl|rfl|rfl|rfl|rfl|rfl|rfl|rfl
 ·simp[go_sem,AQ,Bk]
 ·simp[go_sem,AQ,Bk]
 ·by_cases h:n<((w.get 0).elems.length:Int)
  ·have h':¬((w.get 0).elems.length:Int)<=n:=by omega
   have hf:=f0 n.toNat (by omega);simp only[go_sem,AQ,Bk,o0,h,h',hn,AB];simp;exact congrArg (fun c=>k [.slice [c],.int 0] []) (by simpa using hf)
  ·have h':((w.get 0).elems.length:Int)<=n:=by omega
   simp[go_sem,AQ,Bk,o0,h,h']
 ·simp only[AQ,z01 ha hb];by_cases h:(Ap a b).2=0 <;> simp[go_sem,Bk,Ih,h]
 ·simp only[AQ,z3r];by_cases h:(Bu a b).2=0 <;> simp[go_sem,Bk,Ih,h]
 ·simp only[AQ,z3d ha hb hN];by_cases h:(mulR a b).2=0 <;> simp[go_sem,Bk,Ih,h]
 ·(simp[go_sem,AQ,Bk,LL] <;> rfl)
 ·(simp[go_sem,AQ,Bk,LL] <;> rfl)
 ·(simp[go_sem,AQ,Bk,LL] <;> rfl)
 ·by_cases h:a=0
  ·(simp[go_sem,AQ,Bk,LL,h] <;> rfl)
  ·(simp[go_sem,AQ,Bk,LL,h] <;> rfl)
 ·by_cases h:a=0
  ·(simp[go_sem,AQ,Bk,LL,h] <;> rfl)
  ·(simp[go_sem,AQ,Bk,LL,h] <;> rfl)
 ·simp[go_sem,AQ,Bk]
 ·simp[go_sem,AQ,Bk]
 ·simp[go_sem,AQ,Bk]
 ·simp[go_sem,AQ,Bk]
 ·simp[go_sem,AQ,Bk]
 ·by_cases h:n<((w.get 1).elems.length:Int)
  ·have h':¬((w.get 1).elems.length:Int)<=n:=by omega
   have hf:=f1 n.toNat (by omega);simp only[go_sem,AQ,Bk,o1,h,h',hn,AB];rw[hf]
   (simp[LL] <;> rfl)
  ·have h':((w.get 1).elems.length:Int)<=n:=by omega
   simp[go_sem,AQ,Bk,o1,h,h']
 ·have hh:=hw.h;rw[hh];simp[go_sem,AQ,Bk]
end
section
variable {R:Type} {N:Nat}
theorem z0m {p:List C} (hp:ub (.slice 1 (.int .u8)) (.slice p)) (hl:p.length<=256) (i:Nat) (o:Int) (h:i+1+Ay o<=p.length) (hN:100<N) (k2:KD R):
  Ac N (Th N k2) [.slice p,.int i,.int o,.int 0,.int 0] []=k2 [.int o,.int (CA p (i+1) (Ay o))] []:=by
 have hm:=Jz o;refine Dd (F:=Th N k2) (fun j:Nat=>[.slice p,.int i,.int o,.int (CA p (i+1) j),.int j]) (fun _=>[]) (Ay o) _ ?_ ?_ (by omega)
 ·intro j hj rec;unfold Th;have w1:IntKind.i64.wrap ((i:Int)+1)=((i+1:Nat):Int):=by rw[dh _ (by omega)];rfl
  have w2:IntKind.i64.wrap (((i+1:Nat):Int)+(j:Int))=((i+1+j:Nat):Int):=by rw[dh _ (by omega)];rfl
  have w3:IntKind.i64.wrap ((j:Int)+1)=((j+1:Nat):Int):=by rw[dh _ (by omega)];rfl
  have hb:=Hg hp (i:=i+1+j) (by omega);obtain⟨a1,a2,a3⟩:=Ls hp (i:=i+1) (k:=j) (by omega) (by omega);have a4:=a3 (by omega);have b1:(j:Int)<((Ay o:Nat):Int):=by omega
  have b2:(0:Int)<=((i+1+j:Nat):Int)/\((i+1+j:Nat):Int)<(p.length:Int):=by omega
  have w4:IntKind.u64.wrap (CA p (i+1) j*256)=CA p (i+1) j*256:=wrap_u64 (by omega) (by omega);have w5:IntKind.u64.wrap (bN p (i+1+j))=bN p (i+1+j):=wrap_u64 (by omega) (by omega);have w6:IntKind.u64.wrap (CA p (i+1) j*256+bN p (i+1+j))=CA p (i+1) j*256+bN p (i+1+j):=wrap_u64 (by omega) (by omega);simp only[go_sem,Mh,AB,AJ,w1,w2,w3,b1,b2,AE,and_self,bh];rw[hb.1];simp only[AB,w4,w5,w6];rfl
 ·intro rec;unfold Th;simp only[go_sem,Mh,AB,fb,AE]
theorem c9 {p:List C} (hp:ub (.slice 1 (.int .u8)) (.slice p)) (hl:p.length<=256) (i:Nat) (hi:i<=100000) (hN:100<N) (k:KD R):
  Ti N (.slice p) (.int i) k=k [.int (if Ar p i=0 then bN p i else 0),.int (if Ar p i=0 then CL p i else 0),.int (Ar p i)] []:=by
 rw[q0b];unfold jY;by_cases h1:p.length<=i
 ·have h1':(p.length:Int)<=(i:Int):=by omega
  have e:Ar p i=9:=by unfold Ar;rw[if_pos h1]
  simp[go_sem,h1',e]
 have h1':¬(p.length:Int)<=(i:Int):=by omega
 have b1:(0:Int)<=(i:Int)/\(i:Int)<(p.length:Int):=by omega
 have hb:=Hg hp (i:=i) (by omega);have w0:IntKind.i64.wrap (bN p i)=bN p i:=dh _ (by omega);by_cases h2:18<=bN p i
 ·have e:Ar p i=33:=by unfold Ar;rw[if_neg h1,if_pos h2]
  have h2':17<bN p i:=by omega
  simp only[go_sem,AB,AJ,h1',b1,AE,and_self,bh,hb.1,w0,h2',e];rfl
 have h2':¬17<bN p i:=by omega
 have hm:=Jz (bN p i);have w1:IntKind.i64.wrap ((i:Int)+1)=((i+1:Nat):Int):=by rw[dh _ (by omega)];rfl
 have w2:IntKind.i64.wrap (((i+1:Nat):Int)+((Ay (bN p i):Nat):Int))=((i+1+Ay (bN p i):Nat):Int):=by rw[dh _ (by omega)];rfl
 by_cases h3:p.length<i+1+Ay (bN p i)
 ·have e:Ar p i=9:=by unfold Ar;rw[if_neg h1,if_neg h2,if_pos h3]
  have h3':(p.length:Int)<((i+1+Ay (bN p i):Nat):Int):=by omega
  simp only[go_sem,AB,AJ,h1',b1,AE,and_self,bh,hb.1,w0,h2',Mh,AF,w1,w2,h3',e];rfl
 ·have e:Ar p i=0:=by unfold Ar;rw[if_neg h1,if_neg h2,if_neg h3]
  have h3':¬(p.length:Int)<((i+1+Ay (bN p i):Nat):Int):=by omega
  simp only[go_sem,AB,AJ,h1',b1,and_self,bh,hb.1,w0,h2',AE,Mh,AF,AL,w1,w2,h3',AQ,z0m hp hl i (bN p i) (by omega) hN,e];rfl
structure Cw (r:List Int) (lf:List Int × Int) (y:St):Prop where
 bad:lf.2≠0->y.e=lf.2
 full:lf.2=0->32<r.length+lf.1.length->y.e=4
 ok:lf.2=0->¬32<r.length+lf.1.length->y=⟨lf.1.reverse++r,0⟩
theorem Cw.push {r:List Int} (a:Int):Cw r ([a],0) (vv ⟨r,0⟩ a):=by
 unfold vv St.fail;refine⟨fun h=>absurd rfl h,fun _ h=>?_,fun _ h=>?_⟩
 ·simp only[cn,df]at h;rw[if_pos (by dsimp only;omega)];rfl
 ·simp only[cn,df]at h;rw[if_neg (by dsimp only;omega)];rfl
theorem Cw.put {r:List Int} (q:Int × Int):Cw r (Ih q) (St.put ⟨r,0⟩ q):=by
 unfold Ih St.put;by_cases h:q.2=0
 ·simp only[h,if_true];exact Cw.push _
 ·simp only[h,if_false];exact⟨fun _=>rfl,fun h'=>absurd h' h,fun h'=>absurd h' h⟩
theorem Cw.FR {r:List Int} (hr:r.length<=31) (a b:Int):Cw r ([a,b],0) (St.FR ⟨r,0⟩ a b):=by
 have p1:vv ⟨r,0⟩ a=⟨a::r,0⟩:=by
  unfold vv;rw[if_neg (by dsimp only;omega)]
 unfold St.FR;rw[if_neg (by dsimp only;omega),p1];have hl:(a::r).length=r.length+1:=cn;unfold vv St.fail;refine⟨fun h=>absurd rfl h,fun _ h=>?_,fun _ h=>?_⟩
 ·simp only[cn,df]at h;rw[if_pos (show 32<=(a::r).length by omega)];rfl
 ·simp only[cn,df]at h;rw[if_neg (show ¬32<=(a::r).length by omega)];rfl
theorem YX {w:C} {op:Nat} (h:op=1\/op=2\/op=16\/op=17) (n a b:Int) (r:List Int):Cw r (Bk w op n a b) (CD w op n ⟨r,0⟩):=by
 rcases h with rfl|rfl|rfl|rfl
 ·exact Cw.push _
 ·by_cases h:n<((w.get 0).elems.length:Int)
  ·simp only[Bk,CD,h,if_true];exact Cw.push _
  ·simp only[Bk,CD,h,if_false];exact⟨fun _=>rfl,fun h=>absurd (show(1:Int)=0 from h) (by decide),fun h=>absurd (show(1:Int)=0 from h) (by decide)⟩
 ·by_cases h:n<((w.get 1).elems.length:Int)
  ·simp only[Bk,CD,h,if_true];exact Cw.push _
  ·simp only[Bk,CD,h,if_false];exact⟨fun _=>rfl,fun h=>absurd (show(1:Int)=0 from h) (by decide),fun h=>absurd (show(1:Int)=0 from h) (by decide)⟩
 ·exact Cw.push _
theorem mQ {w:C} {op:Nat} (h:op=8\/op=13\/op=15) (n a b:Int) (r:List Int) (hr:r.length<=31):Cw r (Bk w op n a b) (CD w op n ⟨b::r,0⟩):=by
 rcases h with rfl|rfl|rfl
 ·exact Cw.push _
 ·exact Cw.FR hr b b
 ·refine⟨fun h=>absurd rfl h,fun _ h=>?_,fun _ _=>rfl⟩;simp only[Bk,df]at h;omega
theorem Lb {w:C} {op:Nat} (h:op=3\/op=4\/op=5\/op=6\/op=7\/op=9\/op=10\/op=14) (n a b:Int) (r:List Int) (hr:r.length<=30):Cw r (Bk w op n a b) (CD w op n ⟨b::a::r,0⟩):=by
 rcases h with rfl|rfl|rfl|rfl|rfl|rfl|rfl|rfl
 ·exact Cw.put (Ap a b)
 ·exact Cw.put (Bu a b)
 ·exact Cw.put (mulR a b)
 ·exact Cw.push _
 ·exact Cw.push _
 ·exact Cw.push _
 ·exact Cw.push _
 ·exact Cw.FR (by omega) b a
end
section
variable {R:Type} {N:Nat}
def stk (s:List Int):C:=.slice (s.reverse.map az)
theorem NB (s:List Int):(stk s).elems.length=s.length:=by simp[stk,au]
theorem q1P (b:Int) (r:List Int):(stk (b::r)).elems.getD r.length .nil= .int b:=by
 have:(stk (b::r)).elems=r.reverse.map az++[.int b]:=by simp[stk,au]
 rw[this,bn,fu (by simp)];simp
theorem z4g (b a:Int) (r:List Int):(stk (b::a::r)).elems.getD r.length .nil= .int a:=by
 have:(stk (b::a::r)).elems=r.reverse.map az++[.int a,.int b]:=by simp[stk,au]
 rw[this,bn,fu (by simp)];simp
theorem mR (q r:List Int):cut (stk (q++r)).elems 0 (r.length:Int)=r.reverse.map az:=by
 have:(stk (q++r)).elems=r.reverse.map az++q.reverse.map az:=by simp[stk,au]
 rw[this];unfold cut;simp
theorem mS (r l:List Int):bj (r.reverse.map az++l.map az)=stk (l.reverse++r):=by simp[stk]
theorem q8f (w:C) (op:Nat) (n a b:Int):(Bk w op n a b).1.length<=2:=by
 unfold Bk Ih;split <;> (try split) <;> simp
structure q2Y where
 i:Nat
 sp:Int
 s:List Int
theorem z3l {p:List C} (hp:ub (.slice 1 (.int .u8)) (.slice p)) (hl:p.length<=256) {gas:Int} (hg:0<=gas/\gas<=4096) {w:C} (hw:WOk w) (hb1:∀c∈(w.get 1).elems,c= .bool c.toBool)
  (hN:5000<N) (k rec:KD R) (i:Nat) (hi:i<=100000) (sp:Int) (h0:0<=sp) (h1:sp<=gas) (s:List Int) (hs:s.length<=32) (hu:∀a∈s,U64 a):
  Tj N k rec [.slice p,.int gas,w,stk s,.int i,.int sp] []=
   if Ar p i≠0 then k [.int 0,.int sp,.int (Ar p i)] []
   else if gas<sp+Bs (bN p i)then k [.int 0,.int sp,.int 24] []
   else if s.length<BT (bN p i)then k [.int 0,.int (sp+Bs (bN p i)),.int 12] []
   else if bN p i=0 then k [.int (s.getD 0 0),.int (sp+Bs (bN p i)),.int 0] []
   else
    let a:=if BT (bN p i)=2 then s.getD 1 0 else 0
    let b:=if 1<=BT (bN p i)then s.getD 0 0 else 0
    let lf:=Bk w (bN p i).toNat (CL p i) a b
    let r:=s.drop (BT (bN p i))
    if lf.2≠0 then k [.int 0,.int (sp+Bs (bN p i)),.int lf.2] []
    else if 32<r.length+lf.1.length then k [.int 0,.int (sp+Bs (bN p i)),.int 4] []
    else rec [.slice p,.int gas,w,stk (lf.1.reverse++r),.int (if bN p i=11\/(bN p i=12/\b≠0)then(CL p i).toNat else i+1+Ay (bN p i):Nat),.int (sp+Bs (bN p i))] []:=by
 unfold Tj;by_cases e1:Ar p i=0
 case neg=>simp only[c9 hp hl i hi (by omega:100<N),e1,AF,AL,AP,AU,Ab,Av,AB,AE,ne_eq,not_false_iff]
 have hb:i<p.length/\bN p i<18/\i+1+Ay (bN p i)<=p.length:=by
  unfold Ar at e1;split at e1
  ·cases e1
  split at e1
  ·cases e1
  split at e1
  ·cases e1
  omega
 have hbw:=Hg hp hb.1;have hop:0<=bN p i/\bN p i<18:=by omega
 have hcp:=Qm (bN p i);have w2:IntKind.i64.wrap (sp+Bs (bN p i))=sp+Bs (bN p i):=dh _ (by omega);have hmo:=Jz (bN p i);obtain⟨g1,g2,g3⟩:=Ls hp (i:=i+1) (k:=Ay (bN p i)) (by omega) hmo;have h16:bN p i=11\/bN p i=12->CL p i<65536:=fun h=>(VC hp hb.2.2 h).2;have hq:CA p (i+1) (Ay (bN p i))=CL p i:=rfl;rw[hq]at g1 g2;simp only[c9 hp hl i hi (by omega:100<N),e1,AE,AF,AL,AP,AU,Ab,Av,AB,q4x,NF hop,w2,ne_eq,not_true,NB];by_cases e2:gas<sp+Bs (bN p i)
 ·simp only[e2,AE]
 simp only[e2,AE];have z7y:=PD hop;generalize hO:bN p i=o at*;generalize CL p i=n at*;generalize Bs o=c at*;have ht:BT o=0\/BT o=1\/BT o=2:=by unfold BT;(repeat' split) <;> simp
 have z6G:∀m n:Nat,m<=100->n<=100->IntKind.i64.wrap ((m:Int)+(n:Int))=((m+n:Nat):Int):=fun m n h1 h2=>by rw[dh _ (by omega)];rfl
 have z6j:=fun n a b:Int=>q8f w o.toNat n a b;have w3:IntKind.i64.wrap ((i:Int)+1)=((i+1:Nat):Int):=by rw[dh _ (by omega)];rfl
 have w4:IntKind.i64.wrap (((i+1:Nat):Int)+((Ay o:Nat):Int))=((i+1+Ay o:Nat):Int):=by rw[dh _ (by omega)];rfl
 have ho:((o.toNat:Nat):Int)=o:=by omega
 have lq:=fun(n a b:Int) (hn:0<=n) (ha:U64 a) (hb:U64 b) (k:KD R)=>q8h (R:=R) hw hb1 o.toNat (by omega) hn ha hb (show 10<N by omega) k;rw[ho]at lq;have u0:U64 0:=⟨by omega,by omega⟩;have z0:Int.ofNat 0<=0:=Int.le_refl _;rcases ht with ht|ht|ht
 ·have w5:IntKind.i64.wrap ((s.length:Int)-((0:Nat):Int))=(s.length:Int):=by rw[dh _ (by omega)];omega
  have hc:cut (stk s).elems 0 (s.length:Int)=s.reverse.map az:=mR [] s;have b1:¬((s.length:Nat):Int)<((0:Nat):Int):=by omega
  have b2:¬(1:Int)<=((0:Nat):Int):=by omega
  have b3:¬((0:Nat):Int)=2:=by omega
  have b4:(0:Int)<=(s.length:Int)/\(s.length:Int)<=(s.length:Int):=by omega
  have b5:¬s.length<0:=by omega
  have b6:¬1<=0:=by omega
  have b7:¬(0:Nat)=2:=by omega
  have o00:¬o=0:=fun h=>by subst h;exact absurd ht (by decide)
  simp only[ht,AQ,AF,AL,AP,AU,Ab,Av,Ba,DD,Da,FJ,AB,AJ,Ah,NF hop,AE,NB,bw,and_self,b1,b2,b3,w5,hc,b4,z0,b5,b6,b7,ib];by_cases o0:o=0
  ·exact absurd o0 o00
  have o0':decide (o=0)=false:=decide_eq_false o0;have rl:s.length<=32:=hs;simp only[o0,AE,lq n 0 0 g1 u0 u0,AF,AL,AB,AJ,ez,jc];have hlen:=z6j n 0 0;generalize Bk w o.toNat n 0 0=lf at hlen ⊢;obtain⟨l,f⟩:=lf;dsimp only at hlen ⊢;have c1:=z6G s.length l.length (by omega) (by omega);have c2:(s.length+l.length)*8<=140737488355328/\s.length+l.length<=9223372036854775807:=by omega
  by_cases hf:f=0
  case neg=>simp only[hf,AE,not_false_iff]
  by_cases full:32<s.length+l.length
  ·have zt:(32:Int)<((s.length+l.length:Nat):Int):=by omega
   simp only[hf,c1,full,zt,AE,not_true]
  ·have zt:¬(32:Int)<((s.length+l.length:Nat):Int):=by omega
   simp only[hf,c1,c2,full,zt,AE,not_true,and_self,Mh,AF,AB,w3,w4,bx,ez,jc,bw,mS];by_cases o11:o=11
   ·have wn:IntKind.i64.wrap n=((n.toNat:Nat):Int):=by rw[dh _ (by have:=h16 (.inl o11);omega)];omega
    simp only[o11,AE,true_or,wn]
   by_cases o12:o=12
   ·have wn:IntKind.i64.wrap n=((n.toNat:Nat):Int):=by rw[dh _ (by have:=h16 (.inr o12);omega)];omega
    by_cases b0:0=0
    ·simp[o11,o12,b0,wn]
    ·simp[o11,o12,b0,wn]
   ·simp only[o11,o12,AE,false_or,false_and]
 ·rcases s with _|⟨b,r⟩
  ·simp[ht,AQ,NF hop,NB]
  have hub:U64 b:=hu b (by simp);have w5:IntKind.i64.wrap (((b::r).length:Int)-((1:Nat):Int))=(r.length:Int):=by rw[dh _ (by simp only[cn]at hs ⊢;omega)];simp
  have w6:IntKind.i64.wrap (((b::r).length:Int)-1)=(r.length:Int):=w5;have hc:cut (stk (b::r)).elems 0 (r.length:Int)=r.reverse.map az:=mR [b] r;have hll:(b::r).length=r.length+1:=cn;have b1:¬((b::r).length:Int)<((1:Nat):Int):=by omega
  have b2:(1:Int)<=((1:Nat):Int):=by omega
  have b3:¬((1:Nat):Int)=2:=by omega
  have b4:(0:Int)<=(r.length:Int)/\(r.length:Int)<=((b::r).length:Int):=by omega
  have b8:(0:Int)<=(r.length:Int)/\(r.length:Int)<((b::r).length:Int):=by omega
  have b5:¬(b::r).length<1:=by omega
  have b6:(1:Nat)<=1:=by omega
  have b7:¬(1:Nat)=2:=by omega
  simp only[ht,AQ,AF,AL,AP,AU,Ab,Av,Ba,DD,Da,FJ,AB,AJ,Ah,NF hop,AE,NB,bw,and_self,b1,b2,b3,w5,w6,hc,b4,b8,z0,b5,b6,b7,bh,q1P,va,ib,qf];by_cases o0:o=0
  ·simp only[o0,AE]
  have o0':decide (o=0)=false:=decide_eq_false o0;have rl:r.length<=32:=(by omega);simp only[o0,AE,lq n 0 b g1 u0 hub,AF,AL,AB,AJ,ez,jc];have hlen:=z6j n 0 b;generalize Bk w o.toNat n 0 b=lf at hlen ⊢;obtain⟨l,f⟩:=lf;dsimp only at hlen ⊢;have c1:=z6G r.length l.length (by omega) (by omega);have c2:(r.length+l.length)*8<=140737488355328/\r.length+l.length<=9223372036854775807:=by omega
  by_cases hf:f=0
  case neg=>simp only[hf,AE,not_false_iff]
  by_cases full:32<r.length+l.length
  ·have zt:(32:Int)<((r.length+l.length:Nat):Int):=by omega
   simp only[hf,c1,full,zt,AE,not_true]
  ·have zt:¬(32:Int)<((r.length+l.length:Nat):Int):=by omega
   simp only[hf,c1,c2,full,zt,AE,not_true,and_self,Mh,AF,AB,w3,w4,bx,ez,jc,bw,mS];by_cases o11:o=11
   ·have wn:IntKind.i64.wrap n=((n.toNat:Nat):Int):=by rw[dh _ (by have:=h16 (.inl o11);omega)];omega
    simp only[o11,AE,true_or,wn]
   by_cases o12:o=12
   ·have wn:IntKind.i64.wrap n=((n.toNat:Nat):Int):=by rw[dh _ (by have:=h16 (.inr o12);omega)];omega
    by_cases b0:b=0
    ·simp[o11,o12,b0,wn]
    ·simp[o11,o12,b0,wn]
   ·simp only[o11,o12,AE,false_or,false_and]
 ·rcases s with _|⟨b,_|⟨a,r⟩⟩
  ·simp[ht,AQ,NF hop,NB]
  ·simp[ht,AQ,NF hop,NB]
  have hub:U64 b:=hu b (by simp);have hua:U64 a:=hu a (by simp);have hll:(b::a::r).length=r.length+2:=by simp
  have w5:IntKind.i64.wrap (((b::a::r).length:Int)-((2:Nat):Int))=(r.length:Int):=by rw[dh _ (by omega)];omega
  have w6:IntKind.i64.wrap (((b::a::r).length:Int)-1)=((r.length+1:Nat):Int):=by rw[dh _ (by omega)];omega
  have w7:IntKind.i64.wrap (((b::a::r).length:Int)-2)=(r.length:Int):=w5;have hc:cut (stk (b::a::r)).elems 0 (r.length:Int)=r.reverse.map az:=mR [b,a] r;have e0:(stk (b::a::r)).elems.getD (r.length+1) .nil= .int b:=q1P b (a::r);have b1:¬((b::a::r).length:Int)<((2:Nat):Int):=by omega
  have b1':¬((b::a::r).length:Int)<2:=by omega
  have b2:(1:Int)<=((2:Nat):Int):=by omega
  have b3:((2:Nat):Int)=2:=rfl;have b4:(0:Int)<=(r.length:Int)/\(r.length:Int)<=((b::a::r).length:Int):=by omega
  have b8:(0:Int)<=(r.length:Int)/\(r.length:Int)<((b::a::r).length:Int):=by omega
  have b9:(0:Int)<=((r.length+1:Nat):Int)/\((r.length+1:Nat):Int)<((b::a::r).length:Int):=by omega
  have b5:¬(b::a::r).length<2:=by omega
  have b6:(1:Nat)<=2:=by omega
  have b7:(2:Nat)=2:=rfl;have b10:(1:Int)<=2:=by omega
  have o00:¬o=0:=fun h=>by subst h;exact absurd ht (by decide)
  simp only[ht,AQ,AF,AL,AP,AU,Ab,Av,Ba,DD,Da,FJ,AB,AJ,Ah,NF hop,AE,NB,bw,and_self,b1,b1',b2,b3,b10,w5,w6,w7,hc,b4,b8,b9,z0,b5,b6,b7,bh,e0,z4g,va,ib,qf,List.getD_cons_succ];by_cases o0:o=0
  ·exact absurd o0 o00
  have o0':decide (o=0)=false:=decide_eq_false o0;have rl:r.length<=32:=(by omega);simp only[o0,AE,lq n a b g1 hua hub,AF,AL,AB,AJ,ez,jc];have hlen:=z6j n a b;generalize Bk w o.toNat n a b=lf at hlen ⊢;obtain⟨l,f⟩:=lf;dsimp only at hlen ⊢;have c1:=z6G r.length l.length (by omega) (by omega);have c2:(r.length+l.length)*8<=140737488355328/\r.length+l.length<=9223372036854775807:=by omega
  by_cases hf:f=0
  case neg=>simp only[hf,AE,not_false_iff]
  by_cases full:32<r.length+l.length
  ·have zt:(32:Int)<((r.length+l.length:Nat):Int):=by omega
   simp only[hf,c1,full,zt,AE,not_true]
  ·have zt:¬(32:Int)<((r.length+l.length:Nat):Int):=by omega
   simp only[hf,c1,c2,full,zt,AE,not_true,and_self,Mh,AF,AB,w3,w4,bx,ez,jc,bw,mS];by_cases o11:o=11
   ·have wn:IntKind.i64.wrap n=((n.toNat:Nat):Int):=by rw[dh _ (by have:=h16 (.inl o11);omega)];omega
    simp only[o11,AE,true_or,wn]
   by_cases o12:o=12
   ·have wn:IntKind.i64.wrap n=((n.toNat:Nat):Int):=by rw[dh _ (by have:=h16 (.inr o12);omega)];omega
    by_cases b0:b=0
    ·simp[o11,o12,b0,wn]
    ·simp[o11,o12,b0,wn]
   ·simp only[o11,o12,AE,false_or,false_and]
end
section
variable {R:Type} {N:Nat}
theorem PB (b:Bool):U64 (Df b):=by cases b <;> exact⟨by decide,by decide⟩
theorem z4V (n:Int):U64 (IntKind.u64.wrap n):=by
 have:IntKind.u64.wrap n=n%18446744073709551616:=by simp[ar,jk,iw]
 rw[this];exact⟨by omega,by omega⟩
theorem dW {q:Int × Int} (h:U64 q.1):∀x∈(Ih q).1,U64 x:=by
 unfold Ih;split
 ·intro x hx;simp at hx;subst hx;exact h
 ·intro x hx;simp at hx
theorem KG {n:Int} (h:U64 n):∀x∈[n],U64 x:=by intro x hx;simp at hx;subst hx;exact h
theorem q2d {n m:Int} (h:U64 n) (h2:U64 m):∀x∈[n,m],U64 x:=by
 intro x hx;simp at hx;rcases hx with rfl|rfl
 ·exact h
 ·exact h2
theorem q8g {w:C} (hf:∀c∈(w.get 0).elems,U64 c.toInt) (hh:U64 (w.get 2).toInt) (op:Nat) {n a b:Int} (hn:U64 n) (ha:U64 a) (hb:U64 b):∀x∈(Bk w op n a b).1,U64 x:=by
 have u0:U64 0:=⟨by omega,by omega⟩;unfold Bk;split
 ·exact KG hn
 ·split
  ·rename_i h;refine KG ?_;have hi:n.toNat<(w.get 0).elems.length:=by have:=hn.1;omega
   rw[bn,bm hi];exact hf _ (jy hi)
  ·intro x hx;simp at hx
 ·refine dW ?_;unfold Ap;split
  ·exact⟨by dsimp only;omega,by dsimp only;omega⟩
  ·exact u0
 ·refine dW ?_;unfold Bu;split
  ·exact u0
  ·exact z4V _
 ·refine dW ?_;rw[z9 ha hb];have:=Int.mul_nonneg ha.1 hb.1;split
  ·exact⟨this,by assumption⟩
  ·exact u0
 ·exact KG (PB _)
 ·exact KG (PB _)
 ·exact KG (PB _)
 ·exact KG (PB _)
 ·exact KG (PB _)
 ·exact q2d hb hb
 ·exact q2d hb ha
 ·split
  ·exact KG (PB _)
  ·intro x hx;simp at hx
 ·exact KG hh
 ·intro x hx;simp at hx
theorem under {w:C} {o:Int} (ho:0<=o/\o<18) (h0:o≠0) (h12:o≠12) (n:Int) {s:List Int} (hlt:s.length<BT o):(CD w o.toNat n ⟨s,0⟩).e=12:=by
 rcases s with _|⟨b,_|⟨a,r⟩⟩
 ·rcases PD ho with h|h|h|h|h|h|h|h|h|h|h|h|h|h|h|h|h|h <;> subst h <;> first
   |exact absurd rfl h0|exact absurd rfl h12|rfl|(exfalso;simp[BT]at hlt;done)
 ·rcases PD ho with h|h|h|h|h|h|h|h|h|h|h|h|h|h|h|h|h|h <;> subst h <;> first
   |exact absurd rfl h0|exact absurd rfl h12|rfl|(exfalso;simp[BT]at hlt;done)
 ·exfalso;unfold BT at hlt;simp only[cn]at hlt
  (repeat' split at hlt) <;> omega
theorem z4c {w:C} {o:Int} (ho:0<=o/\o<18) (h0:o≠0) (h11:o≠11) (h12:o≠12) (n:Int) {s:List Int} (hs:s.length<=32) (hlt:¬s.length<BT o):
  Cw (s.drop (BT o)) (Bk w o.toNat n (if BT o=2 then s.getD 1 0 else 0) (if 1<=BT o then s.getD 0 0 else 0)) (CD w o.toNat n ⟨s,0⟩):=by
 rcases PD ho with h|h|h|h|h|h|h|h|h|h|h|h|h|h|h|h|h|h <;> subst h
 ·exact absurd rfl h0
 ·exact YX (by decide) n _ _ s
 ·exact YX (by decide) n _ _ s
 ·rcases s with _|⟨b,_|⟨a,r⟩⟩
  ·exfalso;simp[BT]at hlt
  ·exfalso;simp[BT]at hlt
  ·exact Lb (by decide) n a b r (by simp at hs;omega)
 ·rcases s with _|⟨b,_|⟨a,r⟩⟩
  ·exfalso;simp[BT]at hlt
  ·exfalso;simp[BT]at hlt
  ·exact Lb (by decide) n a b r (by simp at hs;omega)
 ·rcases s with _|⟨b,_|⟨a,r⟩⟩
  ·exfalso;simp[BT]at hlt
  ·exfalso;simp[BT]at hlt
  ·exact Lb (by decide) n a b r (by simp at hs;omega)
 ·rcases s with _|⟨b,_|⟨a,r⟩⟩
  ·exfalso;simp[BT]at hlt
  ·exfalso;simp[BT]at hlt
  ·exact Lb (by decide) n a b r (by simp at hs;omega)
 ·rcases s with _|⟨b,_|⟨a,r⟩⟩
  ·exfalso;simp[BT]at hlt
  ·exfalso;simp[BT]at hlt
  ·exact Lb (by decide) n a b r (by simp at hs;omega)
 ·rcases s with _|⟨b,r⟩
  ·exfalso;simp[BT]at hlt
  ·exact mQ (by decide) n _ b r (by simp at hs;omega)
 ·rcases s with _|⟨b,_|⟨a,r⟩⟩
  ·exfalso;simp[BT]at hlt
  ·exfalso;simp[BT]at hlt
  ·exact Lb (by decide) n a b r (by simp at hs;omega)
 ·rcases s with _|⟨b,_|⟨a,r⟩⟩
  ·exfalso;simp[BT]at hlt
  ·exfalso;simp[BT]at hlt
  ·exact Lb (by decide) n a b r (by simp at hs;omega)
 ·exact absurd rfl h11
 ·exact absurd rfl h12
 ·rcases s with _|⟨b,r⟩
  ·exfalso;simp[BT]at hlt
  ·exact mQ (by decide) n _ b r (by simp at hs;omega)
 ·rcases s with _|⟨b,_|⟨a,r⟩⟩
  ·exfalso;simp[BT]at hlt
  ·exfalso;simp[BT]at hlt
  ·exact Lb (by decide) n a b r (by simp at hs;omega)
 ·rcases s with _|⟨b,r⟩
  ·exfalso;simp[BT]at hlt
  ·exact mQ (by decide) n _ b r (by simp at hs;omega)
 ·exact YX (by decide) n _ _ s
 ·exact YX (by decide) n _ _ s
theorem z3n {p:List C} (hp:ub (.slice 1 (.int .u8)) (.slice p)) (hl:p.length<=256) {gas:Int} (hg:0<=gas/\gas<=4096) {w:C} (hw:WOk w) (hb1:∀c∈(w.get 1).elems,c= .bool c.toBool)
  (hf:∀c∈(w.get 0).elems,U64 c.toInt) (hh:U64 (w.get 2).toInt) (hN:5000<N) (k:KD R):
  Ac N (Tj N k) [.slice p,.int gas,w,.slice [],.int 0,.int 0] []=k [.int (ED p gas w 0 0 ⟨[],0⟩).1,.int (ED p gas w 0 0 ⟨[],0⟩).2.1,.int (ED p gas w 0 0 ⟨[],0⟩).2.2] []:=by
 refine Hr (F:=Tj N k) (fun j:q2Y=>[.slice p,.int gas,w,stk j.s,.int j.i,.int j.sp]) (fun _=>[]) (fun j=>(gas-j.sp).toNat)
  (fun j=>j.s.length<=32/\(∀a∈j.s,U64 a)/\0<=j.sp/\j.sp<=gas/\j.i<=100000) (fun j=>k [.int (ED p gas w j.i j.sp ⟨j.s,0⟩).1,.int (ED p gas w j.i j.sp ⟨j.s,0⟩).2.1,.int (ED p gas w j.i j.sp ⟨j.s,0⟩).2.2] [])
  ?_ N ⟨0,0,[]⟩ ⟨by simp,by simp,by dsimp only;omega,by dsimp only;omega,by dsimp only;omega⟩ (by dsimp only;omega)
 rintro⟨i,sp,s⟩ ⟨hs,hu,h0,h1,hi⟩ rec zd;dsimp only at hs hu h0 h1 hi zd ⊢;rw[z3l hp hl hg hw hb1 hN k rec i hi sp h0 h1 s hs hu,q1b];by_cases e1:Ar p i=0
 case neg=>simp[e1]
 have hb:i<p.length/\bN p i<18/\i+1+Ay (bN p i)<=p.length:=by
  unfold Ar at e1;split at e1
  ·cases e1
  split at e1
  ·cases e1
  split at e1
  ·cases e1
  omega
 have hbw:=Hg hp hb.1;have hop:0<=bN p i/\bN p i<18:=by omega
 have hcp:=Qm (bN p i);have hmo:=Jz (bN p i);obtain⟨g1,g2,_⟩:=Ls hp (i:=i+1) (k:=Ay (bN p i)) (by omega) hmo;have h16:bN p i=11\/bN p i=12->0<=CL p i/\CL p i<65536:=fun h=>VC hp hb.2.2 h;have hq:CA p (i+1) (Ay (bN p i))=CL p i:=rfl;rw[hq]at g1 g2;have hnu:U64 (CL p i):=⟨g1,by omega⟩;have e1':¬Ar p i≠0:=by simpa using e1
 rw[if_neg e1',if_neg e1'];by_cases e2:gas<sp+Bs (bN p i)
 ·have e2':gas-sp<Bs (bN p i):=by omega
  rw[if_pos e2,if_pos e2']
 have e2':¬gas-sp<Bs (bN p i):=by omega
 rw[if_neg e2,if_neg e2'];have z7y:=PD hop;generalize bN p i=o at*;generalize CL p i=n at*;generalize Bs o=c at*;clear hq;by_cases e3:s.length<BT o
 ·rw[if_pos e3];by_cases o0:o=0
  ·subst o0;rcases s with _|⟨b,r⟩
   ·rfl
   ·exact absurd e3 (by simp[BT])
  by_cases o11:o=11
  ·subst o11;exact absurd e3 (by simp[BT])
  by_cases o12:o=12
  ·subst o12;rcases s with _|⟨b,r⟩
   ·rfl
   ·exact absurd e3 (by simp[BT])
  have hun:=under (w:=w) hop o0 o12 n e3;rw[if_neg o0,if_neg o11,if_neg o12,if_pos (by rw[hun];decide),hun]
 rw[if_neg e3];by_cases o0:o=0
 ·subst o0;rcases s with _|⟨b,r⟩
  ·exact absurd (show(0:Nat)<1 by omega) e3
  ·rfl
 rw[if_neg o0,if_neg o0]
 have z5C:∀(q:List Int),(∀a∈q,U64 a)->q.length<=32->∀at',at'<=100000->rec [.slice p,.int gas,w,stk q,.int (at':Nat),.int (sp+c)] []=k [.int (ED p gas w at' (sp+c) ⟨q,0⟩).1,.int (ED p gas w at' (sp+c) ⟨q,0⟩).2.1,.int (ED p gas w at' (sp+c) ⟨q,0⟩).2.2] []:=
  fun q hq hl at' ha=>zd ⟨at',sp+c,q⟩ ⟨hl,hq,by dsimp only;omega,by dsimp only;omega,ha⟩ (by dsimp only;omega)
 by_cases o11:o=11
 ·subst o11;have:=h16 (.inl rfl);have q:=z5C s hu hs n.toNat (by omega);have f32:¬32<s.length:=by omega
  simpa[BT,Bk,f32]using q
 by_cases o12:o=12
 ·subst o12;have:=h16 (.inr rfl);rcases s with _|⟨b,r⟩
  ·exact absurd (show(0:Nat)<1 by omega) e3
  have hrl:r.length<=31:=by simp at hs;omega
  have f32:¬32<r.length:=by omega
  have hur:∀a∈r,U64 a:=fun a ha=>hu a (by simp[ha]);have hm12:Ay 12=2:=rfl;by_cases b0:b=0
  ·have q:=z5C r hur (by omega) (i+1+Ay 12) (by omega);subst b0;simpa[BT,Bk,St.pop,f32]using q
  ·have q:=z5C r hur (by omega) n.toNat (by omega);simpa[BT,Bk,St.pop,f32,b0]using q
 rw[if_neg o11,if_neg o12];have hS:=z4c (w:=w) hop o0 o11 o12 n hs e3;have ha:U64 (if BT o=2 then s.getD 1 0 else 0):=by
  split
  ·rw[bn,bm (by omega)];exact hu _ (jy _)
  ·exact⟨by omega,by omega⟩
 have hbb:U64 (if 1<=BT o then s.getD 0 0 else 0):=by
  split
  ·rw[bn,bm (by omega)];exact hu _ (jy _)
  ·exact⟨by omega,by omega⟩
 have hlu:=q8g hf hh o.toNat hnu ha hbb;dsimp only;generalize (if BT o=2 then s.getD 1 0 else 0)=a at*;generalize (if 1<=BT o then s.getD 0 0 else 0)=b at*;generalize Bk w o.toNat n a b=lf at*;generalize CD w o.toNat n ⟨s,0⟩=y at*;have hdu:∀a∈s.drop (BT o),U64 a:=fun a ha=>hu a (List.mem_of_mem_drop ha);generalize s.drop (BT o)=r at*;by_cases f1:lf.2=0
 case neg=>
  have hy:=hS.bad f1;rw[if_pos f1,if_pos (by rw[hy];exact f1),hy]
 rw[if_neg (by simpa using f1)];by_cases f2:32<r.length+lf.1.length
 ·have hy:=hS.full f1 f2;rw[if_pos f2,if_pos (by rw[hy];decide),hy]
 ·have hy:=hS.ok f1 f2;subst hy;have hne:¬(o=11\/o=12/\b≠0):=fun h=>h.elim o11 fun h=>o12 h.1;rw[if_neg f2,if_neg hne,if_neg (by simp)]
  exact z5C (lf.1.reverse++r) (fun a ha=>by
   rcases List.mem_append.1 ha with h|h
   ·exact hlu a (List.mem_reverse.1 h)
   ·exact hdu a h) (by simp;omega) _ (by omega)
end
def ZP (a0 a1 a2:C) (k1:KD R):Option R:=jn (fun d1 m1=>(bif cz (dk d1 2)then(k1 [az 0,az 1,BF] [])else(Ly N (dk d1 3) (dk d1 1) (fun d2 m2=>(bif !decide (ao (dk d2 0)=0)then(k1 [az 0,dk d2 0,BF] [])else(Lx N (dk d1 3) (dk d1 1) (fun d3 m3=>(if 0<=ao (dk d1 0)/\ao (dk d1 0)<2 then(if 0<=ao (dk d1 0)/\ao (dk d1 0)<2 then(bif decide (ar ay (ao (bc (bc (bc (dk d3 0) 8) 3) (av (ao (dk d1 0))))-ao (bc (bc (dk d3 0) 5) (av (ao (dk d1 0)))))=0)then(k1 [az 0,az 6,BF] [])else(if 0<=ao (dk d1 0)/\ao (dk d1 0)<2 then(if 0<=ao (dk d1 0)/\ao (dk d1 0)<2 then(k1 [az (ar ay (ao (bc (bc (bc (dk d3 0) 8) 3) (av (ao (dk d1 0))))-ao (bc (bc (dk d3 0) 5) (av (ao (dk d1 0)))))),az 0,db (dk d3 0) 5 (db (bc (dk d3 0) 5) (av (ao (dk d1 0))) (az (ar ay (ao (bc (bc (dk d3 0) 5) (av (ao (dk d1 0))))+ar ay (ao (bc (bc (bc (dk d3 0) 8) 3) (av (ao (dk d1 0))))-ao (bc (bc (dk d3 0) 5) (av (ao (dk d1 0)))))))))] [])else none)else none))else none)else none)))))))) (fun k2=>(bif !decide (ao a1=0)then(k2 [a1,a2,cg !decide (ao a1=1),a0,BF] [])else(k2 [a1,a2,cg false,a0,BF] [])))
def QY:=lid "" (@ZP R N)
theorem pP {R N a0 a1 a2 k}:@QY R N a0 a1 a2 k=ZP N a0 a1 a2 k:=by unfold QY;rw[AV]
def q3t:OvG R:=Ae [Ax,.int .i64,Dw] (Eb (QY N)) fun a K d1 m1=>K (ow [V.d Ax (dk d1 2),V.d (br ay) (dk d1 0),V.d (br aw) (dk d1 1)]) []
theorem q3u:okX 50 (@q3t R N):=Ai (AH (ZZ N) <| AH (ZX N) <| AW) N [(50,[(0,[(5,5)])])] [(50,[([0,0,1],(AX [1,3,5,6] [(16,.d .bool)])),
  ([9],⟨[],[(6,.as (.ptr (.l 6) [] Ax)),(7,.d (.int .u64)),(8,.d (.int .i64))],[],[(.l 6,.box (.d Ax))],[],[]⟩)])] (fun _ _=>pP)
def ZU (a0 a1 a2:C) (k1:KD R):Option R:=bif decide (ao (bc a0 6)=0)then(k1 [az 3,BF] [])else(Ly N a0 a1 (fun d1 m1=>(bif !decide (ao (dk d1 0)=0)then(k1 [dk d1 0,BF] [])else(bif decide (ao (bc a0 7)<=ao a2)then(k1 [az 29,BF] [])else(bif decide (ao (bc (bc a1 0) 1)<=ao (bc (bc a0 8) 1))then(k1 [az 25,BF] [])else(Lx N a0 a1 (fun d2 m2=>(k1 [az 0,dk d2 0] []))))))))
def Qd:=lid "" (@ZU R N)
theorem pU {R N a0 a1 a2 k}:@Qd R N a0 a1 a2 k=ZU N a0 a1 a2 k:=by unfold Qd;rw[AV]
def q3F:OvG R:=Ae [Ax,Dw,.int .u64] (Eb (Qd N)) fun a K d1 m1=>K (ow [V.d Ax (dk d1 1),V.d (br aw) (dk d1 0)]) []
theorem q3G:okX 15 (@q3F R N):=Ai (AH (ZZ N) <| AH (ZX N) <| AW) N [(15,[(0,[(3,5),(4,5)])])] [(15,[([9],⟨[],[(6,.as (.ptr (.l 6) [] Ax)),(7,.d (.int .i64))],[],[(.l 6,.box (.d Ax))],[],[]⟩)])] (fun _ _=>pU)
def kX (a0 a1 a2:C) (k1:KD R):Option R:=bif decide (ao (bc a1 6)=2)then(k1 [az 31] [])else(JZ N a0 (bc a1 2) a2 (bc a1 0) (fun d1 m1=>(bif !cz (dk d1 0)then(k1 [az 20] [])else(Pp N (bc a2 0) (bc a1 4) (fun d2 m2=>(bif !decide (ao (dk d2 0)=0)then(k1 [dk d2 0] [])else(jn (fun d3 m3=>(bif cz (dk d3 0)then(k1 [az 12] [])else(k1 [az 0] []))) (fun k2=>(bif decide (ao (bc (bc a1 8) 1)<ao (bc (bc a2 0) 1))then(bif decide (ao (bc (bc (bc a2 0) 3) (av 0))<ao (bc (bc a1 5) (av 0)))then(k2 [cg true] [])else(k2 [cg (decide (ao (bc (bc (bc a2 0) 3) (av 1))<ao (bc (bc a1 5) (av 1))))] []))else(k2 [cg false] []))))))))))
def Mt:=lid "" (@kX R N)
theorem q0A {R N a0 a1 a2 k}:@Mt R N a0 a1 a2 k=kX N a0 a1 a2 k:=by unfold Mt;rw[AV]
def z2E:OvG R:=Ae [Bo,Ax,Dw] (Eb (Mt N)) (BD (br aw))
theorem kW:okX 75 (@z2E R N):=Ai (AH (z2t N) <| AH (q0l N) <| AW) N [(75,[(0,[(3,5),(4,5),(5,5)])])] [(75,[([0,0,1,1,1,1,1],(Af [(53,.d .bool)])),
  ([9],(Af [(6,.d (.int .i64))]))])] (fun _ _=>q0A)
def lF {R:Type} (N:Nat) (a0 a1:C) (k1:KD R):Option R:=jn (fun d1 m1=>(k1 [dk d1 0] [])) (fun k2=>(bif decide (ao (bc (bc a0 8) 1)<ao (bc (bc a1 0) 1))then(k2 [db a0 8 (bc a1 0),BF] [])else(k2 [a0,BF] [])))
def Mu:=lid "" (@lF R N)
theorem q0H {R N a0 a1 k}:@Mu R N a0 a1 k=lF N a0 a1 k:=by unfold Mu;rw[AV]
def z2O:OvG R:=Ae [Ax,Dw] (Bq (Mu N)) (BD Ax)
theorem lE:okX 76 (@z2O R N):=Ai AW N [(76,[(0,[(3,5)])])] [(76,[([1,0,1],(AX [2,4] [])),
  ([9],⟨[],[(4,.as (.ptr (.l 4) [] Ax))],[],[(.l 4,.box (.d Ax))],[],[]⟩)])] (fun _ _=>q0H)
def kS (a0 a1 a2 a3:C) (k1:KD R):Option R:=jn (fun d1 m1=>(bif cz (dk d1 3)then(k1 [az 0,az 1,BF] [])else(Mt N (dk d1 1) (dk d1 4) (dk d1 2) (fun d2 m2=>(bif !decide (ao (dk d2 0)=0)then(k1 [az 0,dk d2 0,BF] [])else(Mu N (dk d1 4) (dk d1 2) (fun d3 m3=>(if 0<=ao (dk d1 0)/\ao (dk d1 0)<2 then(if 0<=ao (dk d1 0)/\ao (dk d1 0)<2 then(bif decide (ar ay (ao (bc (bc (bc (dk d3 0) 8) 3) (av (ao (dk d1 0))))-ao (bc (bc (dk d3 0) 5) (av (ao (dk d1 0)))))=0)then(k1 [az 0,az 6,BF] [])else(if 0<=ao (dk d1 0)/\ao (dk d1 0)<2 then(if 0<=ao (dk d1 0)/\ao (dk d1 0)<2 then(k1 [az (ar ay (ao (bc (bc (bc (dk d3 0) 8) 3) (av (ao (dk d1 0))))-ao (bc (bc (dk d3 0) 5) (av (ao (dk d1 0)))))),az 0,db (dk d3 0) 5 (db (bc (dk d3 0) 5) (av (ao (dk d1 0))) (bc (bc (bc (dk d3 0) 8) 3) (av (ao (dk d1 0)))))] [])else none)else none))else none)else none)))))))) (fun k2=>(bif !decide (ao a2=0)then(k2 [a2,a0,a3,cg !decide (ao a2=1),a1,BF] [])else(k2 [a2,a0,a3,cg false,a1,BF] [])))
def Tu:=lid "" (@kS R N)
theorem q0w {R N a0 a1 a2 a3 k}:@Tu R N a0 a1 a2 a3 k=kS N a0 a1 a2 a3 k:=by unfold Tu;rw[AV]
def z2u:OvG R:=Ae [Bo,Ax,.int .i64,Dw] (fun a=>Tu N (a 0) (a 1) (a 2) (a 3)) fun a K d1 m1=>K (ow [V.d Ax (dk d1 2),V.d (br ay) (dk d1 0),V.d (br aw) (dk d1 1)]) []
theorem z2v:okX 51 (@z2u R N):=Ai (AH (kW N) <| AH (lE N) <| AW) N [(51,[(0,[(4,5),(7,5)])])] [(51,[([0,0,1],(AX [2,4,5,7,8] [(18,.d .bool)])),
  ([9],⟨[],[(8,.as (.ptr (.l 8) [] Ax)),(9,.d (.int .u64)),(10,.d (.int .i64))],[],[(.l 8,.box (.d Ax))],[],[]⟩)])] (fun _ _=>q0w)
def lD (a0:C) (k1:KD R):Option R:=Tk N (bc a0 3) (dj [bj [bc (bc a0 4) (av 0),bc (bc a0 4) (av 1),bc (bc a0 8) 1],bj [],AI (br ay)]) (az 200) (fun d1 m1=>(bif !decide (ao (dk d1 2)=0)then(k1 [az 5] [])else(bif decide (ao (dk d1 0)<1)then(k1 [az 1] [])else(bif decide (50<ao (dk d1 0))then(k1 [az 50] [])else(k1 [dk d1 0] [])))))
def UB:=lid "" (@lD R N)
theorem q0G {R N a0 k}:@UB R N a0 k=lD N a0 k:=by unfold UB;rw[AV]
def z2M:OvG R:=Ae [Ax] (Bw (UB N)) (BD (br ay))
theorem z2N:okX 77 (@z2M R N):=Ai (AH (z10 N) <| AW) N [(77,[(0,[(1,5)])])] [(77,[([9],(Af [(2,.d (.int .u64))]))])] (fun _ _=>q0G)
def kU (a0 a1 a2 a3:C) (k1:KD R):Option R:=bif decide (ao (bc a1 6)=1)then(k1 [az 3,BF] [])else(Mt N a0 a1 a2 (fun d1 m1=>(bif !decide (ao (dk d1 0)=0)then(k1 [dk d1 0,BF] [])else(Mu N a1 a2 (fun d2 m2=>(UB N (dk d2 0) (fun d3 m3=>(HV N a3 (dk d3 0) (fun d4 m4=>(bif !decide (ao (dk d4 1)=0)then(k1 [dk d4 1,BF] [])else(k1 [az 0,db (db (dk d2 0) 6 (az 1)) 7 (dk d4 0)] [])))))))))))
def Tw:=lid "" (@kU R N)
theorem q0y {R N a0 a1 a2 a3 k}:@Tw R N a0 a1 a2 a3 k=kU N a0 a1 a2 a3 k:=by unfold Tw;rw[AV]
def z2A:OvG R:=Ae [Bo,Ax,Dw,.int .u64] (fun a=>Tw N (a 0) (a 1) (a 2) (a 3)) fun a K d1 m1=>K (ow [V.d Ax (dk d1 1),V.d (br aw) (dk d1 0)]) []
theorem z2B:okX 52 (@z2A R N):=Ai (AH (Pb N) <| AH (kW N) <| AH (lE N) <| AH (z2N N) <| AW) N [(52,[(0,[(4,5),(6,5)])])] [(52,[([9],⟨[],[(8,.as (.ptr (.l 8) [] Ax)),(9,.d (.int .i64))],[],[(.l 8,.box (.d Ax))],[],[]⟩)])] (fun _ _=>q0y)
def lC (a0 a1 a2 a3:C) (k1:KD R):Option R:=bif decide (ao (bc a1 6)=0)then(k1 [az 3,BF] [])else(Mt N a0 a1 a2 (fun d1 m1=>(bif !decide (ao (dk d1 0)=0)then(k1 [dk d1 0,BF] [])else(bif decide (ao (bc a1 7)<=ao a3)then(k1 [az 29,BF] [])else(bif decide (ao (bc (bc a2 0) 1)<=ao (bc (bc a1 8) 1))then(k1 [az 25,BF] [])else(Mu N a1 a2 (fun d2 m2=>(k1 [az 0,dk d2 0] []))))))))
def UA:=lid "" (@lC R N)
theorem q0F {R N a0 a1 a2 a3 k}:@UA R N a0 a1 a2 a3 k=lC N a0 a1 a2 a3 k:=by unfold UA;rw[AV]
def z2K:OvG R:=Ae [Bo,Ax,Dw,.int .u64] (fun a=>UA N (a 0) (a 1) (a 2) (a 3)) fun a K d1 m1=>K (ow [V.d Ax (dk d1 1),V.d (br aw) (dk d1 0)]) []
theorem z2L:okX 53 (@z2K R N):=Ai (AH (kW N) <| AH (lE N) <| AW) N [(53,[(0,[(4,5),(5,5),(6,5)])])] [(53,[([9],⟨[],[(8,.as (.ptr (.l 8) [] Ax)),(9,.d (.int .i64))],[],[(.l 8,.box (.d Ax))],[],[]⟩)])] (fun _ _=>q0F)
def kY (a0 a1 a2:C) (k1:KD R):Option R:=jn (fun d1 m1=>(bif cz (dk d1 2)then(k1 [az 1,BF] [])else(bif decide (ao (bc (dk d1 3) 6)=2)then(k1 [az 31,BF] [])else(if 0<=ao (dk d1 0)/\ao (dk d1 0)<2 then(HV N (bc (bc (dk d1 3) 4) (av (ao (dk d1 0)))) (dk d1 1) (fun d2 m2=>(bif !decide (ao (dk d2 1)=0)then(k1 [dk d2 1,BF] [])else(if 0<=ao (dk d1 0)/\ao (dk d1 0)<2 then(HV N (bc (bc (db (dk d1 3) 4 (db (bc (dk d1 3) 4) (av (ao (dk d1 0))) (dk d2 0))) 4) (av 0)) (bc (bc (db (dk d1 3) 4 (db (bc (dk d1 3) 4) (av (ao (dk d1 0))) (dk d2 0))) 4) (av 1)) (fun d3 m3=>(bif !decide (ao (dk d3 1)=0)then(k1 [dk d3 1,BF] [])else(k1 [az 0,db (dk d1 3) 4 (db (bc (dk d1 3) 4) (av (ao (dk d1 0))) (dk d2 0))] []))))else none))))else none)))) (fun k2=>(bif !decide (ao a1=0)then(bif !decide (ao a1=1)then(k2 [a1,a2,cg true,a0,BF] [])else(k2 [a1,a2,cg (decide (ao a2=0)),a0,BF] []))else(k2 [a1,a2,cg (decide (ao a2=0)),a0,BF] [])))
def Tz:=lid "" (@kY R N)
theorem q0B {R N a0 a1 a2 k}:@Tz R N a0 a1 a2 k=kY N a0 a1 a2 k:=by unfold Tz;rw[AV]
def z2F:OvG R:=Ae [Ax,.int .i64,.int .u64] (Eb (Tz N)) fun a K d1 m1=>K (ow [V.d Ax (dk d1 1),V.d (br aw) (dk d1 0)]) []
theorem z2G:okX 48 (@z2F R N):=Ai (AH (Pb N) <| AW) N [] [(48,[([0,0,1],(AX [1,2,3,6] [(19,.d .bool)])),
  ([9],⟨[],[(6,.as (.ptr (.l 6) [] Ax)),(7,.d (.int .i64))],[],[(.l 6,.box (.d Ax))],[],[]⟩)])] (fun _ _=>q0B)
section
variable {R:Type} {N:Nat}
theorem z3m {p:List C} (hp:ub (.slice 1 (.int .u8)) (.slice p)) {gas:Int} {w:C} (hw:WOk w) (hb1:∀c∈(w.get 1).elems,c= .bool c.toBool)
  (hf:∀c∈(w.get 0).elems,U64 c.toInt) (hh:U64 (w.get 2).toInt) (hN:5000<N) (k:KD R):
  Tk N (.slice p) w (.int gas) k=k [.int (GR p w gas).1,.int (GR p w gas).2.1,.int (GR p w gas).2.2] []:=by
 rw[q0c];unfold jZ GR;by_cases a1:(256:Int)<(p.length:Int)
 ·have a1':256<p.length:=by omega
  simp only[AQ,go_sem,AJ,AB,Ah,a1,a1',AE,true_or]
 have a1':¬256<p.length:=by omega
 by_cases a2:gas<0
 ·simp only[AQ,go_sem,AJ,AB,Ah,a1,a1',a2,AE,true_or,or_true]
 by_cases a3:(4096:Int)<gas
 ·simp only[AQ,go_sem,AJ,AB,Ah,a1,a1',a2,a3,AE,true_or,or_true]
 ·have a4:¬(256<p.length\/gas<0\/4096<gas):=by omega
  rw[if_neg a4];simp only[AQ,go_sem,AJ,AB,Ah,a1,a2,a3,AE];exact z3n hp (by omega) (by omega) hw hb1 hf hh hN k
section
variable {id who rts:C} {yj:List C} {put yi ph un yh:C}
theorem z0E (yh yi s:C):okE (BG (LM yh yi s) 0 () [0,1])=if(yh.get 1).toInt<(s.get 1).toInt/\(((s.get 3).get 0).toInt<(yi.get 0).toInt\/((s.get 3).get 1).toInt<(yi.get 1).toInt)then 12 else 0:=by
 by_cases h:(yh.get 1).toInt<(s.get 1).toInt
 ·by_cases h0:((s.get 3).get 0).toInt<(yi.get 0).toInt
  ·simp[BG,LM,okE,h,h0]
  ·by_cases h1:((s.get 3).get 1).toInt<(yi.get 1).toInt <;> simp[BG,LM,okE,h,h0,h1]
 ·simp[BG,LM,okE,h]
theorem lU {T d:C} {w:Bool} (hW:∀k:KD R,JZ N T rts d id k=k [.bool w] []) (hst:StN (d.get 0) put) (hN:2199023255552<N) (k:KD R):
  Mt N T (mkB id who rts yj put yi ph un yh) d k=k [.int (EY ph put yi yh d w)] []:=by
 have t0:av 0=0:=rfl;have t1:av 1=1:=rfl;rw[q0A];unfold kX EY mkB;simp only[AQ,EW,Km,MM,WA,WB,WC,AB,Ah,hW,q08 (d.get 0) put hst hN,AF,t0,t1,z0E];by_cases h1:ph.toInt=2
 ·simp[h1]
 cases w
 ·simp[h1]
 by_cases h2:Fm (d.get 0) put=0
 case neg=>simp[h1,h2]
 by_cases h3:(yh.get 1).toInt<((d.get 0).get 1).toInt
 ·by_cases h4:(((d.get 0).get 3).get 0).toInt<(yi.get 0).toInt
  ·simp[h1,h2,h3,h4]
  ·by_cases h5:(((d.get 0).get 3).get 1).toInt<(yi.get 1).toInt <;> simp[h1,h2,h3,h4,h5]
 ·simp[h1,h2,h3]
theorem lR (d:C) (k:KD R):Mu N (mkB id who rts yj put yi ph un yh) d k=k [mkB id who rts yj put yi ph un (Bn yh d)] []:=by
 rw[q0H];unfold lF Bn mkB;simp only[AQ,WC];by_cases h:(yh.get 1).toInt<((d.get 0).get 1).toInt
 ·simp only[h,AE,AF];rfl
 ·simp only[h,AE,AF]
structure BU (put yh:C):Prop where
 i:QO put yh
 u0:U64 (put.get 0).toInt
 u1:U64 (put.get 1).toInt
 u2:U64 (yh.get 1).toInt
theorem z3E (hr:ub (.slice 1 (.int .u8)) (.slice yj)) (h:BU put yh) (hN:5000<N) (k:KD R):UB N (mkB id who rts yj put yi ph un yh) k=k [.int (Gn yj put yh)] []:=by
 rw[q0G];unfold lD mkB Gn;have hw:dj [bj [put.get (av 0),put.get (av 1),yh.get 1],bj [],AI (br ay)]=GW put yh:=rfl;have hb1:∀c∈((GW put yh).get 1).elems,c= .bool c.toBool:=fun c hc=>nomatch hc
 have hf:∀c∈((GW put yh).get 0).elems,U64 c.toInt:=by
  intro c hc;have hc:c∈[put.get 0,put.get 1,yh.get 1]:=hc;simp only[List.mem_cons,jd,or_false]at hc;rcases hc with rfl|rfl|rfl
  ·exact h.u0
  ·exact h.u1
  ·exact h.u2
 have hh:U64 ((GW put yh).get 2).toInt:=(⟨by decide,by decide⟩:U64 0);simp only[cP,MM,WC,hw,z3m hr (q2I h.i) hb1 hf hh hN];simp only[go_sem,AB];generalize GR yj (GW put yh) 200=r;by_cases h1:r.2.2=0
 case neg=>simp[h1]
 by_cases h2:r.1<1
 ·have a:¬50<r.1:=by omega
  have b:¬1<r.1:=by omega
  simp[h1,h2,a,b]
 ·by_cases h3:50<r.1
  ·simp[h1,h2,h3]
  ·by_cases h4:1<r.1
   ·simp[h1,h2,h3,h4]
   ·have:r.1=1:=by omega
    simp[h1,h2,h3,this]
theorem z22 {T d:C} {w:Bool} (hW:∀k:KD R,JZ N T rts d id k=k [.bool w] []) (hst:StN (d.get 0) put) (hr:ub (.slice 1 (.int .u8)) (.slice yj)) (hi:BU put (Bn yh d)) (hN:2199023255552<N) (yk:C) (hh:W64 yk.toInt) (k:KD R):
  Tw N T (mkB id who rts yj put yi ph un yh) d yk k=k [.int (Gy id who rts yj put yi ph un yh d w yk.toInt).1,(Gy id who rts yj put yi ph un yh d w yk.toInt).2] []:=by
 have wr:=z4I yj put (Bn yh d);have ww:W64 (Gn yj put (Bn yh d)):=⟨by omega,by omega⟩;have h6:(mkB id who rts yj put yi ph un yh).get 6=ph:=rfl;rw[q0y];unfold kU Gy;rw[Fu];simp only[h6,lU hW hst hN,AF,AB,lR,z3E hr hi (show 5000<N by omega)];rw[LN yk (.int (Gn yj put (Bn yh d))) hh ww];simp only[AF,AL,AB];by_cases h1:ph.toInt=1
 ·simp[h1]
 by_cases h2:EY ph put yi yh d w=0
 case neg=>simp[h1,h2]
 by_cases h3:(Ap yk.toInt (Gn yj put (Bn yh d))).2=0
 case neg=>simp[h1,h2,h3]
 simp only[h1,h2,h3,AE,ne_eq,not_true];rfl
def Hb (id who rts:C) (yj:List C) (put yi ph un yh d:C) (w:Bool) (yk:Int):Int × C:=
 if ph.toInt=0 then(3,zB)else if EY ph put yi yh d w≠0 then(EY ph put yi yh d w,zB)else
  if un.toInt<=yk then(29,zB)else if((d.get 0).get 1).toInt<=(yh.get 1).toInt then(25,zB)else(0,mkB id who rts yj put yi ph un (Bn yh d))
theorem z3N {d:C} {w:Bool} (hW:∀k:KD R,JJ N rts d id k=k [.bool w] []) (h:SOk yh) (hd:SOk (d.get 0)) (hN:2199023255552<N) (yk:C) (k:KD R):
  Qd N (mkB id who rts yj put yi ph un yh) d yk k=k [.int (Hb id who rts yj put yi ph un yh d w yk.toInt).1,(Hb id who rts yj put yi ph un yh d w yk.toInt).2] []:=by
 have h6:(mkB id who rts yj put yi ph un yh).get 6=ph:=rfl;have h7:(mkB id who rts yj put yi ph un yh).get 7=un:=rfl;have h8:(mkB id who rts yj put yi ph un yh).get 8=yh:=rfl;rw[pU];unfold ZU Hb;rw[Fu];simp only[h6,h7,h8,look_eq hW hN,AF,AB,ZO h hd];by_cases h1:ph.toInt=0
 ·simp[h1]
 by_cases h2:EY ph put yi yh d w=0
 case neg=>simp[h1,h2]
 by_cases h3:un.toInt<=yk.toInt
 ·simp[h1,h2,h3]
 by_cases h4:((d.get 0).get 1).toInt<=(yh.get 1).toInt <;> simp[h1,h2,h3,h4]
theorem z3o {T d:C} {w:Bool} (hW:∀k:KD R,JZ N T rts d id k=k [.bool w] []) (hst:StN (d.get 0) put) (hN:2199023255552<N) (yk:C) (k:KD R):
  UA N T (mkB id who rts yj put yi ph un yh) d yk k=k [.int (Hb id who rts yj put yi ph un yh d w yk.toInt).1,(Hb id who rts yj put yi ph un yh d w yk.toInt).2] []:=by
 have h6:(mkB id who rts yj put yi ph un yh).get 6=ph:=rfl;have h7:(mkB id who rts yj put yi ph un yh).get 7=un:=rfl;have h8:(mkB id who rts yj put yi ph un yh).get 8=yh:=rfl;rw[q0F];unfold lC Hb;rw[Fu];simp only[h6,h7,h8,lU hW hst hN,AF,AB,lR];by_cases h1:ph.toInt=0
 ·simp[h1]
 by_cases h2:EY ph put yi yh d w=0
 case neg=>simp[h1,h2]
 by_cases h3:un.toInt<=yk.toInt
 ·simp[h1,h2,h3]
 by_cases h4:((d.get 0).get 1).toInt<=(yh.get 1).toInt <;> simp[h1,h2,h3,h4]
def Sy (yi yh d:C) (side:Nat):Int:=IntKind.u64.wrap ((((Bn yh d).get 3).get side).toInt-(yi.get side).toInt)
def Ef (id who rts:C) (yj:List C) (put yi ph un yh d:C) (w:Bool) (side:Int):Int × Int × C:=
 if side≠0/\side≠1 then(0,1,zB)else if EY ph put yi yh d w≠0 then(0,EY ph put yi yh d w,zB)else
  if Sy yi yh d side.toNat=0 then(0,6,zB)else(Sy yi yh d side.toNat,0,mkB id who rts yj put (yi.set side.toNat (((Bn yh d).get 3).get side.toNat)) ph un (Bn yh d))
theorem z3P (side:Int) (a b c e:C) (K:KD R):(bif !decide (side=0)then K [a,b,.bool (!decide (side=1)),c,e] []else K [a,b,.bool false,c,e] [])=K [a,b,.bool (decide (side≠0/\side≠1)),c,e] []:=by
 by_cases h0:side=0
 ·simp[h0]
 ·by_cases h1:side=1 <;> simp[h0,h1]
theorem z3Q (side:Int) (a b f c e:C) (K:KD R):(bif !decide (side=0)then K [a,b,f,.bool (!decide (side=1)),c,e] []else K [a,b,f,.bool false,c,e] [])=K [a,b,f,.bool (decide (side≠0/\side≠1)),c,e] []:=by
 by_cases h0:side=0
 ·simp[h0]
 ·by_cases h1:side=1 <;> simp[h0,h1]
theorem q5o {d:C} {w:Bool} (hW:∀k:KD R,JJ N rts d id k=k [.bool w] []) (h:SOk yh) (hd:SOk (d.get 0)) (hN:2199023255552<N) (side:C)
  (hp:∀i<2,W64 (yi.get i).toInt) (ht:∀i<2,((Bn yh d).get 3).get i= .int (((Bn yh d).get 3).get i).toInt/\W64 (((Bn yh d).get 3).get i).toInt) (k:KD R):
  QY N (mkB id who rts yj put yi ph un yh) side d k=k [.int (Ef id who rts yj put yi ph un yh d w side.toInt).1,.int (Ef id who rts yj put yi ph un yh d w side.toInt).2.1,(Ef id who rts yj put yi ph un yh d w side.toInt).2.2] []:=by
 rw[pP];unfold ZP Ef;rw[Fu];refine(Oc [side,d,.bool (decide (side.toInt≠0/\side.toInt≠1)),mkB id who rts yj put yi ph un yh,zB] [] fun K=>z3P _ _ _ _ _ K).trans ?_;by_cases h0:side.toInt≠0/\side.toInt≠1
 ·simp only[AP,Ah,h0,AE,ne_eq,not_false_iff,and_self]
 have hs:0<=side.toInt/\side.toInt<2:=by omega
 have h5:(mkB id who rts yj put yi ph un (Bn yh d)).get 5=yi:=rfl;have h8:(mkB id who rts yj put yi ph un (Bn yh d)).get 8=Bn yh d:=rfl;rw[if_neg h0];simp only[AF,AL,AP,AU,Ah,h0,AE,look_eq hW hN,AB,ZO h hd,hs,and_self,h5,h8];by_cases h1:EY ph put yi yh d w=0
 case neg=>simp[h1]
 simp only[h1,AE,ne_eq,not_true];obtain⟨t1,t2,t3⟩:=ht side.toInt.toNat (by omega);obtain⟨p1,p2⟩:=hp side.toInt.toNat (by omega);have wu:∀n:Int,IntKind.u64.wrap n=n%18446744073709551616:=fun n=>by simp[ar,jk,iw]
 have back:IntKind.u64.wrap ((yi.get side.toInt.toNat).toInt+IntKind.u64.wrap ((((Bn yh d).get 3).get side.toInt.toNat).toInt-(yi.get side.toInt.toNat).toInt))=(((Bn yh d).get 3).get side.toInt.toNat).toInt:=by rw[wu,wu];omega
 rw[back,<-t1];unfold Sy;by_cases h2:IntKind.u64.wrap ((((Bn yh d).get 3).get side.toInt.toNat).toInt-(yi.get side.toInt.toNat).toInt)=0
 ·simp only[h2,AE]
 ·simp only[h2,AE];rfl
theorem z04 {T d:C} {w:Bool} (hW:∀k:KD R,JZ N T rts d id k=k [.bool w] []) (hst:StN (d.get 0) put) (hN:2199023255552<N) (side:C) (k:KD R):
  Tu N T (mkB id who rts yj put yi ph un yh) side d k=k [.int (Ef id who rts yj put yi ph un yh d w side.toInt).1,.int (Ef id who rts yj put yi ph un yh d w side.toInt).2.1,(Ef id who rts yj put yi ph un yh d w side.toInt).2.2] []:=by
 rw[q0w];unfold kS Ef;rw[Fu];refine(Oc [side,T,d,.bool (decide (side.toInt≠0/\side.toInt≠1)),mkB id who rts yj put yi ph un yh,zB] [] fun K=>z3Q _ _ _ _ _ _ K).trans ?_;by_cases h0:side.toInt≠0/\side.toInt≠1
 ·simp only[AU,Ah,h0,AE,ne_eq,not_false_iff,and_self]
 have hs:0<=side.toInt/\side.toInt<2:=by omega
 have h5:(mkB id who rts yj put yi ph un (Bn yh d)).get 5=yi:=rfl;have h8:(mkB id who rts yj put yi ph un (Bn yh d)).get 8=Bn yh d:=rfl;rw[if_neg h0];simp only[AF,AL,AP,AU,Ab,Ah,h0,AE,lU hW hst hN,AB,lR,hs,and_self,h5,h8];by_cases h1:EY ph put yi yh d w=0
 case neg=>simp[h1]
 simp only[h1,AE,ne_eq,not_true];unfold Sy;by_cases h2:IntKind.u64.wrap ((((Bn yh d).get 3).get side.toInt.toNat).toInt-(yi.get side.toInt.toNat).toInt)=0
 ·simp only[h2,AE]
 ·simp only[h2,AE];rfl
theorem q8w (k:KD R):Qb N (mkB id who rts yj put yi ph un yh) k=k [.int (if ph.toInt=2 then 0 else((put.get 0).toInt+(put.get 1).toInt-(yi.get 0).toInt-(yi.get 1).toInt)%18446744073709551616)] []:=by
 have t0:av 0=0:=rfl;have t1:av 1=1:=rfl;have wu:∀n:Int,IntKind.u64.wrap n=n%18446744073709551616:=fun n=>by simp[ar,jk,iw]
 rw[pS];unfold ZS mkB;simp only[MM,WA,WB,t0,t1,wu];by_cases h:ph.toInt=2
 ·simp[h]
 ·simp only[h,AE];congr 3;omega
end
end
def eW (a0:C) (k1:KD R):Option R:=Jy N (az 6) (bj [bj (cut (au a0) 0 32)]) (fun d1 m1=>(k1 [dk d1 0] []))
def SL:=lid "" (@eW R N)
theorem zS {R N a0 k}:@SL R N a0 k=eW N a0 k:=by unfold SL;rw[AV]
def q8O:OvG R:=Ae [.arr 32 (.int .u8)] (Bw (SL N)) (BD (ct 32 (br bt)))
theorem q8P:okX 80 (@q8O R N):=Ai (AH (SK N) <| AW) N [(80,[(0,[(1,5)])])] [(80,[([9],⟨[],[(2,.as (.ptr (.l 2) [] (.arr 32 (.int .u8))))],[],[(.l 2,.box (.d (.arr 32 (.int .u8))))],[],[]⟩)])] (fun _ _=>zS)
def jB (a0 a1:C) (k1:KD R):Option R:=Gi N a0 (az 6) (bj [bj (cut (au a1) 0 32)]) (fun d1 m1=>(k1 [dk d1 0] []))
def TN:=lid "" (@jB R N)
theorem U8 {R N a0 a1 k}:@TN R N a0 a1 k=jB N a0 a1 k:=by unfold TN;rw[AV]
def z1g:OvG R:=Ae [Bo,.arr 32 (.int .u8)] (Bq (TN N)) (BD (ct 32 (br bt)))
theorem z1h:okX 81 (@z1g R N):=Ai (AH (Mn N) <| AW) N [(81,[(0,[(2,5),(3,5)]),(1,[(8,7)])])] [(81,[([9],⟨[],[(4,.as (.ptr (.l 4) [] (.arr 32 (.int .u8))))],[],[(.l 4,.box (.d (.arr 32 (.int .u8))))],[],[]⟩)])] (fun _ _=>U8)
def q9K:List Sh:=[.as (.ptr (.g (.l 1)) [] FY),.d (.arr 32 (.int .u8)),.d (.int .u64)]
def q9N:List (Key × OSh):=[(.l 1,.box (.agg FY [.as (.mp (.g (.l 2)))])),(.l 2,.map (.arr 32 (.int .u8)) Ag)]
def fY (a0 a1 a2 b0:C) (m0:Es) (k1:KD R):Option R:=SL N a0 (fun d1 m1=>(bif DM Ag (dE Ag m0)then(bif Ie (dE Ag m0) (dk d1 0)then(if BV Ag (dE Ag m0)=true then(k1 [az 7] [unE (dE Ag m0)])else none)else(if BV Ag (Gg (dE Ag (dm [m0] 0)) (dk d1 0) (V.d Ag (db (db (dj [dj (bf 32 (az 0)),az 0]) 0 a0) 1 a1)))=true then(k1 [az 0] [unE (Gg (dE Ag (dm [m0] 0)) (dk d1 0) (V.d Ag (db (db (dj [dj (bf 32 (az 0)),az 0]) 0 a0) 1 a1)))])else none))else none))
def Se:=lid "" (@fY R N)
theorem x9 {R N a0 a1 a2 b0 m0 k}:@Se R N a0 a1 a2 b0 m0 k=fY N a0 a1 a2 b0 m0 k:=by unfold Se;rw[AV]
def q9L:OvG R:=Cc q9K q9N (fun ds ms=>Se N (dk ds 0) (dk ds 1) (dk ds 2) (dk ds 3) (dm ms 0)) fun ds ms K d1 m1=>K (V.d (br aw) (dk d1 0)) [(Key.g (Key.l 1),O.box (V.agg FY [V.mp (Key.g (Key.l 2))])),
 (Key.g (Key.l 2),O.map (ct 32 (br bt)) Ag (dE Ag (dm m1 0)))]
theorem q9M:okX 55 (@q9L R N):=Cj (AH (q8P N) <| AW) N [(55,[(0,[(4,5)]),(4,[(7,6)]),(7,[(7,6)])])] [(55,[([9],⟨[],[(6,.d (.int .i64))],[.g (.l 1),.g (.l 2)],[],[],[]⟩)])] (fun _ _ _=>x9)
def z1H:List Sh:=[.as (.ptr (.g (.l 1)) [] DJ),.d (.arr 32 (.int .u8))]
def z1J:List (Key × OSh):=[(.l 1,.box (.agg DJ [.d Bo,.ts 72 ER]))]
def Te {R:Type} (N:Nat) (b0:C) (k1:KD R) (k2:KD R):KD R->KD R:=fun k3 d1 m1=>(bif decide (ao (dk d1 1)<(↑(aq (au b0)):Int))then(if 0<=ao (dk d1 1)/\ao (dk d1 1)<(↑(aq (au b0)):Int)then(bif na (bc (bp (au b0) (av (ao (dk d1 1))) C.nil) 0) (dk d1 0)then(k1 [dk d1 1] [])else(k3 [dk d1 0,az (ar aw (ao (dk d1 1)+1))] []))else none)else(k2 [] []))
def jT (a0 a1 b0 b1:C) (k1:KD R):Option R:=jn (fun d1 m1=>(k1 [az (-1)] [])) (fun k2=>(Ac N (Te N b0 k1 k2) [a0,az 0] []))
def Pm:=lid "" (@jT R N)
theorem F4 {R N a0 a1 b0 b1 k}:@Pm R N a0 a1 b0 b1 k=jT N a0 a1 b0 b1 k:=by unfold Pm;rw[AV]
def z1I:OvG R:=Cc z1H z1J (fun ds ms=>Pm N (dk ds 0) (dk ds 1) (dk ds 2) (dk ds 3)) fun ds ms K d1 m1=>K (V.d (br aw) (dk d1 0)) []
theorem F3:okX 82 (@z1I R N):=Cj AW N [(82,[(0,[(3,5)])])] [(82,[([1,0,1],⟨[0],[],[],[],[.g (.l 1)],[]⟩),
  ([4,1,0,1],⟨[0,3],[(5,.d (.int .i64))],[],[],[.g (.l 1)],[]⟩),
  ([9],⟨[],[(4,.d (.int .i64))],[],[],[.g (.l 1)],[]⟩)])] (fun _ _ _=>F4)
def z1O:List Sh:=[.as (.ptr (.g (.l 1)) [] DJ),.d (.arr 32 (.int .u8)),.d (.int .u64)]
def z1R:List (Key × OSh):=[(.l 1,.box (.agg DJ [.d Bo,.ts 72 ER]))]
def jV (a0 a1 a2 b0 b1:C) (k1:KD R):Option R:=TN N a2 a0 (fun d1 m1=>(Pm N (dk d1 0) a2 (bj (au b0)) C.nil (fun d2 m2=>(bif decide (0<=ao (dk d2 0))then(k1 [az 7,a2,bj (au b0)] [])else(bif bo (aq (au b0)) (aq (au b0))then(if(aq (au b0)+1)*72<=140737488355328/\aq (au b0)+1<=9223372036854775807 then(bif bo (aq (au b0)+1) (aq (au b0++[db (db (db (dj [dj (bf 32 (az 0)),dj (bf 32 (az 0)),az 0]) 0 (dk d1 0)) 1 a0) 2 a1]))then(k1 [az 0,a2,bj (au b0++[db (db (db (dj [dj (bf 32 (az 0)),dj (bf 32 (az 0)),az 0]) 0 (dk d1 0)) 1 a0) 2 a1])] [])else none)else none)else none)))))
def Tg:=lid "" (@jV R N)
theorem F6 {R N a0 a1 a2 b0 b1 k}:@Tg R N a0 a1 a2 b0 b1 k=jV N a0 a1 a2 b0 b1 k:=by unfold Tg;rw[AV]
def z1P:OvG R:=Cc z1O z1R (fun ds ms=>Tg N (dk ds 0) (dk ds 1) (dk ds 2) (dk ds 3) (dk ds 4)) fun ds ms K d1 m1=>K (V.d (br aw) (dk d1 0)) [(Key.g (Key.l 1),O.box (V.agg DJ [V.d Bo (dk d1 1),V.ts 72 ER (au (dk d1 2))]))]
theorem z1Q:okX 56 (@z1P R N):=Cj (AH (z1h N) <| AH (F3 N) <| AW) N [(56,[(0,[(4,5)]),(1,[(13,7)]),(4,[(7,6)])])] [(56,[([9],⟨[],[(6,.d (.int .i64))],[.g (.l 1)],[(.g (.l 1),.box (.agg DJ [.d Bo,.ts 72 ER]))],[],[]⟩)])] (fun _ _ _=>F6)
def z1K:List Sh:=[.as (.ptr (.g (.l 1)) [] DJ),.d DI,.d (.int .u64)]
def z1N:List (Key × OSh):=[(.l 1,.box (.agg DJ [.d Bo,.ts 72 ER]))]
def jU (a0 a1 b0 b1:C) (k1:KD R):Option R:=Pm N (bc a0 3) b0 (bj (au b1)) C.nil (fun d1 m1=>(jn (fun d2 m2=>(bif cz (dk d2 2)then(k1 [az 1] [])else(bif decide (ao (bc (dk d2 1) 4)<ao (dk d2 0))then(k1 [az 2] [])else(k1 [az 0] [])))) (fun k2=>(bif decide (0<=ao (dk d1 0))then(if 0<=ao (dk d1 0)/\ao (dk d1 0)<(↑(aq (au b1)):Int)then(k2 [a1,a0,cg (decide (ao (bc (bp (au b1) (av (ao (dk d1 0))) C.nil) 2)<=ao (bc a0 4)))] [])else none)else(k2 [a1,a0,cg false] [])))))
def Tf:=lid "" (@jU R N)
theorem F5 {R N a0 a1 b0 b1 k}:@Tf R N a0 a1 b0 b1 k=jU N a0 a1 b0 b1 k:=by unfold Tf;rw[AV]
def z1L:OvG R:=Cc z1K z1N (fun ds ms=>Tf N (dk ds 0) (dk ds 1) (dk ds 2) (dk ds 3)) fun ds ms K d1 m1=>K (V.d (br aw) (dk d1 0)) []
theorem z1M:okX 78 (@z1L R N):=Cj (AH (F3 N) <| AW) N [(78,[(0,[(4,5)])])] [(78,[([0,0,1,1],⟨[0,2,4],[(26,.d .bool)],[],[],[.g (.l 1)],[]⟩),
  ([9],⟨[],[(6,.d (.int .i64))],[],[],[.g (.l 1)],[]⟩)])] (fun _ _ _=>F5)
section
variable {R:Type} {N:Nat}
def TD:Es->C->C->Es
 | [],c,v=>[(c,v)]
 |(k,u)::l,c,v=>if na c k=true then(k,v)::l else(k,u)::TD l c v
theorem W0 (τ:Ty) (c v:C):∀m:Es,Gg (dE τ m) c (V.d τ v)=dE τ (TD m c v)
 | []=>rfl
 |(k,u)::m=>by
  have ih:=W0 τ c v m;simp only[dE,ed,Gg,TD]at ih ⊢;by_cases h:na c k=true
  ·simp[h]
  ·simp[h,ih]
abbrev Ent:=C × C × Int
def DE (e:Ent):C:=.agg [e.1,e.2.1,.int e.2.2]
def CF (e:Ent):C × C:=(e.1,.agg [e.2.1,.int e.2.2])
def EB (x:C):List Ent->Option Nat
 | []=>none
 |e::l=>if na x e.1=true then some 0 else(EB x l).map (·+1)
theorem z0M (x:C) (e:Ent) (l:List Ent):EB x (e::l)=if na x e.1=true then some 0 else(EB x l).map (·+1):=rfl
theorem X5 {x:C}:∀{l:List Ent} {i:Nat},EB x l=some i->i<l.length
 | [],i,h=>by cases h
 |e::l,i,h=>by
  unfold EB at h;split at h
  ·cases h;simp
  ·obtain⟨j,hj,rfl⟩:=fa.1 h;have:=X5 hj;simp;omega
def zE:Ent:=(.nil,.nil,0)
theorem cU (x:C):∀l:List Ent,Ez (l.map CF) x=(EB x l).isSome
 | []=>rfl
 |e::l=>by
  have ih:=cU x l;simp only[ed,CF,Ez,EB]at ih ⊢;cases h:na x e.1 <;> simp[ih]
theorem vO (x:C):∀(l:List Ent) (i:Nat),EB x l=some i->getM (l.map CF) x= .agg [(l.getD i zE).2.1,.int (l.getD i zE).2.2]
 | [],i,h=>by cases h
 |e::l,i,h=>by
  have ih:=vO x l;unfold EB at h;simp only[ed,CF,getM]at ih ⊢;split at h
  ·rename_i he;cases h;simp[he]
  ·rename_i he;obtain⟨j,hj,rfl⟩:=fa.1 h;simp[he,ih j hj]
theorem X8 (x:C) (s:C) (t:Int):∀l:List Ent,EB x l=none->TD (l.map CF) x (.agg [s,.int t])=(l++[(x,s,t)]).map CF
 | [],_=>rfl
 |e::l,h=>by
  unfold EB at h;split at h
  ·cases h
  ·rename_i he;have hn:EB x l=none:=by simpa using h
   simp only[ed,List.cons_append,CF,TD,if_neg he];exact congrArg _ (X8 x s t l hn)
theorem vK {l:List Ent} {i:Nat} (h:i<l.length):(l.map DE).getD i .nil=DE (l.getD i zE):=by rw[bn,List.getElem?_map,bn,bm h];rfl
def Vt (x:C) (l:List Ent):Int:=match EB x l with
 |some i=>i
 |none=>-1
theorem q3o (a b:C):na a b=na b a:=by rw[pK,pK,decide_eq_decide];exact eq_comm
theorem uO (x:C) (l:List Ent) (hl:l.length<4611686018427387904) (k1 k2:KD R):∀(m i M:Nat),i+m=l.length->m<M->
  Ac M (Te N (.slice (l.map DE)) k1 k2) [x,.int i] []=(match EB x (l.drop i)with|some j=>k1 [.int ((i+j:Nat):Int)] [] |none=>k2 [] [])
 |0,i,M,hi,hM=>by
  obtain⟨M,rfl⟩:∃a,M=a+1:=⟨M-1,by omega⟩;have e1:¬(i:Int)<(l.length:Int):=by omega
  rw[Bm,List.drop_of_length_le (by omega)];unfold Te;simp only[AF,AL,AB,AJ,ez,e1,AE];rfl
 |m+1,i,M,hi,hM=>by
  obtain⟨M,rfl⟩:∃a,M=a+1:=⟨M-1,by omega⟩;have e1:(i:Int)<(l.length:Int):=by omega
  have hil:i<l.length:=by omega
  have ih:=uO x l hl k1 k2 m (i+1) M (by omega) (by omega);have hd:l.drop i=l.getD i zE::l.drop (i+1):=by rw[List.drop_eq_getElem_cons hil,bn,bm hil];rfl
  have hg:bc (DE (l.getD i zE)) 0=(l.getD i zE).1:=rfl;have one:∀rec:KD R,Te N (.slice (l.map DE)) k1 k2 rec [x,.int i] []=if na x (l.getD i zE).1=true then k1 [.int i] []else rec [x,.int ((i+1:Nat):Int)] []:=fun rec=>by
   unfold Te;simp only[AF,AL,AB,AJ,ez,e1,AE,bu,and_self,bh,vK hil,hg,BM (show i<4611686018427387904 by omega)];rw[q3o];cases h:na x (l.getD i zE).1 <;> simp
  rw[Bm,one,hd,ih,z0M];by_cases h:na x (l.getD i zE).1=true
  ·rw[if_pos h,if_pos h];rfl
  ·rw[if_neg h,if_neg h];cases hp:EB x (l.drop (i+1))with
   |none=>rfl
   |some j=>simp only[Option.map_some];rw[show i+1+j=i+(j+1) by omega]
theorem uJ (x:C) (l:List Ent) (hl:l.length<4611686018427387904) (hN:l.length<N) (a c:C) (k:KD R):Pm N x a (.slice (l.map DE)) c k=k [.int (Vt x l)] []:=by
 rw[F4];unfold jT;simp only[AQ];refine(uO x l hl _ _ l.length 0 N (by omega) hN).trans ?_;unfold Vt;rw[ib];cases EB x l with
 |none=>rfl
 |some j=>simp only[Nat.zero_add,AF]
def HL (s:C):C:=HZ (CH (.int 6) [bj (au s)])
theorem q1z:BO (.int 6):=⟨rfl,by decide,by decide⟩
theorem q8v (s:C) (hs:Ao 32 s) (hN:5000<N) (hN2:N<4611686018427387904) (k:KD R):SL N s k=k [HL s] []:=by
 obtain⟨hp,hc⟩:=Sw 32 100 (by omega) s hs;have hl:=(FI hs).1;have hc:cut s.elems 0 32=s.elems:=hc;rw[zS];unfold eW HL;have:=QR (R:=R) (N:=N) (.int 6) q1z [bj (cut (au s) 0 32)] 100 hp (by simp;omega) (by omega) hN2 (by rw[hc,KA];omega);rw[hc]at this ⊢;rw[this];rfl
theorem q8u (t:C) (ht:Cz t) (s:C) (hs:Ao 32 s) (hN:5000<N) (k:KD R):TN N t s k=k [HL s] []:=by
 obtain⟨hp,hc⟩:=Sw 32 100 (by omega) s hs;have hl:=(FI hs).1;have hc:cut s.elems 0 32=s.elems:=hc;rw[U8];unfold jB HL;have:=QQ (R:=R) (N:=N) t ht (.int 6) q1z [bj (cut (au s) 0 32)] 100 hp (by omega) (by simp) (by rw[hc,KA];omega) (by rw[hc,KA];simp;omega);rw[hc]at this ⊢;rw[this];rfl
def IL (l:List Ent) (s:C) (t:Int):Int × List Ent:=match EB (HL s) l with
 |some _=>(7,l)
 |none=>(0,l++[(HL s,s,t)])
theorem z4u (s:C) (hs:Ao 32 s) (t a b:C) (ht:t= .int t.toInt) (l:List Ent) (hN:5000<N) (hN2:N<4611686018427387904) (k:KD R):
  Se N s t a b (l.map CF) k=k [.int (IL l s t.toInt).1] [(IL l s t.toInt).2.map CF]:=by
 rw[x9];unfold fY;have e:dm [(l.map CF)] 0=l.map CF:=rfl;simp only[q8v s hs hN hN2,AF,e,VA,WD,W0,DN,EF,cU];unfold IL;cases hp:EB (HL s) l with
 |some i=>simp only[pz,AE]
 |none=>
  have z5t:db (db (dj [dj (bf 32 (az 0)),az 0]) 0 s) 1 t= .agg [s,.int t.toInt]:=by rw[<-ht];rfl
  simp only[py,AE,z5t,X8 (HL s) s t.toInt l hp]
theorem z3s (s:C) (hs:Ao 32 s) (t:C) (ht:t= .int t.toInt) (T:C) (hT:Cz T) (l:List Ent) (hl:l.length<=1000) (hN:5000<N) (b1:C) (k:KD R):
  Tg N s t T (.slice (l.map DE)) b1 k=k [.int (IL l s t.toInt).1,T,.slice ((IL l s t.toInt).2.map DE)] []:=by
 rw[F6];unfold jV;have hf:=fun(a c:C) (k:KD R)=>uJ (N:=N) (HL s) l (by omega) (by omega) a c k;simp only[q8u T hT s hs hN,AF,AJ,hf,AB];unfold IL Vt;cases hp:EB (HL s) l with
 |some i=>
  have:(0:Int)<=(i:Int):=by omega
  simp only[this,AE]
 |none=>
  have h0:¬(0:Int)<=-1:=by decide
  have g1:(l.length+1)*72<=140737488355328/\l.length+1<=9223372036854775807:=by omega
  have z5t:db (db (db (dj [dj (bf 32 (az 0)),dj (bf 32 (az 0)),az 0]) 0 (HL s)) 1 s) 2 t=DE (HL s,s,t.toInt):=by unfold DE;rw[<-ht];rfl
  simp only[h0,AE,ez,bx,cn,df,Nat.zero_add,bw,g1,and_self,List.map_append,ed,List.map_nil,z5t]
theorem z4v (l:List Ent) (s:C) (t:Int):(IL l s t).2.length<=l.length+1:=by
 unfold IL;cases EB (HL s) l <;> simp
theorem z3f (c:C) (yk:C) (l:List Ent) (hl:l.length<=1000) (hN:5000<N) (b0:C) (k:KD R):
  Tf N c yk b0 (.slice (l.map DE)) k=k [.int (ofP (l.map CF) c yk.toInt)] []:=by
 have hf:=fun(a d:C) (k:KD R)=>uJ (N:=N) (c.get 3) l (by omega) (by omega) a d k;rw[F5];unfold jU ofP;simp only[AQ,AJ,hf,AF,AB,cU];unfold Vt;cases hp:EB (c.get 3) l with
 |none=>
  have h0:¬(0:Int)<=-1:=by decide
  simp only[h0,AE,AF,AL,AP,Ah,AB,py,Bool.false_eq_true,false_and];by_cases h2:(c.get 4).toInt<yk.toInt
  ·simp only[h2,AE]
  ·simp only[h2,AE]
 |some i=>
  have hi:=X5 hp;have h0:(0:Int)<=(i:Int):=by omega
  have h1:(0:Int)<=(i:Int)/\(i:Int)<((l.map DE).length:Int):=by rw[ez];omega
  have hg:=vO (c.get 3) l i hp;have g2:bc (DE (l.getD i zE)) 2= .int (l.getD i zE).2.2:=rfl;have g1:bc (.agg [(l.getD i zE).2.1,.int (l.getD i zE).2.2]) 1= .int (l.getD i zE).2.2:=rfl;simp only[h0,h1,AE,and_self,AF,AL,AP,Ah,AB,bh,vK hi,g2,g1,hg,pz,true_and];by_cases h3:(l.getD i zE).2.2<=(c.get 4).toInt
  ·simp only[h3,AE]
  ·simp only[h3,AE];by_cases h2:(c.get 4).toInt<yk.toInt
   ·simp only[h2,AE]
   ·simp only[h2,AE]
end
def Ru (a0 a1:C) (k1:KD R):Option R:=Rs N a0 (bc a1 3) (fun d1 m1=>(jn (fun d2 m2=>(k1 [dk d2 1] [])) (fun k2=>(bif decide (ao (bc a1 4)=1)then(k2 [dj [dj [AI (br cm),AI (br ay),AI (ct 2 (br ay)),AI (ct 2 (br ay)),bj []],AI (ct 2 Ca)],db (db (dk d1 0) 1 (db (bc (dk d1 0) 1) (av 0) (bc (bc (dk d1 0) 1) (av 1)))) 1 (db (bc (db (dk d1 0) 1 (db (bc (dk d1 0) 1) (av 0) (bc (bc (dk d1 0) 1) (av 1)))) 1) (av 1) (bc (bc (dk d1 0) 1) (av 0)))] [])else(jn (fun d2 m2=>(k2 [dk d2 0,dk d2 1] [])) (fun k3=>(bif decide (ao (bc a1 4)=2)then(k3 [dj [dj [AI (br cm),AI (br ay),AI (ct 2 (br ay)),AI (ct 2 (br ay)),bj []],AI (ct 2 Ca)],db (dk d1 0) 0 (db (bc (dk d1 0) 0) 2 (db (bc (bc (dk d1 0) 0) 2) (av 0) (az (Aj ep ay (ao (bc (bc (bc (dk d1 0) 0) 2) (av 0))) 1))))] [])else(k3 [dj [dj [AI (br cm),AI (br ay),AI (ct 2 (br ay)),AI (ct 2 (br ay)),bj []],AI (ct 2 Ca)],dk d1 0] []))))))))
def Jw:=lid "" (@Ru R N)
theorem Wb {R N a0 a1 k}:@Jw R N a0 a1 k=Ru N a0 a1 k:=by unfold Jw;rw[AV]
def q7Y:OvG R:=Ae [ND,IK] (Bq (Jw N)) (BD Dw)
theorem q7Z:okX 49 (@q7Y R N):=Ai (AH (q7V N) <| AW) N [(49,[(0,[(2,5),(3,5)])])] [(49,[([1,4,1,0,1,1],(AX [4,5] [])),
  ([1,3,1,4,1,0,1,1],(AX [4,5] [])),
  ([9],⟨[],[(4,.as (.ptr (.l 4) [] Dw))],[],[(.l 4,.box (.d Dw))],[],[]⟩)])] (fun _ _=>Wb)
def dT (a0:C) (k1:KD R):Option R:=Rq N (bc a0 8) (fun d1 m1=>(k1 [dj [bc a0 0,bc a0 1,db (db (dj [dj [dj (bf 32 (az 0)),dj (bf 32 (az 0))],az 0]) 0 (db (db (AI (ct 2 (ct 32 (br bt)))) 0 (bc (bc (bc a0 2) 0) (av 0))) 1 (bc (bc (bc a0 2) 0) (av 1)))) 1 (bc (bc a0 2) 1),bc a0 3,bc a0 4,bc a0 5,bc a0 6,bc a0 7,dk d1 0]] []))
def JT:=lid "" (@dT R N)
theorem xP {R N a0 k}:@JT R N a0 k=dT N a0 k:=by unfold JT;rw[AV]
def q7T:OvG R:=Ae [Ax] (Bw (JT N)) (BD Ax)
theorem xO:okX 27 (@q7T R N):=Ai (AH (q7J N) <| AW) N [(27,[(0,[(1,5)]),(1,[(32,7)])])] [(27,[([9],⟨[],[(2,.as (.ptr (.l 2) [] Ax))],[],[(.l 2,.box (.d Ax))],[],[]⟩)])] (fun _ _=>xP)
def lB (a0 a1:C) (k1:KD R):Option R:=jn (fun d1 m1=>(k1 [cg (cz (dk d1 0))] [])) (fun k2=>(bif decide (ao (bc a0 0)=ao (bc a1 0))then(bif na (bc a0 1) (bc a1 1)then(bif na (bc a0 2) (bc a1 2)then(bif List.map (fun c=>nt (av (ao c))) (au (bc a0 3))==List.map (fun c=>nt (av (ao c))) (au (bc a1 3))then(bif na (bc a0 4) (bc a1 4)then(bif na (bc a0 5) (bc a1 5)then(bif decide (ao (bc a0 6)=ao (bc a1 6))then(bif decide (ao (bc a0 7)=ao (bc a1 7))then(Mr N (bc a0 8) (bc a1 8) (fun d1 m1=>(k2 [cg (cz (dk d1 0))] [])))else(k2 [cg false] []))else(k2 [cg false] []))else(k2 [cg false] []))else(k2 [cg false] []))else(k2 [cg false] []))else(k2 [cg false] []))else(k2 [cg false] []))else(k2 [cg false] [])))
def Ja:=lid "" (@lB R N)
theorem q0E {R N a0 a1 k}:@Ja R N a0 a1 k=lB N a0 a1 k:=by unfold Ja;rw[AV]
def z2J:OvG R:=Ae [Ax,Ax] (Bq (Ja N)) Gz
theorem q0D:okX 26 (@z2J R N):=Ai (AH (q0k N) <| AW) N [(26,[(0,[(2,5),(3,5)])])] [(26,[([0,1],(Af [(4,.d .bool)])),
  ([9],(Af [(4,.d .bool)]))])] (fun _ _=>q0E)
section
variable {R:Type} {N:Nat}
structure StC (s:C):Prop where
 b:StB s
 r:s.get 1= .int (s.get 1).toInt
 t0:(s.get 3).get 0= .int ((s.get 3).get 0).toInt
 t1:(s.get 3).get 1= .int ((s.get 3).get 1).toInt
theorem Ln {c:C} (h:ub (.int .u64) c):W64 c.toInt/\c= .int c.toInt:=by
 have m1:IntKind.u64.min=0:=by decide
 have m2:IntKind.u64.max=18446744073709551615:=by decide
 exact⟨⟨by have:=h.2.1;omega,by have:=h.2.2;omega⟩,h.1⟩
theorem Qg {n:Nat} {c:C} (h:ub (.arr n (.int .u8)) c):Ao n c:=by
 simp only[ub]at h;have m1:IntKind.u8.min=0:=by decide
 have m2:IntKind.u8.max=255:=by decide
 exact⟨c.elems,h.1,h.2.1,fun x hx=>by obtain⟨a1,a2,a3⟩:=h.2.2 x hx;exact⟨a1,by omega,by omega⟩⟩
theorem iB {c:C} (h:ub (.arr 2 (.int .u64)) c):c= .agg [c.get 0,c.get 1]/\(W64 (c.get 0).toInt/\c.get 0= .int (c.get 0).toInt)/\(W64 (c.get 1).toInt/\c.get 1= .int (c.get 1).toInt):=by
 simp only[ub]at h;obtain⟨h1,h2,h3⟩:=h;have e:∀i,c.get i=c.elems.getD i .nil:=fun i=>by rw[h1];rfl
 refine⟨?_,Ln (by rw[e];simp only[ub];exact h3 _ (CR (by omega))),Ln (by rw[e];simp only[ub];exact h3 _ (CR (by omega)))⟩;rw[e,e];generalize hl:c.elems=l at*;rw[h1]
 match l,h2 with
 | [x,y],_=>rfl
theorem z4a {s:C} (h:ub Bi s) (hl:(s.get 4).elems.length<=12):StC s:=by
 have m1:IntKind.u32.min=0:=by decide
 have m2:IntKind.u32.max=4294967295:=by decide
 have ch:=C.Gp (i:=0) (f:=.int .u32) h rfl;have rd:=Ln (C.Gp (i:=1) h rfl);have mv:=iB (C.Gp (i:=2) h rfl);have tk:=iB (C.Gp (i:=3) h rfl);have cs:=C.Gp (i:=4) (f:=.slice 64 DI) h rfl;simp only[ub]at cs;obtain⟨c1,_,_,c2⟩:=cs;have hch:(s.get 0).toInt<4294967296:=by have:=ch.2.2;omega
 refine⟨⟨⟨⟨by have:=ch.2.1;omega,by omega⟩,rd.1,mv.2.1.1,mv.2.2.1,tk.2.1.1,tk.2.2.1,fun c hc=>?_,hl⟩,⟨?_,fun c hc=>?_,hl⟩,fun c hc=>?_,hch⟩,rd.2,tk.2.1.2,tk.2.2.2⟩
 ·have hw:=c2 c hc;exact⟨(Ln (C.Gp (i:=0) hw rfl)).1,(Ln (C.Gp (i:=2) hw rfl)).1,(FI (Qg (C.Gp (i:=3) (f:=.arr 32 (.int .u8)) hw rfl))).1,(Ln (C.Gp (i:=4) hw rfl)).1⟩
 ·show s= .agg [s.get 0,s.get 1,s.get 2,s.get 3,.slice (s.get 4).elems];rw[<-c1];exact(C.q2E h).symm
 ·exact(C.q2E (c2 c hc)).symm
 ·exact Qg (C.Gp (i:=3) (f:=.arr 32 (.int .u8)) (c2 c hc) rfl)
theorem StC.stn {s put:C} (h:StC s) (h0:W64 (put.get 0).toInt) (h1:W64 (put.get 1).toInt):StN s put:=by
 refine⟨fun i hi=>?_,fun c hc=>(h.b.w.cs c hc).am⟩;rcases(by omega:i=0\/i=1)with rfl|rfl
 ·exact⟨h0,h.b.w.p0,h.b.w.q0⟩
 ·exact⟨h1,h.b.w.p1,h.b.w.q1⟩
structure Ys (d:C):Prop where
 b:NQ d
 s:StC (d.get 0)
theorem z4X (v:Int):W64 (Aj ep ay v 1):=by
 have m1:IntKind.u64.min=0:=by decide
 have m2:IntKind.u64.max=18446744073709551615:=by decide
 have:=wrap_within ay (((dv IntKind.u64.bits v)^^^(dv IntKind.u64.bits 1)).toNat:Int);exact⟨by show 0<=IntKind.u64.wrap _;omega,by show IntKind.u64.wrap _<_;omega⟩
section
variable {T:C} (hT:Cz T)
include hT
theorem z3O (s sa sb:C) (x:C) (hx:x.get 3=s) (hsa:Ao 32 sa) (hsb:Ao 32 sb) (a0 a1 a2 b0 b1 b2:List C) (ga0:∀y∈a0,Ao 32 y) (ga1:∀y∈a1,Ao 32 y) (gb0:∀y∈b0,Ao 32 y) (gb1:∀y∈b1,Ao 32 y) (ha0:a0.length=4) (ha1:a1.length=2) (ha2:a2.length=1) (hb0:b0.length=4) (hb1:b1.length=2) (hb2:b2.length=1) (h:StC s) (hp:s.get 2= .agg [(s.get 2).get 0,(s.get 2).get 1]) (hN:20000<N):
  ∃d,Ys d/\∀k:KD R,Jw N (.agg [T,.agg [sa,sb],.agg [.slice [.slice a0,.slice a1,.slice a2],.slice [.slice b0,.slice b1,.slice b2]]]) x k=k [d] []:=by
 obtain⟨u,v,hu,hv,hD⟩:=q2W (R:=R) (N:=N) hT s sa sb hsa hsb a0 a1 a2 b0 b1 b2 ga0 ga1 gb0 gb1 ha0 ha1 ha2 hb0 hb1 hb2 h.b hN;have t0:av 0=0:=rfl;have t1:av 1=1:=rfl;by_cases z1:(x.get 4).toInt=1
 ·refine⟨.agg [s,.agg [v,u]],⟨⟨rfl,h.b,hv,hu⟩,h⟩,fun k=>?_⟩;rw[Wb];unfold Ru;simp only[hx,hD,AQ,z1,AE,AF,AL,EW,GI,HY,IC,t0,t1]
 by_cases z2:(x.get 4).toInt=2
 case neg=>
  refine⟨.agg [s,.agg [u,v]],⟨⟨rfl,h.b,hu,hv⟩,h⟩,fun k=>?_⟩;rw[Wb];unfold Ru;simp only[hx,hD,AQ,z1,z2,AE,AF,AL]
 have he:s= .agg [s.get 0,s.get 1,s.get 2,s.get 3,.slice (s.get 4).elems]:=h.b.e.eta;generalize hw:Aj ep ay ((s.get 2).get 0).toInt 1=w;have z72:W64 w:=by rw[<-hw];exact z4X _
 have hs:StC (.agg [s.get 0,s.get 1,.agg [.int w,(s.get 2).get 1],s.get 3,.slice (s.get 4).elems]):=
  ⟨⟨⟨h.b.w.ch,h.b.w.rd,z72,h.b.w.p1,h.b.w.q0,h.b.w.q1,h.b.w.cs,h.b.w.ln⟩,⟨rfl,h.b.e.cs,h.b.e.ln⟩,h.b.hb,h.b.ch⟩,h.r,h.t0,h.t1⟩
 refine⟨.agg [.agg [s.get 0,s.get 1,.agg [.int w,(s.get 2).get 1],s.get 3,.slice (s.get 4).elems],.agg [u,v]],⟨⟨rfl,hs.b,hu,hv⟩,hs⟩,fun k=>?_⟩;rw[Wb];unfold Ru;have e1:db s 2 (db (s.get 2) 0 (.int w))= .agg [s.get 0,s.get 1,.agg [.int w,(s.get 2).get 1],s.get 3,.slice (s.get 4).elems]:=by
  have:db (s.get 2) 0 (.int w)= .agg [.int w,(s.get 2).get 1]:=by rw[hp];rfl
  rw[this]
  conv=>lhs;rw[he]
  rfl
 simp only[hx,hD,AQ,z2,show ¬(2:Int)=1 by decide,AE,AF,AL,EW,GI,HY,IC,t0,t1,hw,e1]
end
theorem q7N (d:C) (h:NQ d) (hN:2000<N) (k:KD R):Kv N d k=k [d] []:=by
 have t0:av 0=0:=rfl;have t1:av 1=1:=rfl;rw[xM];unfold dQ;simp only[q7L _ h.st.e hN,AF,t0,t1,q1x _ h.s0 (show 100<N by omega),q1x _ h.s1 (show 100<N by omega)]
 conv=>rhs;rw[h.eta]
 rfl
def NW (r:C):Prop:=r= .agg [.agg [(r.get 0).get 0,(r.get 0).get 1],r.get 1]
theorem Yv (id who rts:C) (yj:List C) (put yi ph un yh:C) (hr:NW rts) (hb:StE yh) (hN:2000<N) (k:KD R):JT N (mkB id who rts yj put yi ph un yh) k=k [mkB id who rts yj put yi ph un yh] []:=by
 have t0:av 0=0:=rfl;have t1:av 1=1:=rfl;have g8:(mkB id who rts yj put yi ph un yh).get 8=yh:=rfl;have e:db (db (dj [dj [dj (bf 32 (az 0)),dj (bf 32 (az 0))],az 0]) 0 (db (db (AI (ct 2 (ct 32 (br bt)))) 0 ((rts.get 0).get 0)) 1 ((rts.get 0).get 1))) 1 (rts.get 1)=rts:=by
  conv=>rhs;rw[hr]
  rfl
 rw[xP];unfold dT;rw[g8,q7I yh hb hN];unfold mkB;simp only[EW,GI,Km,cP,MM,WA,WB,q6u,AF,t0,t1,e]
theorem z4Y:zB=mkB (.int 0) zz (.agg [.agg [.agg (bf 32 (.int 0)),.agg (bf 32 (.int 0))],.int 0]) [] zz zz (.int 0) (.int 0) (stZ 0):=rfl
theorem nY (hN:2000<N) (k:KD R):JT N zB k=k [zB] []:=by
 rw[z4Y];refine Yv _ _ _ _ _ _ _ _ _ ?_ ?_ hN k
 ·rfl
 ·exact⟨z4b 0,fun c hc=>absurd hc (jd),Nat.zero_le _⟩
theorem q20 (s:C) (hl:(s.get 4).elems.length<2199023255552) (hN:2199023255552<N) (k:KD R):Mr N s s k=k [.bool true] []:=by
 rw[kH];unfold Xs;simp only[go_sem,Ah,AB];generalize hcs:(s.get 4).elems=cs at hl;refine Dd (fun i=>[s,s,.int i]) (fun _=>[]) cs.length (k [.bool true] []) ?_ ?_ (by omega)
 ·intro i hi rec;have h1:(i:Int)<(cs.length:Int):=by omega
  have h3:IntKind.i64.wrap ((i:Int)+1)=((i+1:Nat):Int):=by rw[dh _ (by omega)];simp
  unfold Xr;simp only[go_sem,AB,AJ,hcs,h1,h3,bu,and_self,AE]
 ·intro rec;unfold Xr;simp only[go_sem,AB,AJ,hcs,fb,if_false]
theorem Ut (b:C) (hl:((b.get 8).get 4).elems.length<2199023255552) (hN:2199023255552<N) (k:KD R):Ja N b b k=k [.bool true] []:=by
 rw[q0E];unfold lB;simp only[go_sem,Ah,AB,AE,q20 _ hl hN]
end
def z2w:List Sh:=[.d Ax,.as (.ptr (.g (.l 1)) [] DJ),.d (.int .u64)]
def z2z:List (Key × OSh):=[(.l 1,.box (.agg DJ [.d Bo,.ts 72 ER]))]
def Xy (b0:C) (b1:C) (k1:KD R) (k2:KD R):KD R->KD R:=fun k3 d1 m1=>(bif decide (ao (dk d1 2)<(↑(aq (au (bc (bc (dk d1 3) 8) 4))):Int))then(if 0<=ao (dk d1 2)/\ao (dk d1 2)<(↑(aq (au (bc (bc (dk d1 3) 8) 4))):Int)then(Tf N (bp (au (bc (bc (dk d1 3) 8) 4)) (av (ao (dk d1 2))) C.nil) (dk d1 0) b0 (bj (au b1)) (fun d2 m2=>(bif decide (ao (dk d2 0)=0)then(k1 [az 30,BF,AI (ct 2 (br ay))] [])else(bif bo (aq (au (dk d1 1))) (aq (au (dk d1 1)))then(if(aq (au (dk d1 1))+1)*1<=140737488355328/\aq (au (dk d1 1))+1<=9223372036854775807 then(bif bo (aq (au (dk d1 1))+1) (aq (au (dk d1 1)++[cg (decide (ao (dk d2 0)=1))]))then(k3 [dk d1 0,bj (au (dk d1 1)++[cg (decide (ao (dk d2 0)=1))]),az (ar aw (ao (dk d1 2)+1)),dk d1 3,dk d1 4,dk d1 5] [])else none)else none)else none))))else none)else(bif bo (aq (au (dk d1 1))) (aq (au (dk d1 1)))then(k2 [bj (au (dk d1 1)),dk d1 3,dk d1 4,dk d1 5] [])else none))
def kT (a0 a1 b0 b1:C) (k1:KD R):Option R:=bif decide (ao (bc a0 6)=0)then(k1 [az 3,BF,AI (ct 2 (br ay))] [])else(bif decide (ao (bc a0 6)=2)then(k1 [az 31,BF,AI (ct 2 (br ay))] [])else(bif decide (ao a1<ao (bc a0 7))then(k1 [az 30,BF,AI (ct 2 (br ay))] [])else(jn (fun d1 m1=>(Tq N (bc (dk d1 1) 8) (bc (dk d1 1) 4) (bc (dk d1 1) 5) (bj (au (dk d1 0))) (fun d2 m2=>(bif !decide (ao (dk d2 0)=0)then(k1 [dk d2 0,BF,AI (ct 2 (br ay))] [])else(k1 [az 0,db (dk d1 1) 6 (az 2),dk d2 1] []))))) (fun k2=>(Ac N (Xy N b0 b1 k1 k2) [a1,bj [],az 0,a0,BF,AI (ct 2 (br ay))] [])))))
def Tv:=lid "" (@kT R N)
theorem q0x {R N a0 a1 b0 b1 k}:@Tv R N a0 a1 b0 b1 k=kT N a0 a1 b0 b1 k:=by unfold Tv;rw[AV]
def z2x:OvG R:=Cc z2w z2z (fun ds ms=>Tv N (dk ds 0) (dk ds 1) (dk ds 2) (dk ds 3)) fun ds ms K d1 m1=>K (ow [V.d Ax (dk d1 1),V.d (ct 2 (br ay)) (dk d1 2),V.d (br aw) (dk d1 0)]) []
theorem z2y:okX 54 (@z2x R N):=Cj (AH (z1M N) <| AH (z2g N) <| AW) N [(54,[(19,[(12,6),(3,6)])])] [(54,[([1,0,1,1,1,1,1],⟨[1,3,6,7],[(9,.sl 1 .bool 5009)],[],[],[.g (.l 1)],[]⟩),
  ([4,1,0,1,1,1,1,1],⟨[1,2,3,6,7],[(9,.sl 1 .bool 5009),(10,.d (.int .i64))],[],[],[.g (.l 1)],[]⟩),
  ([9],⟨[],[(6,.as (.ptr (.l 6) [] Ax)),(7,.as (.ptr (.l 7) [] (.arr 2 (.int .u64)))),(8,.d (.int .i64))],[],[(.l 6,.box (.d Ax)),(.l 7,.box (.d (.arr 2 (.int .u64))))],[.g (.l 1)],[]⟩)])] (fun _ _ _=>q0x)
def kV {R:Type} (N:Nat) (a0:C) (k1:KD R):Option R:=bif decide (ao (bc a0 6)=2)then(k1 [az 0] [])else(k1 [az (ar ay (ar ay (ar ay (ao (bc (bc a0 4) (av 0))+ao (bc (bc a0 4) (av 1)))-ao (bc (bc a0 5) (av 0)))-ao (bc (bc a0 5) (av 1))))] [])
def Tx:=lid "" (@kV R N)
theorem q0z {R N a0 k}:@Tx R N a0 k=kV N a0 k:=by unfold Tx;rw[AV]
def z2C:OvG R:=Ae [Ax] (Bw (Tx N)) (BD (br ay))
theorem z2D:okX 23 (@z2C R N):=Ai AW N [(23,[(0,[(1,5)])])] [(23,[([9],(Af [(2,.d (.int .u64))]))])] (fun _ _=>q0z)
end Go.Proofs.YtgdonkaoajbclaaGreatDoor
