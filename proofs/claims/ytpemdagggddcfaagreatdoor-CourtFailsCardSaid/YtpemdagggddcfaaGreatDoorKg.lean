/-
 What the functions on the way compute, part 7.
 Conditions: none.
-/
import Derived.Test.YtpemdagggddcfaaGreatDoorKf
set_option linter.all false
set_option maxRecDepth 100000
set_option maxHeartbeats 4000000
open Go.E.C renaming agg->eg,int->bt,set->dp
open Go.E.Ty renaming int->cg
open Go.IntKind renaming u32->di,u64->bu
open Int renaming tmod->dz,toNat_natCast->bx
open List renaming length_nil->dw,mem_cons_self->fx,mem_singleton->ft,replicate->db
open Nat renaming beq_refl->ct,zero_add->cf,zero_le->ed
namespace Go.Proofs.YtpemdagggddcfaaGreatDoor
open Go Go.E
variable {R:Type} (N:Nat)
section
variable {R:Type} {N:Nat}
def Uw (n:Nat) (a b4:C):C:=if inR n a then b4.get a.toInt.toNat else .int 0
theorem rI (n:Nat) (a b2 b3 b4:C) (k:KD R):PE N a (.int n) (.int n) b2 b3 b4 k=k [Uw n a b4] []:=by rw[xU];unfold dV Uw;simp only[AF,bx,PG,AI,eq_self,if_true,cf];by_cases h:inR n a;{have h2:0<=a.toInt/\a.toInt<(n:Int):=h;simp only[Gl h,h,h2,and_self,AG]};{simp only[Lv h,h,show ¬(1:Int)=0 by decide,AG]}
theorem nP (b0 b1 b2 b3 b4:C) (k:KD R):PC N b0 b1 b2 b3 b4 k=k [b2] []:=by rw[xQ];rfl
theorem q19 (n:Nat) (a b2 b3 b4:C) (k:KD R):JQ N a (.int n) (.int n) b2 b3 b4 k=k [Fx n a b3] []:=has_eq n a (.int n) b2 b3 b4 k
theorem gE (s:CS) (n:Nat) {b:C} (hb:FF b) (hs:s.wi=[b]) (b9:C) (m:Es) (k:KD R):NP N (.int 0) s.least s.wc (.int s.wi.length) (.int s.wh.length) (.int s.evs.length) (.int n) (.int n) s.kept s.has s.wx (.agg s.wi) (.agg s.wh) (.agg s.evs) b9 m k=k [.bool true,b,b] []:=by
 have e1:¬IntKind.u64.wrap ((1:Nat):Int)<=IntKind.u64.wrap 0:=by decide
 rw[iP];unfold XZ;rw[hs];simp only[AZ,AF,AW,Bn,bx,Ap,Ac,eq_self,AG,Ao,Fm,Aq,Ia,JT,and_self,cf,ct,BI,AI,AQ,AR,AV,Aa,Aj,Ak,Au,Av,BH,Aw,Ax,Ay,Az,BA,BB,BC,BD,BF,BG,BL,BM,BN,BR,Bf,Bg,List.length_cons,dw,cf,e1];refine(if_pos (show(0:Int)<=0/\(0:Int)<((1:Nat):Int) by decide)).trans ?_;exact(q78 (N:=N) hb _).trans (by simp only[AI])
def cI:C:=eg [eg [eg (db 32 (bt 0)),eg (db 32 (bt 0))],bt 0]
def Iq (put:C):C:=mkB (.int 0) (.agg [.int 1,.int 0]) cI [] put zz (.int 0) (.int 0) (stZ 0)
def Cd (put ev:C):CS:=⟨.int 0,.int 1,.int 20,.agg [.int 100,.int 80,.int 100,.int 0],.agg [.int 0,.int 1,.int 0,.int 0],[Iq put],[],[ev],[]⟩
def tx0:C:=eg [bt 2,bt 1,AL (cg bu),AL (cg bu),bt 0,bt 20,AL (cg di),AL (Ty.arr 32 (cg IntKind.u8)),eg [eg [eg (db 32 (bt 0)),eg (db 32 (bt 0))],bt 0],C.slice [],eg [eg [AL (cg di),AL (cg bu),AL (Ty.arr 2 (cg bu)),AL (Ty.arr 2 (cg bu)),C.slice []],AL (Ty.arr 2 Ci)]]
theorem yF:TxG tx0:=by refine⟨?_,⟨_,_,_,rfl,dF 0 ⟨by decide,by decide⟩⟩,by decide,by decide⟩;show C.wf (.slice 1 (.int .u8)) (.slice []);simp only[C.wf];exact⟨rfl,by decide,by decide,fun _ h=>nomatch h⟩
structure Tx1 (t:C):Prop where
 Gj:TxG t
 g0:t.get 0= .int 2
 g1:t.get 1= .int 1
 g2:t.get 2= .int 0
 g3:t.get 3= .int 0
 g4:t.get 4= .int 0
 g5:t.get 5= .int 20
 g8:t.get 8=cI
 g9:t.get 9= .slice []
theorem q7n:∃(t:C) (j:Nat->C),Tx1 t/\∀k:KD R,KW N tx0 Ct.least Ct.wc (.int Ct.wi.length) (.int Ct.wh.length) (.int Ct.evs.length) (.int (4:Nat)) (.int (4:Nat)) Ct.kept Ct.has Ct.wx (.agg Ct.wi) (.agg Ct.wh) (.agg Ct.evs) .nil Ct.book k=k ({Ct with wh:=[t]}.out 4 0 j) [[]]:=by obtain⟨d,j,hd,_,h⟩:=xF (R:=R) (N:=N) Ct (n:=4) (by decide) yF;have hE:Oz Ct 4 tx0=0:=rfl;rw[hE,if_pos rfl]at h;exact⟨Sa tx0 d,j,⟨xE yF hd,rfl,rfl,rfl,rfl,rfl,rfl,rfl,rfl⟩,h⟩
theorem fY (t:C) (wc:C) (h:wc.toInt<1073741824) (s:CS) (hp:s.wh=[t]) (hh:s.wc=wc):IG s [.int 0]=0:=by unfold IG;rw[hp,hh,if_neg (by omega)];rfl
theorem qJ {s s1:CS} {t:C} {out:List C} (hp:s.wh=[t]) (h:KO s 4 (JL [.int 0] s.wh) out s1):∃(e:Int) (s2:CS),DoR s 4 t s2 e/\out=[.int e]/\s1=s2.ev t e:=by have hd:=h.d;rw[hp]at hd;obtain⟨e,s2,o,h1,h2,h3,h4⟩:=hd;subst h3;exact⟨e,s2,h1,h2,h4⟩
theorem bh {t:C} (ht:Tx1 t) (hN:2199023255552<N) (hN2:N<4611686018427387904):∃(put ev:C) (j:Nat->C),FF (Iq put)/\∀k:KD R,KV N (.slice [.int 0]) {Ct with wh:=[t]}.least {Ct with wh:=[t]}.wc (.int {Ct with wh:=[t]}.wi.length) (.int {Ct with wh:=[t]}.wh.length) (.int {Ct with wh:=[t]}.evs.length) (.int (4:Nat)) (.int (4:Nat)) {Ct with wh:=[t]}.kept {Ct with wh:=[t]}.has {Ct with wh:=[t]}.wx (.agg {Ct with wh:=[t]}.wi) (.agg {Ct with wh:=[t]}.wh) (.agg {Ct with wh:=[t]}.evs) .nil {Ct with wh:=[t]}.book k=k ((Cd put ev).Gu 4 [.int 0] 0 j) [[]]:=by
 have hg:Dy {Ct with wh:=[t]}:=⟨(fun _ h=>nomatch h),ed _⟩;obtain⟨out,s',j,hb,hq⟩:=gD (R:=R) (N:=N) {Ct with wh:=[t]} hg 4 (by decide) [.int 0] (by decide) (fun x hx=>by rw[ft.1 hx];exact ht.Gj) (show(1:Nat)<=64 by decide) (show(1:Nat)<=1024 by decide) hN hN2;have hE:=fY t (.int 0) (by decide) {Ct with wh:=[t]} rfl rfl;rcases hb with⟨b1,_⟩|⟨_,s1,hm,hs'⟩;{exact absurd hE b1};have xq:=hm.Gj;obtain⟨e,s2,hd,ho,hs1⟩:=qJ rfl hm;have hp:=q5J {Ct with wh:=[t]}.high t ht.g1 ht.g2 ht.g3 rfl rfl rfl;rcases hd with⟨h,_⟩|⟨_,ha⟩;{rw[hp]at h;exact absurd rfl h};rw[hp]at ha;have hx:=ha.op (by rw[ht.g0];rfl);unfold WY at hx;rw[ht.g1,ht.g4,ht.g5,ht.g8,ht.g9]at hx;obtain⟨he,put,hs2⟩:=hx (show(0:Nat)<16 by decide) (by decide) (by decide) (by decide) (by decide) (by decide) rfl (by decide) (by decide) rfl;subst he;have e2:s'=Cd put (evR s2 t 0):=by rw[hs',hs1,hs2];rfl
 have hbg:FF (Iq put):=by
  have h2:s'.wi=s1.wi:=by rw[hs']
  have h3:Iq put∈s1.wi:=by rw[<-h2,e2];exact ft.2 rfl
  exact xq.b _ h3
 rw[e2,ho,hE]at hq;exact⟨put,evR s2 t 0,j,hbg,hq⟩
structure Tx2 (t:C) (f:Int):Prop where
 Gj:TxG t
 g1:t.get 1= .int 0
 g2:t.get 2= .int 0
 g3:t.get 3= .int f
 f:0<=f/\f<50
 am:0<=(t.get 5).toInt
def Jb (put ev ev2:C) (f:Int):CS:=⟨.int 0,.int 2,.int 20,.agg [.int (100-f),.int 80,.int 100,.int f],.agg [.int 1,.int 1,.int 0,.int 0],[Iq put],[],[ev,ev2],[]⟩
theorem q7o (put ev:C) {t:C} {f:Int} (ht:Tx2 t f):∃(t':C) (j:Nat->C),Tx2 t' f/\∀k:KD R,KW N t (Cd put ev).least (Cd put ev).wc (.int (Cd put ev).wi.length) (.int (Cd put ev).wh.length) (.int (Cd put ev).evs.length) (.int (4:Nat)) (.int (4:Nat)) (Cd put ev).kept (Cd put ev).has (Cd put ev).wx (.agg (Cd put ev).wi) (.agg (Cd put ev).wh) (.agg (Cd put ev).evs) .nil (Cd put ev).book k=k ({Cd put ev with wh:=[t']}.out 4 0 j) [[]]:=by
 obtain⟨d,j,hd,_,h⟩:=xF (R:=R) (N:=N) (Cd put ev) (n:=4) (by decide) ht.Gj;have hE:Oz (Cd put ev) 4 t=0:=by have:=ht.f;unfold Oz;rw[ht.g1,ht.g3];exact(if_neg (show ¬64<=0 by decide)).trans ((if_neg (by decide)).trans (if_neg (by show ¬f<0;omega)))
 rw[hE,if_pos rfl]at h;exact⟨Sa t d,j,⟨xE ht.Gj hd,ht.g1,ht.g2,ht.g3,ht.f,ht.am⟩,h⟩
theorem bj (put ev:C) (hbg:FF (Iq put)) {t:C} {f:Int} (ht:Tx2 t f) (hN:2199023255552<N) (hN2:N<4611686018427387904):∃(e:Int) (s':CS) (j:Nat->C),Uw 4 (.int 0) s'.wx= .int 1/\(e≠0->∃ev2,s'=Jb put ev ev2 f)/\∀k:KD R,KV N (.slice [.int 0]) {Cd put ev with wh:=[t]}.least {Cd put ev with wh:=[t]}.wc (.int {Cd put ev with wh:=[t]}.wi.length) (.int {Cd put ev with wh:=[t]}.wh.length) (.int {Cd put ev with wh:=[t]}.evs.length) (.int (4:Nat)) (.int (4:Nat)) {Cd put ev with wh:=[t]}.kept {Cd put ev with wh:=[t]}.has {Cd put ev with wh:=[t]}.wx (.agg {Cd put ev with wh:=[t]}.wi) (.agg {Cd put ev with wh:=[t]}.wh) (.agg {Cd put ev with wh:=[t]}.evs) .nil {Cd put ev with wh:=[t]}.book k=k (s'.Gu 4 [.int e] 0 j) [s'.book]:=by
 have hg:Dy {Cd put ev with wh:=[t]}:=⟨(fun x hx=>by rw[ft.1 hx];exact hbg),(show(1:Nat)<=16 by decide)⟩;obtain⟨out,s',j,hb,hq⟩:=gD (R:=R) (N:=N) {Cd put ev with wh:=[t]} hg 4 (by decide) [.int 0] (by decide) (fun x hx=>by rw[ft.1 hx];exact ht.Gj) (show(1:Nat)<=64 by decide) (show(2:Nat)<=1024 by decide) hN hN2;have hE:=fY t (.int 1) (by decide) {Cd put ev with wh:=[t]} rfl rfl;rcases hb with⟨b1,_⟩|⟨_,s1,hm,hs'⟩;{exact absurd hE b1};obtain⟨e,s2,hd,ho,hs1⟩:=qJ rfl hm;have hp:=q5K {Cd put ev with wh:=[t]}.high t f ht.f ht.g1 ht.g2 ht.g3 rfl rfl rfl;rcases hd with⟨h,_⟩|⟨_,ha⟩;{rw[hp]at h;exact absurd rfl h};rw[hp]at ha;rw[ho,hE]at hq;have i0:inR 4 (.int 0):=⟨by decide,by decide⟩;refine⟨e,s',j,?_,fun he=>?_,hq⟩
 ·have hn:s'.wx= .agg [.int 1,.int 1,.int 0,.int 0]:=by rw[hs',hs1];exact ha.act.non
  rw[hn];unfold Uw;rw[if_pos i0];rfl
 ·refine⟨evR s2 t e,?_⟩;have xi:s2={Cd put ev with wh:=[t]}.high.FE (.int 20) (.agg [.int (100-f),.int 80,.int 100,.int f]) (.agg [.int 1,.int 1,.int 0,.int 0]):=by
   rcases ha.bad he with h|⟨_,h1,h2⟩|⟨_,i,hi,_,h2⟩;{exact h};{refine absurd (q4v 4 _ _ _ _ _ ht.am (by show(0:Int)<=20;decide) ?_ h1) h2;rw[ht.g1];show(100-f)+20<_;have:=ht.f;omega}
   ·have hi0:i=0:=by have hi:i<1:=hi;omega
    subst hi0;exact absurd rfl h2
  rw[hs',hs1,xi];rfl
theorem q76 {t:C} (hd:C.wf Ch (t.get 10)) (hc:(((t.get 10).get 0).get 4).elems.length<=12) (hN:4398046514000<N):∃(r d:C),LQ d/\∀k:KD R,OA N t k=k [toT t r d] []:=by
 have hst:=q7g (C.FT (i:=0) (f:=BV) hd rfl) hc;have hsg:=C.FT (i:=1) (f:=.arr 2 Ci) hd rfl;simp only[C.wf]at hsg;obtain⟨x,y,hxy⟩:∃x y,((t.get 10).get 1)= .agg [x,y]:=by
  rw[hsg.1]
  match hq:((t.get 10).get 1).elems,hsg.2.1 with
  | [x,y],_=>exact⟨x,y,rfl⟩
 have hx:=wO (hsg.2.2 x (by rw[hxy];exact fx ..));have hy:=wO (hsg.2.2 y (by rw[hxy];exact List.mem_cons_of_mem _ (fx ..)));have e10:t.get 10= .agg [(t.get 10).get 0,.agg [x,y]]:=by rw[<-hxy];exact(C.Sm hd).symm
 obtain⟨x0,x1,y0,y1,p,q,h13⟩:=q3j (R:=R) (N:=N) ((t.get 10).get 0) x y hst.e hx hy (Nat.le_refl _) (by omega);obtain⟨r,hr⟩:∃r,∀k:KD R,Qv N (t.get 8) k=k [r] []:=⟨_,fun k=>by rw[oO];rfl⟩;refine⟨r,.agg [(t.get 10).get 0,.agg [.agg [x0,x1,.slice p],.agg [y0,y1,.slice q]]],⟨_,_,_,rfl,hst⟩,fun k=>?_⟩;have z5N:∀k:KD R,Nz N (t.get 10) k=k [.agg [(t.get 10).get 0,.agg [.agg [x0,x1,.slice p],.agg [y0,y1,.slice q]]]] []:=fun k=>by rw[e10];exact h13 k
 rw[oT];unfold ZG toT;simp only[hr,z5N,AI,ct,Bool.true_and,cond_true]
theorem q5l (x:Int) (A X Y:Option R):(bif !decide (((([bt x]:List C).length:Nat):Int)=1)then A else if Int.ofNat 0<=0/\(0:Int)<((([bt x]:List C).length:Nat):Int)then(bif decide ((([bt x]:List C).getD (Int.toNat 0) C.nil).toInt=0)then X else Y)else none)=if x=0 then X else Y:=by by_cases h:x=0 <;> simp[h,C.toInt]
theorem bl (put:C) (hN:2000<N) (k:KD R):MC N (Iq put) k=k [Iq put] []:=
 zQ _ _ _ _ _ _ _ _ _ (show fA cI from rfl) ⟨q7h 0,fun c hc=>absurd hc (List.not_mem_nil),ed _⟩ hN k
theorem bm (put:C) (hN:2199023255552<N) (k:KD R):Og N (Iq put) (Iq put) k=k [.bool true] []:=
 zW _ (by show(0:Nat)<_;omega) hN k
theorem zP (a:C) (h:C.wf tTx a) (hN:4398046514000<N) (hN2:N<4611686018427387904) (k:KD R):Ua N a k=k [.bool true] []:=by
 have m1:IntKind.u64.min=0:=by decide
 have m2:IntKind.u64.max=18446744073709551615:=by decide
 have w3:=C.FT (i:=3) (f:=.int .u64) h rfl;have w5:=C.FT (i:=5) (f:=.int .u64) h rfl;have w6:=C.FT (i:=6) (f:=.int .u32) h rfl;have w9:=C.FT (i:=9) (f:=.slice 1 (.int .u8)) h rfl;have w10:=C.FT (i:=10) (f:=Ch) h rfl;have e:=C.Sm h;rw[oS];unfold ZF;by_cases g0:(300:Int)<((a.get 9).elems.length:Int);{simp only[AZ,AF,AW,Bn,bx,Ap,Ac,eq_self,AG,Ao,Fm,Aq,Ia,JT,and_self,cf,ct,BI,AI,AQ,AR,AV,Aa,Aj,Ak,Au,Av,BH,Aw,Ax,Ay,Az,BA,BB,BC,BD,BF,BG,BL,BM,BN,BR,Bf,Bg,g0,TC]};by_cases g1:(12:Int)<((((a.get 10).get 0).get 4).elems.length:Int);{simp only[AZ,AF,AW,Bn,bx,Ap,Ac,eq_self,AG,Ao,Fm,Aq,Ia,JT,and_self,cf,ct,BI,AI,AQ,AR,AV,Aa,Aj,Ak,Au,Av,BH,Aw,Ax,Ay,Az,BA,BB,BC,BD,BF,BG,BL,BM,BN,BR,Bf,Bg,g0,g1,TC]};obtain⟨f,hf⟩:∃f,f=dz (a.get 3).toInt 50:=⟨_,rfl⟩;have hf2:0<=f/\f<50:=by
  have h3:0<=(a.get 3).toInt:=by have:=w3.2.1;omega
  rw[hf];exact⟨Int.tmod_nonneg _ h3,Int.tmod_lt_of_pos _ (by decide)⟩
 obtain⟨a2,ha2⟩:∃a2,a2=dp (dp (dp a 1 (.int 0)) 2 (.int 0)) 3 (.int f):=⟨_,rfl⟩;have z5O:a2.get 1= .int 0/\a2.get 2= .int 0/\a2.get 3= .int f/\a2.get 5=a.get 5/\a2.get 6=a.get 6/\a2.get 9=a.get 9/\a2.get 10=a.get 10:=by rw[ha2,<-e];exact⟨rfl,rfl,rfl,rfl,rfl,rfl,rfl⟩
 obtain⟨q1,q2,q3,q5,q6,q9,q10⟩:=z5O;obtain⟨r,d,hd,hto⟩:=q76 (R:=R) (N:=N) (t:=a2) (by rw[q10];exact w10) (by rw[q10];omega) hN;have u1:IntKind.u32.min=0:=by decide
 have u2:IntKind.u32.max=4294967295:=by decide
 have ht2:Tx2 (toT a2 r d) f:=by refine⟨⟨?_,hd,?_⟩,q1,q2,q3,hf2,?_⟩;{show C.wf (.slice 1 (.int .u8)) (.slice (a2.get 9).elems);rw[q9,<-(show a.get 9= .slice (a.get 9).elems from w9.1)];exact w9};{show 0<=(a2.get 6).toInt/\(a2.get 6).toInt<4294967296;rw[q6];have:=w6.2.1;have:=w6.2.2;omega};{show 0<=(a2.get 5).toInt;rw[q5];have:=w5.2.1;omega}
 obtain⟨t1,j1,ht1,hs1⟩:=q7n (R:=R) (N:=N);obtain⟨put,ev,j2,hbg,hb1⟩:=bh (R:=R) (N:=N) ht1 (by omega) hN2;obtain⟨t3,j3,ht3,hs2⟩:=q7o (R:=R) (N:=N) put ev ht2;obtain⟨x,s',j4,hx1,hx2,hb2⟩:=bj (R:=R) (N:=N) put ev hbg ht3 (by omega) hN2;have z5P:∀k:KD R,OA N (dp (dp (dp a 1 (.int 0)) 2 (.int 0)) 3 (.int (dz (a.get 3).toInt 50))) k=k [toT a2 r d] []:=fun k=>by rw[<-hf,<-ha2];exact hto k
 have q3':(dp (dp (dp a 1 (.int 0)) 2 (.int 0)) 3 (.int (dz (a.get 3).toInt 50))).get 3= .int f:=by rw[<-hf,<-ha2];exact q3
 simp only[AZ,AF,AW,Bn,bx,Ap,Ac,eq_self,AG,Ao,Fm,Aq,Ia,JT,and_self,cf,ct,BI,AI,AQ,AR,AV,Aa,Aj,Ak,Au,Av,BH,Aw,Ax,Ay,Az,BA,BB,BC,BD,BF,BG,BL,BM,BN,BR,Bf,Bg,g0,g1];refine(hs1 _).trans ?_;simp only[AZ,AF,AW,Bn,bx,Ap,Ac,eq_self,AG,Ao,Fm,Aq,Ia,JT,and_self,cf,ct,BI,AI,AQ,AR,AV,Aa,Aj,Ak,Au,Av,BH,Aw,Ax,Ay,Az,BA,BB,BC,BD,BF,BG,BL,BM,BN,BR,Bf,Bg,CS.out];refine(hb1 _).trans ?_;simp only[AZ,AF,AW,Bn,bx,Ap,Ac,eq_self,AG,Ao,Fm,Aq,Ia,JT,and_self,cf,ct,BI,AI,AQ,AR,AV,Aa,Aj,Ak,Au,Av,BH,Aw,Ax,Ay,Az,BA,BB,BC,BD,BF,BG,BL,BM,BN,BR,Bf,Bg,CS.Gu];refine(z5P _).trans ?_;simp only[AI];refine(hs2 _).trans ?_;simp only[AZ,AF,AW,Bn,bx,Ap,Ac,eq_self,AG,Ao,Fm,Aq,Ia,JT,and_self,cf,ct,BI,AI,AQ,AR,AV,Aa,Aj,Ak,Au,Av,BH,Aw,Ax,Ay,Az,BA,BB,BC,BD,BF,BG,BL,BM,BN,BR,Bf,Bg,CS.out,nP];refine(if_pos (show(0:Nat)<=9223372036854775807 by decide)).trans ?_;refine(gE {Cd put ev with wh:=[t3]} 4 hbg rfl _ _ _).trans ?_;refine(hb2 _).trans ?_;simp only[AZ,AF,AW,Bn,bx,Ap,Ac,eq_self,AG,Ao,Fm,Aq,Ia,JT,and_self,cf,ct,BI,AI,AQ,AR,AV,Aa,Aj,Ak,Au,Av,BH,Aw,Ax,Ay,Az,BA,BB,BC,BD,BF,BG,BL,BM,BN,BR,Bf,Bg,CS.Gu];refine(q5l x _ _ _).trans ?_;by_cases hx0:x=0;{rw[if_pos hx0];simp only[AZ,AF,AW,Bn,bx,Ap,Ac,eq_self,AG,Ao,Fm,Aq,Ia,JT,and_self,cf,ct,BI,AI,AQ,AR,AV,Aa,Aj,Ak,Au,Av,BH,Aw,Ax,Ay,Az,BA,BB,BC,BD,BF,BG,BL,BM,BN,BR,Bf,Bg,rI,hx1,TC]}
 ·rw[if_neg hx0];obtain⟨ev2,hs'⟩:=hx2 hx0;rw[hs']at hx1 ⊢;have i0:inR 4 (.int 0):=⟨by decide,by decide⟩;have i1:inR 4 (.int 1):=⟨by decide,by decide⟩;have i2:inR 4 (.int 2):=⟨by decide,by decide⟩;have i3:inR 4 (.int 3):=⟨by decide,by decide⟩;have v0:Fx 4 (.int 0) (Jb put ev ev2 f).has= .int (100-f):=by unfold Fx;rw[if_pos i0];rfl
  have v1:Fx 4 (.int 1) (Jb put ev ev2 f).has= .int 80:=by unfold Fx;rw[if_pos i1];rfl
  have v2:Fx 4 (.int 2) (Jb put ev ev2 f).has= .int 100:=by unfold Fx;rw[if_pos i2];rfl
  have v3:Fx 4 (.int 3) (Jb put ev ev2 f).has= .int f:=by unfold Fx;rw[if_pos i3];rfl
  have wf:IntKind.u64.wrap (100-f)=100-f:=wrap_u64 (by omega) (by omega);have y1:(Jb put ev ev2 f).book=[]:=rfl;have y2:(Jb put ev ev2 f).kept= .int 20:=rfl;have y3:(Cd put ev).kept= .int 20:=rfl;have y4:(Jb put ev ev2 f).wi.length=(Cd put ev).wi.length:=rfl;have hB:∀(b9:C) (m:Es) (k:KD R),_=_:=fun b9 m k=>gE (N:=N) (Jb put ev ev2 f) 4 hbg rfl b9 m k;refine(hB _ _ _).trans ?_;have hN3:2000<N:=by omega
  have hN4:2199023255552<N:=by omega
  simp only[AZ,AF,AW,Bn,bx,Ap,Ac,eq_self,AG,Ao,Fm,Aq,Ia,JT,and_self,cf,ct,BI,AI,AQ,AR,AV,Aa,Aj,Ak,Au,Av,BH,Aw,Ax,Ay,Az,BA,BB,BC,BD,BF,BG,BL,BM,BN,BR,Bf,Bg,TC,rI,hx1,q19,v0,v1,v2,v3,q3',wf,y1,y2,y3,y4,H9,dw,ed,nP,bl put hN3,bm put hN4]
theorem q6w (A:Key->Option O) (a:C):Bu (X0 gl0) 5 [.d tTx a] A (.d .bool (.bool true)) []:=by refine Xg (ts:=[tTx]) (cs:=[a]) fun W=>?_;refine aR (q3m 4398046514001) ?_;show ZE 4398046514001 [.d tTx a] A kR=_;simp only[ZE,BS,Lj,and_self,if_true,AI,AQ,AR,AV,Aa,Cw,DY,Ip,Ca,GN];rw[zP a (W 0 _ _ rfl rfl) (by omega) (by omega)];rfl
end
end Go.Proofs.YtpemdagggddcfaaGreatDoor
