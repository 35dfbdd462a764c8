/-
 What the functions on the way compute, part 1.
 Conditions: none.
-/
import Derived.Test.YtoademomlabgnaaDoorTf
import Derived.Laws.Externs
import Derived.Lib.Bytealg
import Derived.Lib.ItoaNum
import Derived.Shelf.LaysM
import Derived.Shelf.Strings.BuilderX
import Derived.Shelf.Strings.OnBuilder
import Derived.Shelf.Strconv.Itoa3
import Derived.Shelf.RegionOpenPlain
import Derived.Lib.Builder
import Derived.Lib.UnsafeStr
set_option linter.all false
namespace Go.Proofs.YtoademomlabgnaaDoor
open Go Go.E
open Go.IntKind (wrap u64 u32 u8 i64 i32)
set_option maxRecDepth 10000
set_option linter.unusedSimpArgs false
variable {gl:Nat→Option (Ty × C)}
end Go.Proofs.YtoademomlabgnaaDoor
namespace Go.Proofs.YtoademomlabgnaaDoor
open Go Go.E
open Go.IntKind (wrap u64 u32 u8 i64 i32)
set_option maxRecDepth 10000
set_option linter.unusedSimpArgs false
variable {gl:Nat→Option (Ty × C)}
end Go.Proofs.YtoademomlabgnaaDoor
namespace Go.Proofs.YtoademomlabgnaaDoor
open Go Go.E
open Go.IntKind (wrap u64 u32 u8 i64 i32)
set_option maxRecDepth 100000
def q5r:List (Nat × Ty × C)→Nat→Option (Ty × C)
 | [],_=>none
 |(i,x)::l,g=>bif Nat.beq g i then some x else q5r l g
theorem z4C {gl:Nat→Option (Ty × C)}:∀{l:List (Nat × Ty × C)},l.map (fun p=>gl p.1)=l.map (fun p=>some p.2)→∀g x,q5r l g=some x→gl g=some x
 | [],_,g,x,h=>by cases h
 |(i,y)::l,h0,g,x,h=>by
  simp only[List.map_cons,List.cons.injEq]at h0
  simp only[q5r]at h
  cases hb:Nat.beq g i with
  |true=>
   rw[hb,cond_true]at h
   cases h
   rw[Nat.eq_of_beq_eq_true hb];exact h0.1
  |false=>
   rw[hb,cond_false]at h
   exact z4C h0.2 g x h
def y2Y:List (Nat × Ty × C):=
 (1,.arr 20 (.int .u64),.agg (Go.Lib.pow10Tab.map C.int))::
 (0,.arr 6 .str,.agg [.str [112,97,115,115],.str [112,97,121],.str [108,111,99,107],.str [100,111,110,101],.str [117,110,100,111],.str [116,97,107,101]])::
 []
def gl0:Nat→Option (Ty × C):=q5r y2Y
theorem y4r (gl:Nat→Option (Ty × C)) (h:y2Y.map (fun p=>gl p.1)=y2Y.map (fun p=>some p.2)):∀g x,gl0 g=some x→gl g=some x:=z4C h
def y26:List (Nat × (List V→Option V)):=[]
def q0e:q0w:=z0n y26
theorem y4y (gl:Nat→Option (Ty × C)):q4Z (X0 gl) y26:=by
 unfold y26
 repeat' refine q4Z.append ?_ ⟨?_,trivial⟩
 ·exact trivial
theorem y4x (gl:Nat→Option (Ty × C)):q2h (X0 gl) q0e:=z2Q (y4y gl)
def noX:FuncId→Nat→List (Nat × Nat):=fun _ _=>[]
end Go.Proofs.YtoademomlabgnaaDoor
namespace Go.Proofs.YtoademomlabgnaaDoor
open Go Go.E
open Go.IntKind (wrap u64 u32 u8 i64 i32)
def W64 (a:Int):Prop:=0≤a∧a<18446744073709551616
theorem wrap_u8 (x:Int):u8.wrap x=x%256:=by simp[wrap,IntKind.bits,IntKind.signed]
theorem wrap_i64 {n:Int} (h: -9223372036854775808≤n) (h2:n<9223372036854775808):i64.wrap n=n:=IntWalk.i64_in _ (by omega)
theorem F5 {l:List C} {i:Nat} (h:i<l.length):l.getD i .nil∈l:=by
 rw[List.getD_eq_getElem?_getD,List.getElem?_eq_getElem h];exact List.getElem_mem h
end Go.Proofs.YtoademomlabgnaaDoor
set_option linter.all false
namespace Go.Proofs
open Go.Shelf Go.RowKit
def Tryd.z0S:Go.Shelf.Ren:=⟨fun|156=>40|165=>47|166=>48|169=>43|240=>55|241=>59|276=>65|277=>66|n=>n,fun|31=>34|9=>9|3=>3|4=>4|0=>0|20=>20|72=>108|76=>118|70=>106|37=>54|75=>110|127=>127|164=>137|5=>5|80=>113|n=>n,fun|n=>n⟩
theorem Tryd.y4m:Go.Proofs.Lays.n156 Tryd.prog Tryd.z0S:={
 mixed:=by kernel_rfl
 f156:=Tryd.func40.trans (congrArg some (by kernel_rfl))
 f165:=Tryd.func47.trans (congrArg some (by kernel_rfl))
 f166:=Tryd.func48.trans (congrArg some (by kernel_rfl))
 f169:=Tryd.func43.trans (congrArg some (by kernel_rfl))
 f240:=Tryd.func55.trans (congrArg some (by kernel_rfl))
 f241:=Tryd.func59.trans (congrArg some (by kernel_rfl))
 f276:=Tryd.func65.trans (congrArg some (by kernel_rfl))
 f277:=Tryd.func66.trans (congrArg some (by kernel_rfl))
 t0:=Tryd.underlying0
 a0:=Tryd.isAgg0
 z0:=Tryd.sizeOf0
 v0:=Tryd.zeroValue0
 t3:=Tryd.underlying3
 a3:=Tryd.isAgg3
 z3:=Tryd.sizeOf3
 v3:=Tryd.zeroValue3
 t4:=Tryd.underlying4
 a4:=Tryd.isAgg4
 z4:=Tryd.sizeOf4
 v4:=Tryd.zeroValue4
 t9:=Tryd.underlying9
 a9:=Tryd.isAgg9
 z9:=Tryd.sizeOf9
 v9:=Tryd.zeroValue9
 t20:=Tryd.underlying20
 a20:=Tryd.isAgg20
 z20:=Tryd.sizeOf20
 v20:=Tryd.zeroValue20
 t31:=Tryd.underlying34
 a31:=Tryd.isAgg34
 z31:=Tryd.sizeOf34
 v31:=Tryd.zeroValue34
 t37:=Tryd.underlying54
 a37:=Tryd.isAgg54
 z37:=Tryd.sizeOf54
 v37:=Tryd.zeroValue54
 t70:=Tryd.underlying106
 a70:=Tryd.isAgg106
 z70:=Tryd.sizeOf106
 v70:=Tryd.zeroValue106
 t72:=Tryd.underlying108
 a72:=Tryd.isAgg108
 z72:=Tryd.sizeOf108
 v72:=Tryd.zeroValue108
 t75:=Tryd.underlying110
 a75:=Tryd.isAgg110
 z75:=Tryd.sizeOf110
 v75:=Tryd.zeroValue110
 t76:=Tryd.underlying118
 a76:=Tryd.isAgg118
 z76:=Tryd.sizeOf118
 v76:=Tryd.zeroValue118
 t127:=Tryd.underlying127
 a127:=Tryd.isAgg127
 z127:=Tryd.sizeOf127
 v127:=Tryd.zeroValue127
 t164:=Tryd.underlying137
 a164:=Tryd.isAgg137
 z164:=Tryd.sizeOf137
 v164:=Tryd.zeroValue137}
theorem Tryd.z0E:Builder.Extra Tryd.prog Tryd.z0S:={
 sizeBuilder:=by kernel_rfl
 liesBuilder:=by kernel_rfl
 t5:=Tryd.underlying5
 a5:=Tryd.isAgg5
 z5:=Tryd.sizeOf5
 v5:=Tryd.zeroValue5
 infoByte:=by kernel_rfl
 cellsByte:=by kernel_rfl
 sizeByte:=by kernel_rfl
 neB5:=by decide}
theorem Tryd.strings_Join (bk o c:Nat) (xs:List ByteArray) (sep:ByteArray) (w:World) (hcells:∀(j:Nat) x,xs[j]? =some x→w.cell? ⟨bk,o+j,none⟩=some (.string x)) (hbk:bk<w.heap.size) (hN:xs.length≤140737488355328) (hcap:xs.length≤c) (hlen:(Lib.join (xs.map (·.data.toList)) sep.data.toList).length≤140737488355328):
  Calls Tryd.prog 40 #[.slice (some ⟨bk,o,none⟩) xs.length c,.string sep] w fun e w'=>e= .returned (.string ⟨(Lib.join (xs.map (·.data.toList)) sep.data.toList).toArray⟩)∧Below w.heap.size w w':=Any.strings_Join Tryd.y4m Tryd.z0E bk o c xs sep w hcells hbk hN hcap hlen
def Tryd.J9:Go.Shelf.Ren:=⟨fun|246=>54|283=>61|284=>62|285=>63|286=>64|129=>68|317=>67|318=>69|319=>70|320=>71|337=>72|338=>73|n=>n,fun|2=>2|3=>3|9=>9|4=>4|171=>132|0=>0|53=>23|37=>54|5=>5|173=>135|212=>142|51=>22|20=>20|213=>143|46=>112|232=>28|233=>147|n=>n,fun|17=>1|18=>3|19=>4|n=>n⟩
theorem Tryd.q19:Go.Proofs.LaysM.n246 Tryd.prog Tryd.J9:={
 mixed:=by kernel_rfl
 f129:=Tryd.func68.trans (congrArg some (by kernel_rfl))
 f246:=Tryd.func54.trans (congrArg some (by kernel_rfl))
 f283:=Tryd.func61.trans (congrArg some (by kernel_rfl))
 f284:=Tryd.func62.trans (congrArg some (by kernel_rfl))
 f285:=Tryd.func63.trans (congrArg some (by kernel_rfl))
 f286:=Tryd.func64.trans (congrArg some (by kernel_rfl))
 f317:=Tryd.func67.trans (congrArg some (by kernel_rfl))
 f318:=Tryd.func69.trans (congrArg some (by kernel_rfl))
 f319:=Tryd.func70.trans (congrArg some (by kernel_rfl))
 f320:=Tryd.func71.trans (congrArg some (by kernel_rfl))
 f337:=Tryd.func72.trans (congrArg some (by kernel_rfl))
 f338:=Tryd.func73.trans (congrArg some (by kernel_rfl))
 t0:=Tryd.underlying0
 a0:=Tryd.isAgg0
 z0:=Tryd.sizeOf0
 v0:=Tryd.zeroValue0
 t2:=Tryd.underlying2
 a2:=Tryd.isAgg2
 z2:=Tryd.sizeOf2
 v2:=Tryd.zeroValue2
 t3:=Tryd.underlying3
 a3:=Tryd.isAgg3
 z3:=Tryd.sizeOf3
 v3:=Tryd.zeroValue3
 t4:=Tryd.underlying4
 a4:=Tryd.isAgg4
 z4:=Tryd.sizeOf4
 v4:=Tryd.zeroValue4
 t5:=Tryd.underlying5
 a5:=Tryd.isAgg5
 z5:=Tryd.sizeOf5
 v5:=Tryd.zeroValue5
 t9:=Tryd.underlying9
 a9:=Tryd.isAgg9
 z9:=Tryd.sizeOf9
 v9:=Tryd.zeroValue9
 t20:=Tryd.underlying20
 a20:=Tryd.isAgg20
 z20:=Tryd.sizeOf20
 v20:=Tryd.zeroValue20
 t37:=Tryd.underlying54
 a37:=Tryd.isAgg54
 z37:=Tryd.sizeOf54
 v37:=Tryd.zeroValue54
 t46:=Tryd.underlying112
 a46:=Tryd.isAgg112
 z46:=Tryd.sizeOf112
 v46:=Tryd.zeroValue112
 t51:=Tryd.underlying22
 a51:=Tryd.isAgg22
 z51:=Tryd.sizeOf22
 v51:=Tryd.zeroValue22
 t53:=Tryd.underlying23
 a53:=Tryd.isAgg23
 z53:=Tryd.sizeOf23
 v53:=Tryd.zeroValue23
 t171:=Tryd.underlying132
 a171:=Tryd.isAgg132
 z171:=Tryd.sizeOf132
 v171:=Tryd.zeroValue132
 t173:=Tryd.underlying135
 a173:=Tryd.isAgg135
 z173:=Tryd.sizeOf135
 v173:=Tryd.zeroValue135
 t212:=Tryd.underlying142
 a212:=Tryd.isAgg142
 z212:=Tryd.sizeOf142
 v212:=Tryd.zeroValue142
 t213:=Tryd.underlying143
 a213:=Tryd.isAgg143
 z213:=Tryd.sizeOf143
 t232:=Tryd.underlying28
 a232:=Tryd.isAgg28
 z232:=Tryd.sizeOf28
 v232:=Tryd.zeroValue28
 t233:=Tryd.underlying147
 a233:=Tryd.isAgg147
 z233:=Tryd.sizeOf147
 v233:=Tryd.zeroValue147
 g17:=by kernel_rfl
 g18:=by kernel_rfl
 g19:=by kernel_rfl
 i0:=by kernel_rfl
 i2:=by kernel_rfl
 i3:=by kernel_rfl
 i4:=by kernel_rfl
 i5:=by kernel_rfl
 i9:=by kernel_rfl
 i20:=by kernel_rfl
 i37:=by kernel_rfl
 i46:=by kernel_rfl
 i51:=by kernel_rfl
 i53:=by kernel_rfl
 i171:=by kernel_rfl
 i173:=by kernel_rfl
 i212:=by kernel_rfl
 i232:=by kernel_rfl
 i233:=by kernel_rfl
 m17:=by kernel_rfl
 m18:=by kernel_rfl
 m19:=by kernel_rfl}
end Go.Proofs
namespace Go.Proofs.YtoademomlabgnaaDoor
open Go Go.E Go.RowKit Go.Shelf Go.Sort Go.Lib
open Go.IntKind (wrap u64 u32 u8 i64 i32)
set_option maxRecDepth 100000
set_option maxHeartbeats 6400000
set_option linter.unusedSimpArgs false
theorem z8q (w:World) (T:TypeId) (nd:Nat) (hs:nd≤24):Holds (fun(b:UInt8)=>Value.int .u8 (b.toNat:Int)) (w.alloc (.cells zeros24 T)) w.heap.size 0 (Array.replicate nd (0:UInt8)):=fun j hj=>by
 have hj':j<nd:=by simpa using hj
 refine⟨?_,World.frozen?_alloc_new _ _ _ _⟩
 rw[World.cell?_alloc_new,zeros24_at _ (by omega),getElem!_pos _ j hj]
 simp
theorem y24 (w:World) (o:Obj) (dk:Array UInt8) (k:Nat):∃os,(putRow (fun(b:UInt8)=>Value.int .u8 (b.toNat:Int)) (w.alloc o) w.heap.size 0 dk).drewN k=grow (w.drewN k) os:=by
 rw[alloc_eq_grow]
 obtain⟨os',_,e⟩:=putRow_grow_new (fun(b:UInt8)=>Value.int .u8 (b.toNat:Int)) w #[o] w.heap.size 0 dk (Nat.le_refl _)
 exact⟨os',by rw[e];rfl⟩
def z4g (w:World):Prop:=∀i,i<20→w.cell? ⟨1,i,none⟩=some (.int .u64 ((10^i:Nat):Int))
theorem q7M {w:World} (h:z4g w) (o:Obj):z4g (w.alloc o):=fun i hi=>by
 have h':=h i hi
 have hlt:1<w.heap.size:=by
  rcases Nat.lt_or_ge 1 w.heap.size with h1|h1
  ·exact h1
  ·simp[World.cell?,Array.getElem?_eq_none h1]at h'
 unfold World.cell? at h' ⊢
 rw[RowKit.Below.heap_alloc w o _ hlt]
 exact h'
theorem z1u (u:Nat) (h1:1≤u) (h2:u<18446744073709551616) (w:World) (htab:z4g w):
  Calls Tryd.prog 62 #[.int .u64 u] w fun e w'=>e= .returned (.int .i64 (Lib.nDigits u))∧w'=w:=by
 have e129:∀args w,(callFunc 68 args).run Tryd.prog w= .ok (.enter 68 args) w:=enters_of Tryd.func68 (by kernel_rfl) rfl
 have e317:∀args w,(callFunc 67 args).run Tryd.prog w= .ok (.enter 67 args) w:=enters_of Tryd.func67 (by kernel_rfl) rfl
 have e318:∀args w,(callFunc 69 args).run Tryd.prog w= .ok (.enter 69 args) w:=enters_of Tryd.func69 (by kernel_rfl) rfl
 obtain⟨hnd,h19⟩:=Lib.numDigits_eq u h1 h2
 have hL:Lib.bitLen u≤64:=Lib.bitLen_le u 64 (Nat.le_refl _) h2
 have hcell:=htab (Lib.l10 (Lib.bitLen u)) (by omega)
 have hto:((u:Int)).toNat=u:=by omega
 generalize hq:Lib.l10 (Lib.bitLen u)=q at hnd h19 hcell
 generalize hT:10^q=T at hnd hcell
 have h20:q<20:=by omega
 have Hnd:=Lib.hid hnd
 clear hnd htab
 go_enter Tryd.func62,Tryd.ntmps62
 go_wp2_with (first
  |(go_at_fn 68;refine(Any.bits_Len64 (P:=Tryd.prog) (ρ:=Tryd.J9) {Tryd.q19 with} _ _ (by omega) (by omega)).mono ?_;rintro e w' ⟨rfl,rfl⟩)
  |(go_at_fn 67;refine(Any.internal_strconv_log10Pow2 (P:=Tryd.prog) (ρ:=Tryd.J9) {Tryd.q19 with} _ (by first|exact hL|(rw[hto];exact hL)) _).mono ?_;rintro e w' ⟨rfl,rfl⟩)
  |(go_at_fn 69;refine(Any.internal_strconv_bool2_int (P:=Tryd.prog) (ρ:=Tryd.J9) {Tryd.q19 with} _ _).mono ?_;rintro e w' ⟨rfl,rfl⟩))
 all_goals go_ret
 all_goals (
  refine⟨?_,rfl⟩
  have hnd:=Hnd.out
  congr 2
  split at hnd <;> simp_all <;> omega)
theorem y21 (u:Nat) (h:u<18446744073709551616) (w:World) (htab:z4g w):
  Calls Tryd.prog 53 #[.int .u64 u,.int .i64 10] w fun e w'=>e= .returned (.string ⟨(Lib.decDigits u).toArray⟩)∧∃k os,w'=grow (w.drewN k) os:=by
 have e283:∀args w,(callFunc 61 args).run Tryd.prog w= .ok (.enter 61 args) w:=enters_of Tryd.func61 (by kernel_rfl) rfl
 have e284:∀args w,(callFunc 62 args).run Tryd.prog w= .ok (.enter 62 args) w:=enters_of Tryd.func62 (by kernel_rfl) rfl
 have e285:∀args w,(callFunc 63 args).run Tryd.prog w= .ok (.enter 63 args) w:=enters_of Tryd.func63 (by kernel_rfl) rfl
 by_cases hs:u<100
 ·go_enter Tryd.func53,Tryd.ntmps53
  go_wp2_with (go_at_fn 61;refine(Any.internal_strconv_small {Tryd.q19 with} u hs _).mono ?_;rintro e w' ⟨rfl,rfl⟩)
  go_ret
  exact⟨rfl,0,#[],by simp[World.drewN_zero]⟩
 ·have hu1:1≤u:=by omega
  have hnd20:Lib.nDigits u≤20:=by have:=Lib.numDigits_eq u hu1 h;split at this <;> omega
  have hal:Tryd.prog.arrayLen 132=24:=by kernel_rfl
  have hsl1:∀W,(Instr.sliceAt 132 (.pointer (some ⟨w.heap.size,0,none⟩)) none (some (.int .i64 (Lib.nDigits u:Int))) none).run Tryd.prog W= .ok (.slice (some ⟨w.heap.size,0,none⟩) (Lib.nDigits u) 24) W:=fun W=>by
   rw[run_sliceAt_array_h W 132 ⟨w.heap.size,0,none⟩ (by kernel_rfl) .i64 (Lib.nDigits u:Int) (by omega) (by rw[hal];omega)]
   go_simp
  have hH0:=z8q w 132 (Lib.nDigits u) (by omega)
  have hfmt:=Any.internal_strconv_formatBase10 (P:=Tryd.prog) (ρ:=Tryd.J9) {Tryd.q19 with} w.heap.size 0 24 u (Array.replicate (Lib.nDigits u) 0) (w.alloc (.cells Lib.zeros24 132)) hH0 (by rw[Array.size_replicate];exact Lib.lt_pow_nDigits u) h (by rw[Array.size_replicate];omega)
  rw[Array.size_replicate]at hfmt
  have HH0:=Lib.hid hH0
  clear hH0 hal
  go_enter Tryd.func53,Tryd.ntmps53
  go_wp2_with (first
   |(go_at_fn 62;refine(z1u u hu1 h _ (q7M htab _)).mono ?_;rintro e w' ⟨rfl,rfl⟩))
  go_at_fn 63
  refine hfmt.mono ?_
  rintro e w' ⟨rfl,k,v',dk,rfl,hF⟩
  have hcv:(convert 54 9 (.slice (some ⟨w.heap.size,0,none⟩) (Lib.nDigits u) 24)).run Tryd.prog ((putRow (fun(b:UInt8)=>Value.int .u8 (b.toNat:Int)) (w.alloc (.cells Lib.zeros24 132)) w.heap.size 0 dk).drewN k)= .ok (.string ⟨(Lib.decDigits u).toArray⟩) ((putRow (fun(b:UInt8)=>Value.int .u8 (b.toNat:Int)) (w.alloc (.cells Lib.zeros24 132)) w.heap.size 0 dk).drewN k):=by
   have h:=run_convert_bytes_back (P:=Tryd.prog) ((putRow (fun(b:UInt8)=>Value.int .u8 (b.toNat:Int)) (w.alloc (.cells Lib.zeros24 132)) w.heap.size 0 dk).drewN k) 54 9 5 ⟨w.heap.size,0,none⟩ 24 (Lib.decDigits u) (by kernel_rfl) (by kernel_rfl) (by kernel_rfl) (fun j hj=>by
    rw[Lib.row_is_numeral hF j hj,Lib.add_plain,World.cell?_drewN]
    exact cell?_putRow (fun(b:UInt8)=>Value.int .u8 (b.toNat:Int)) _ w.heap.size 0 _ dk HH0.out (by rw[hF.size,Array.size_replicate]) j (by rw[hF.size];rw[Lib.decDigits_length]at hj;exact hj))
   rw[Lib.decDigits_length]at h
   exact h
  go_wp2
  go_ret
  obtain⟨os,eo⟩:=y24 w (.cells Lib.zeros24 132) dk k
  exact⟨rfl,k,os,eo⟩
theorem z8G {Γ:G} {w:World} {s:S} (c:z8 Γ w s) (h:Γ.gl 1=some (.arr 20 (.int .u64),.agg (Go.Lib.pow10Tab.map C.int))):z4g w:=fun i hi=>by
 obtain⟨l,h1,h2,h3⟩:=c.hgl _ _ _ h
 obtain⟨arr,T,fr,r,h4,h5⟩:=c.hH _ _ h1
 simp only[z7]at h3
 obtain⟨cs,e,_,_,_,hr⟩:=h3
 cases e
 have hi':(Go.Lib.pow10Tab.map C.int)[i]? =some (.int ((10^i:Nat):Int)):=by
  have h6:=Go.Lib.pow10Tab_at i hi
  have h7:=Go.Lib.pow10Tab_length
  rw[List.getElem?_map]
  rw[List.getD_eq_getElem?_getD]at h6
  cases h8:Go.Lib.pow10Tab[i]? with
  |none=>rw[List.getElem?_eq_none_iff]at h8;omega
  |some z=>rw[h8]at h6;simp only[Option.getD_some]at h6;rw[h6];rfl
 have h9:=hr _ _ hi'
 have m1:u64.min=0:=by decide
 simp only[z7,Ty.size,Nat.mul_one]at h9 h2
 obtain⟨n,h11,h10,_,_⟩:=h9
 cases h11
 have h12:(chunk (chunk l 0 (20*1)) i 1)[0]? =some (.int .u64 ((10^i:Nat):Int)):=by rw[h10];rfl
 have h13:l[i]? =some (.int .u64 ((10^i:Nat):Int)):=by
  simp only[chunk,List.drop_zero,List.getElem?_take,List.getElem?_drop]at h12
  simp at h12
  exact h12.2
 unfold World.cell?
 simp only[h4]
 have h14:arr[i]? =some (.int .u64 ((10^i:Nat):Int)):=by
  have hl:i<l.length:=by omega
  rw[←Array.getElem?_toList,h5,List.getElem?_append_left hl]
  exact h13
 simpa using h14
theorem z7l (w:World) (k:Nat) (os:Array Obj):Ext w (grow (w.drewN k) os):=by
 refine⟨?_,fun b hb=>?_,?_⟩
 ·simp[grow,World.drewN]
 ·simp[grow,World.drewN,Array.getElem?_append,hb]
 ·rfl
theorem q3F (u:Nat) (h:u<18446744073709551616):(Lib.decDigits u).length≤20:=by
 rw[Lib.decDigits_length]
 by_cases h1:1≤u
 ·have:=Lib.numDigits_eq u h1 h;split at this <;> omega
 ·have:u=0:=by omega
  subst this;simp[Lib.nDigits]
def y0w:Nat→Nat→List UInt8
 |0,_=>[]
 |f+1,n=>bif Nat.blt n 10 then[UInt8.ofNat (48+n)]else y0w f (n / 10)++[UInt8.ofNat (48+n%10)]
def q3E (n:Nat):List UInt8:=y0w 20 n
theorem z9h:∀(f n:Nat),n<10^(f+1)→y0w (f+1) n=Lib.decDigits n
 |f,n,h=>by
  rw[Lib.decDigits,y0w]
  by_cases hn:n<10
  ·rw[dif_pos hn,show Nat.blt n 10=true from by simpa[Nat.blt_eq]using hn];rfl
  ·rw[dif_neg hn,show Nat.blt n 10=false from by rw[←Bool.not_eq_true,Nat.blt_eq];exact hn]
   cases f with
   |zero=>simp at h;omega
   |succ f=>
    have h':n / 10<10^(f+1):=by rw[Nat.pow_succ]at h;omega
    rw[cond_false,z9h f (n / 10) h']
theorem q3b (n:Nat) (h:n<18446744073709551616):q3E n=Lib.decDigits n:=z9h 19 n (Nat.lt_of_lt_of_le h (by decide))
theorem y0h (A:Key→Option O) (c:C):Q2 (X0 gl0) 53 [.d (.int .u64) c,.d (.int .i64) (.int 10)] A (.d .str (.str (q3E c.toInt.toNat))) []:=by
 intro A' Γ w args hA' hg hc hn hr
 obtain⟨cc,hok⟩:=hc
 have hs:args.size=2:=hn.symm
 obtain⟨e1,_,h1,h2⟩:=j4 (hr 0 _ _ rfl (Array.getElem?_eq_getElem (by omega)))
 obtain⟨e2,_,_,_⟩:=j4 (hr 1 _ _ rfl (Array.getElem?_eq_getElem (by omega)))
 have m1:u64.min=0:=by decide
 have m2:u64.max=18446744073709551615:=by decide
 have ea:args=#[.int .u64 (c.toInt.toNat:Int),.int .i64 10]:=by
  apply Array.ext
  ·simpa using hs
  ·intro i h1 h2
   match i with
   |0=>
    have:((c.toInt.toNat:Nat):Int)=c.toInt:=by omega
    simpa[this]using e1
   |1=>simpa[C.toInt]using e2
   |i+2=>omega
 rw[ea]
 refine(y21 c.toInt.toNat (by omega) w (z8G cc (by rw[hg];rfl))).mono fun e w' he=>?_
 obtain⟨he1,k,os,he2⟩:=he
 subst he2
 refine⟨_,Γ,he1,.refl Γ,(cc.ext (z7l w k os)).congr (fun _=>rfl) (fun _=>rfl) (fun _ h=>h),?_⟩
 have:=q3F c.toInt.toNat (by omega)
 rw[q3b _ (by omega)]
 exact W5 (by omega)
noncomputable def z2M (_:Nat) {R:Type}:OvG R:=fun xs _ K=>match xs with
 | [.d (.int .u64) c,.d (.int .i64) (.int b)]=>if b=10 then K (.d .str (.str (q3E c.toInt.toNat))) []else none
 |_=>none
theorem z84 (N:Nat) {R:Type}:GOk (X0 gl0) 53 (z2M N (R:=R)):=by
 intro xs A Kr r hr
 unfold z2M at hr
 split at hr
 ·rename_i c b
  by_cases hb:b=10
  ·subst hb
   exact⟨_,_,y0h A c,by simpa using hr⟩
  ·rw[if_neg hb]at hr;cases hr
 ·cases hr
open Go Go.E Go.RowKit Go.Shelf
theorem y13:∃i z,Tryd.prog.info? 5=some i∧i.zero=some z∧i.size=1∧i.bytes=1∧z.cells.size=1:=by
 have h:((Tryd.prog.info? 5).map fun i=>(i.size,i.bytes,i.zero.map fun z=>z.cells.size))=some (1,1,some 1):=by kernel_rfl
 obtain⟨i,hi,h2⟩:=Option.map_eq_some_iff.1 h
 simp only[Prod.mk.injEq]at h2
 obtain⟨h3,h4,h5⟩:=h2
 obtain⟨z,hz,h6⟩:=Option.map_eq_some_iff.1 h5
 exact⟨i,z,hi,hz,h3,h4,h6⟩
theorem y3t:liesAt Tryd.prog Tryd.prog.depth 108 (2 / Tryd.prog.cellsOf 108) 0 108 1=true:=by kernel_rfl
theorem z7R:(Tryd.prog.info? 108).map (·.size)=some 2:=by kernel_rfl
theorem y0x (b:Nat) (w:World) (v:Value) (hw:w.heap[b]? =some (.cells #[.pointer none,v] 108 (0,0))):
  Calls Tryd.prog 55 #[.pointer (some ⟨b,0,none⟩)] w fun e w'=>e= .returned (.tuple #[])∧w'=w.setCell ⟨b,0,none⟩ (.pointer (some ⟨b,0,none⟩)):=by
 obtain⟨j,hj,hjs⟩:=Option.map_eq_some_iff.1 z7R
 have h0:w.cell? ⟨b,0,none⟩=some (.pointer none):=by rw[Lib.cell_of_heap hw];rfl
 have hsh:w.shape? b=some (108,2):=by simp[World.shape?,hw]
 have hfz:w.frozen? ⟨b,0,none⟩=false:=Lib.frozen_of_heap hw 0
 go_enter Tryd.func55,Tryd.ntmps55
 go_wp2
 rw[Lib.run_to_unsafe w ⟨b,0,none⟩ (t:=108) (by kernel_rfl) (by kernel_rfl) hj (by rw[hjs];decide) hsh (Nat.zero_lt_succ 1)]
 simp only[Result.andThen]
 rw[Oper.upon_value]
 go_wp2
 rw[run_callFunc_extern Tryd.func65 (by kernel_rfl) (by kernel_rfl) (by kernel_rfl) (e:=Extern.AbiNoEscape.same) (by kernel_rfl)]
 rw[Lib.run_noEscape]
 simp only[Result.andThen]
 rw[Oper.upon_value]
 go_wp2
 rw[Lib.run_from_unsafe w ⟨b,0,none⟩ (u:=108) (by kernel_rfl) (by kernel_rfl) hj hsh y3t]
 simp only[Result.andThen]
 rw[Oper.upon_value]
 go_wp2
 go_end0
 exact⟨rfl,rfl⟩
theorem y1X (b:Nat) (w:World) (v:Value) (hw:w.heap[b]? =some (.cells #[.pointer (some ⟨b,0,none⟩),v] 108 (0,0))):
  Calls Tryd.prog 55 #[.pointer (some ⟨b,0,none⟩)] w fun e w'=>e= .returned (.tuple #[])∧w'=w:=by
 obtain⟨j,hj,hjs⟩:=Option.map_eq_some_iff.1 z7R
 have h0:w.cell? ⟨b,0,none⟩=some (.pointer (some ⟨b,0,none⟩)):=by rw[Lib.cell_of_heap hw];rfl
 go_enter Tryd.func55,Tryd.ntmps55
 go_wp2
 rw[Lib.run_neq_ptr_same w _ (te:=108) (by kernel_rfl) hj]
 go_wp2
 go_end0
 exact⟨rfl,rfl⟩
theorem y3n (b:Nat) (w:World) (adr v:Value) (hw:w.heap[b]? =some (.cells #[adr,v] 108 (0,0))) (ha:adr= .pointer none∨adr= .pointer (some ⟨b,0,none⟩)):
  Calls Tryd.prog 55 #[.pointer (some ⟨b,0,none⟩)] w fun e w'=>e= .returned (.tuple #[])∧oof w'=oof w∧w'.heap.size=w.heap.size∧w'.heap[b]? =some (.cells #[.pointer (some ⟨b,0,none⟩),v] 108 (0,0))∧∀b2,b2≠b→w'.heap[b2]? =w.heap[b2]?:=by
 rcases ha with rfl|rfl
 ·refine(y0x b w v hw).mono ?_
  rintro e w' ⟨rfl,rfl⟩
  refine⟨rfl,rfl,by simp[World.setCell],by simp[World.setCell,Array.getElem?_modify,hw],fun b2 h=>?_⟩
  have:b≠b2:=fun e=>h e.symm
  simp[World.setCell,Array.getElem?_modify,this]
 ·refine(y1X b w v hw).mono ?_
  rintro e w' ⟨rfl,rfl⟩
  exact⟨rfl,rfl,rfl,hw,fun _ _=>rfl⟩
def y0I (w w':World) (b:Nat) (v:Value) (l l':List UInt8):Prop:=oof w'=oof w∧w.heap.size≤w'.heap.size∧∃v',w'.heap[b]? =some (.cells #[.pointer (some ⟨b,0,none⟩),v'] 108 (0,0))∧
 ((v'=v∧l'=l∧∀b2,b2<w.heap.size→b2≠b→w'.heap[b2]? =w.heap[b2]?)∨
   ∃g cap arr,v'= .slice (some ⟨g,0,none⟩) l'.length cap∧w'.heap[g]? =some (.cells arr 5 (0,0))∧arr.size=cap∧arr.toList.take l'.length=u4 l'∧l'.length≤cap∧cap≤maxLen∧0<cap∧
    (w.heap.size≤g∨v= .slice (some ⟨g,0,none⟩) l.length cap)∧∀b2,b2<w.heap.size→b2≠g→b2≠b→w'.heap[b2]? =w.heap[b2]?)
theorem z9B {w w':World} {v:Value} {l:List UInt8} {b:Nat} (h:q8A w v l) (hb:∀g n c,v= .slice (some ⟨g,0,none⟩) n c→g≠b) (hs:∀b2,b2≠b→w'.heap[b2]? =w.heap[b2]?):q8A w' v l:=by
 rcases h with h|⟨g,cap,arr,rfl,h1,h2⟩
 ·exact .inl h
 ·exact .inr ⟨g,cap,arr,rfl,by rw[hs g (hb g _ _ rfl)];exact h1,h2⟩
theorem y2d {w w1 w2 w3:World} {b:Nat} {v v':Value} {l l':List UInt8} (hlt:b<w.heap.size) (hvb:∀g n c,v= .slice (some ⟨g,0,none⟩) n c→g≠b)
  (h1:oof w1=oof w) (h2:w.heap.size≤w1.heap.size) (h3:w1.heap[b]? =some (.cells #[.pointer (some ⟨b,0,none⟩),v] 108 (0,0))) (h4:∀b2,b2<w.heap.size→b2≠b→w1.heap[b2]? =w.heap[b2]?)
  (hg:y0L w1 w2 v v' l l') (h5:w3=w2.setCell ⟨b,1,none⟩ v'):y0I w w3 b v l l':=by
 obtain⟨g1,g2,g3⟩:=hg
 have hb2:w2.heap[b]? =some (.cells #[.pointer (some ⟨b,0,none⟩),v] 108 (0,0)):=by
  rcases g3 with⟨_,_,g4⟩|⟨g,cap,arr,_,e2,_,_,_,_,_,e8,e9⟩
  ·rw[g4 b (by omega)];exact h3
  ·have hne:b≠g:=by
    rcases e8 with e8|e8
    ·omega
    ·exact(hvb _ _ _ e8).symm
   rw[e9 b (by omega) hne];exact h3
 have hoth:∀b2,b2≠b→w3.heap[b2]? =w2.heap[b2]?:=fun b2 h=>by
  have:b≠b2:=fun e=>h e.symm
  rw[h5];simp[World.setCell,Array.getElem?_modify,this]
 refine⟨by rw[h5];exact g1.trans h1,by rw[h5];simp[World.setCell];omega,v',by rw[h5];simp[World.setCell,Array.getElem?_modify,hb2],?_⟩
 rcases g3 with⟨rfl,rfl,g4⟩|⟨g,cap,arr,e1,e2,e3,e4,e5,e6,e7,e8,e9⟩
 ·exact .inl ⟨rfl,rfl,fun b2 hb hn=>by rw[hoth b2 hn,g4 b2 (by omega),h4 b2 hb hn]⟩
 ·have hne:g≠b:=by
   rcases e8 with e8|e8
   ·omega
   ·exact hvb _ _ _ e8
  refine .inr ⟨g,cap,arr,e1,by rw[hoth g hne];exact e2,e3,e4,e5,e6,e7,e8.imp (fun h=>by omega) id,fun b2 hb hn hn'=>?_⟩
  rw[hoth b2 hn',e9 b2 (by omega) hn,h4 b2 hb hn']
theorem y0T (b:Nat) (w:World) (adr v:Value) (l:List UInt8) (x:UInt8) (hw:w.heap[b]? =some (.cells #[adr,v] 108 (0,0))) (ha:adr= .pointer none∨adr= .pointer (some ⟨b,0,none⟩)) (hv:q8A w v l) (hvb:∀g n c,v= .slice (some ⟨g,0,none⟩) n c→g≠b) (hl:(l++[x]).length≤140737488355328):
  Calls Tryd.prog 42 #[.pointer (some ⟨b,0,none⟩),.int .u8 (x.toNat:Int)] w fun e w'=>e= .returned .nilIface∧y0I w w' b v l (l++[x]):=by
 obtain⟨i,z,hi,hz,i1,i2,i3⟩:=y13
 have hlt:b<w.heap.size:=Go.E.j5 hw
 have e240:∀args w,(callFunc 55 args).run Tryd.prog w= .ok (.enter 55 args) w:=enters_of Tryd.func55 (by kernel_rfl) rfl
 go_enter Tryd.func42,Tryd.ntmps42
 go_wp2_with (go_at_fn 55;refine(y3n b w adr v hw ha).mono ?_)
 rintro e w1 ⟨rfl,h1,h2,h3,h4⟩
 have h2a:=Nat.le_of_eq h2
 have h2b:=Nat.le_of_eq h2.symm
 clear h2
 have c0:w1.cell? ⟨b,0,none⟩=some (.pointer (some ⟨b,0,none⟩)):=by rw[Lib.cell_of_heap h3];rfl
 have c1:w1.cell? ⟨b,1,none⟩=some v:=by rw[Lib.cell_of_heap h3];rfl
 have hv1:=z9B hv hvb h4
 have hv2:q8A (w1.alloc (.cells #[.int .u8 (x.toNat:Int)] 5)) v l:=by
  rcases hv1 with h|⟨g,cap,arr,rfl,q1,q2⟩
  ·exact .inl h
  ·exact .inr ⟨g,cap,arr,rfl,by rw[heap_alloc_old w1 _ (Go.E.j5 q1)];exact q1,q2⟩
 have hsrc:Src Tryd.prog 1 54 (.slice (some ⟨w1.heap.size,0,none⟩) 1 1) [x].length (u4 [x]) (w1.alloc (.cells #[.int .u8 (x.toNat:Int)] 5)):=
  Src.ofSlice (P:=Tryd.prog) (w1.alloc (.cells #[.int .u8 (x.toNat:Int)] 5)) (e':=5) (by kernel_rfl) ⟨w1.heap.size,0,none⟩ 1 1 (u4 [x]) rfl (fun j u hj=>by
   match j,hj with
   |0,hj=>
    simp[u4]at hj
    subst hj
    show(w1.alloc (.cells #[.int .u8 (x.toNat:Int)] 5)).cell? ⟨w1.heap.size,0,none⟩=_
    rw[World.cell?_alloc_new]
    rfl) (fun u hu=>by simp[u4]at hu;subst hu;rfl)
 go_wp2_with (at_builtin;refine z0B rfl _ _ 54 54 rfl (by kernel_rfl) hi hz i1 i2 i3 rfl rfl hl hsrc hv2 ?_)
 intro v' w2 hg
 have h3':(w1.alloc (.cells #[.int .u8 (x.toNat:Int)] 5)).heap[b]? =some (.cells #[.pointer (some ⟨b,0,none⟩),v] 108 (0,0)):=by rw[heap_alloc_old w1 _ (Go.E.j5 h3)];exact h3
 have hsz:(w1.alloc (.cells #[.int .u8 (x.toNat:Int)] 5)).heap.size=w1.heap.size+1:=by simp
 have hb2:w2.heap[b]? =some (.cells #[.pointer (some ⟨b,0,none⟩),v] 108 (0,0)):=by
  rcases hg.2.2 with⟨_,_,g4⟩|⟨g,cap,arr,_,e2,_,_,_,_,_,e8,e9⟩
  ·rw[g4 b (by omega)];exact h3'
  ·have hne:b≠g:=by
    rcases e8 with e8|e8
    ·omega
    ·exact(hvb _ _ _ e8).symm
   rw[e9 b (by omega) hne];exact h3'
 have d0:w2.cell? ⟨b,0,none⟩=some (.pointer (some ⟨b,0,none⟩)):=by rw[Lib.cell_of_heap hb2];rfl
 have d1:w2.cell? ⟨b,1,none⟩=some v:=by rw[Lib.cell_of_heap hb2];rfl
 have f1:w2.frozen? ⟨b,1,none⟩=false:=Lib.frozen_of_heap hb2 1
 obtain⟨ao,n',cap,rfl⟩:∃ao n' cap,v'= .slice ao n' cap:=by
  rcases hg.2.2 with⟨rfl,_⟩|⟨g,cap,arr,rfl,_⟩
  ·rcases hv with⟨rfl,_⟩|⟨_,_,_,rfl,_⟩ <;> exact⟨_,_,_,rfl⟩
  ·exact⟨_,_,_,rfl⟩
 go_wp2
 go_ret
 exact⟨rfl,y2d hlt hvb (w1:=w1.alloc (.cells #[.int .u8 (x.toNat:Int)] 5)) h1 (by omega) h3' (fun b2 hb h=>by rw[heap_alloc_old w1 _ (by omega)];exact h4 b2 h) hg rfl⟩
theorem z5Y (W:World) (q:Option Addr):(Builtin.unsafeString_ #[127,3] 9 #[.pointer q,.int .i64 0]).run Tryd.prog W= .ok (.string .empty) W:=
 Lib.run_unsafeString_none W _ _ _ q
theorem y3s (b:Nat) (w:World) (adr v:Value) (l:List UInt8) (hw:w.heap[b]? =some (.cells #[adr,v] 108 (0,0))) (hv:q8A w v l) (hlen:l.length≤140737488355328):
  Calls Tryd.prog 43 #[.pointer (some ⟨b,0,none⟩)] w fun e w'=>e= .returned (.string ⟨l.toArray⟩)∧oof w'=oof w∧w'.heap.size=w.heap.size∧
   ((∀b2:Nat,w'.heap[b2]? =w.heap[b2]?)∨∃(g cap:Nat) (arr:Array Value) (fr:Nat × Nat),v= .slice (some ⟨g,0,none⟩) l.length cap∧w.heap[g]? =some (.cells arr 5 (0,0))∧w'.heap[g]? =some (.cells arr 5 fr)∧∀b2:Nat,b2≠g→w'.heap[b2]? =w.heap[b2]?):=by
 have mixed:Tryd.prog.follows Departure.mixedOrders=true:=by kernel_rfl
 rcases hv with⟨rfl,rfl⟩|⟨g,cap,arr,rfl,h1,h2,h3,h4,h5,h6⟩
 ·have hUS:=z5Y
  have c1:w.drew.cell? ⟨b,1,none⟩=some (.slice none 0 0):=by
   have:w.drew.heap[b]? =some (.cells #[adr,.slice none 0 0] 108 (0,0)):=hw
   rw[Lib.cell_of_heap this];rfl
  have hSD:(Builtin.unsafeSliceData_ #[54] 127 #[.slice none 0 0]).run Tryd.prog w.drew= .ok (.pointer none) w.drew:=rfl
  go_enter Tryd.func43,Tryd.ntmps43
  go_wp2
  go_region_o
  all_goals (go_wp2;go_ret;exact⟨rfl,rfl,rfl,.inl fun _=>rfl⟩)
 ·by_cases hl:l=[]
  ·subst hl
   have hUS:=z5Y
   have c1:w.drew.cell? ⟨b,1,none⟩=some (.slice (some ⟨g,0,none⟩) 0 cap):=by
    have:w.drew.heap[b]? =some (.cells #[adr,.slice (some ⟨g,0,none⟩) 0 cap] 108 (0,0)):=hw
    rw[Lib.cell_of_heap this];rfl
   have hSD:(Builtin.unsafeSliceData_ #[54] 127 #[.slice (some ⟨g,0,none⟩) 0 cap]).run Tryd.prog w.drew= .ok (.pointer (some ⟨g,0,none⟩)) w.drew:=
    Lib.run_unsafeSliceData_row _ _ _ _ _ _ (by omega)
   go_enter Tryd.func43,Tryd.ntmps43
   go_wp2
   go_region_o
   all_goals (go_wp2;go_ret;exact⟨rfl,rfl,rfl,.inl fun _=>rfl⟩)
  ·have c1:w.drew.cell? ⟨b,1,none⟩=some (.slice (some ⟨g,0,none⟩) l.length cap):=by
    have:w.drew.heap[b]? =some (.cells #[adr,.slice (some ⟨g,0,none⟩) l.length cap] 108 (0,0)):=hw
    rw[Lib.cell_of_heap this];rfl
   have hSD:(Builtin.unsafeSliceData_ #[54] 127 #[.slice (some ⟨g,0,none⟩) l.length cap]).run Tryd.prog w.drew= .ok (.pointer (some ⟨g,0,none⟩)) w.drew:=
    Lib.run_unsafeSliceData_row _ _ _ _ _ _ (by omega)
   have hUS:(Builtin.unsafeString_ #[127,3] 9 #[.pointer (some ⟨g,0,none⟩),.int .i64 l.length]).run Tryd.prog w.drew= .ok (.string ⟨l.toArray⟩) (w.drew.freeze ⟨g,0,none⟩ l.length):=by
    refine Lib.run_unsafeString_row w.drew 127 3 9 5 (by kernel_rfl) (by kernel_rfl) g arr.size (by have hg':w.drew.heap[g]? =some (.cells arr 5 (0,0)):=h1;simp[World.shape?,hg']) l hl (by omega) (by omega) ?_
    intro j x hx
    have hg':w.drew.heap[g]? =some (.cells arr 5 (0,0)):=h1
    have hb:(u4 l)[j]? =some (.int .u8 (x.toNat:Int)):=by simp[u4,hx]
    rw[←h3,List.getElem?_take]at hb
    split at hb
    ·rw[Array.getElem?_toList]at hb
     simp[World.cell?,Addr.add_lit,hg',hb]
    ·cases hb
   have hll:l.length≠0:=by simpa using hl
   have hfr:∃fr,(w.drew.freeze ⟨g,0,none⟩ l.length).heap[g]? =some (.cells arr 5 fr):=by
    have hg':w.drew.heap[g]? =some (.cells arr 5 (0,0)):=h1
    simp[World.freeze,hll,Array.getElem?_modify,hg']
   have hot:∀b2,b2≠g→(w.drew.freeze ⟨g,0,none⟩ l.length).heap[b2]? =w.heap[b2]?:=fun b2 h=>by
    have:g≠b2:=fun e=>h e.symm
    simp[World.freeze,hll,Array.getElem?_modify,this]
    rfl
   have hoo:oof (w.drew.freeze ⟨g,0,none⟩ l.length)=oof w:=by simp[World.freeze,hll,oof];exact⟨rfl,rfl⟩
   have hsz:(w.drew.freeze ⟨g,0,none⟩ l.length).heap.size=w.heap.size:=by simp[World.freeze,hll]
   go_enter Tryd.func43,Tryd.ntmps43
   go_wp2
   go_region_o
   all_goals (go_wp2;go_ret;exact⟨rfl,hoo,hsz,.inr (by obtain⟨fr,h⟩:=hfr;exact⟨g,cap,arr,fr,rfl,h1,h,hot⟩)⟩)
theorem z7Q {A A':Key→Option O} {Γ:G} {w:World} {xs:List V} {k:Key} {l:List UInt8} {T:TypeId} {v0:Value} (c:z8 Γ w (S.start xs A')) (hA':∀k o,A k=some o→A' k=some o) (hA:A k=some (.it l T)) (h0:q9 Γ (.ptr (.g k) [] F0) v0):
  ∃b adr v,v0= .pointer (some ⟨b,0,none⟩)∧(S.start xs A').obj (.g k)=some (.it l T)∧Γ.ι (.g k)=some (b,F0)∧w.heap[b]? =some (.cells #[adr,v] T (0,0))∧(adr= .pointer none∨adr= .pointer (some ⟨b,0,none⟩))∧l.length≤140737488355328∧q8A w v l∧(∀g n c,v= .slice (some ⟨g,0,none⟩) n c→g≠b)∧U5 [adr,v]∧
   ((v= .slice none 0 0∧l=[])∨∃g cap,v= .slice (some ⟨g,0,none⟩) l.length cap∧Γ.H g=some (u4 l)∧Γ.κ g=some (.home (.g k) .bld,cap)∧l.length≤cap∧cap≤maxLen∧0<cap):=by
 have hobj:(S.start xs A').obj (.g k)=some (.it l T):=hA' _ _ hA
 obtain⟨b,τ0,off,h1,h2,hpv⟩:=X9 h0
 have e:(off,F0)=(0,τ0):=by simpa[Ty.walk]using h2.symm
 cases e
 obtain⟨b',adr,v,i1,i2,i3,i4,i5,i6,i7⟩:=c.own h1 hobj
 rw[h1]at i1;cases i1
 refine⟨b,adr,v,hpv,hobj,h1,i4,i5,i6,c.y5z i7,fun g n cc hv=>?_,?_,i7⟩
 ·intro e
  subst e
  rcases i7 with⟨h,_⟩|⟨g,cap,h,q,_⟩
  ·rw[hv]at h;cases h
  ·rw[hv]at h;cases h
   rw[i2]at q;cases q
 ·have ha:adr.oneCell'=true:=by rcases i5 with rfl|rfl <;> rfl
  have hv:v.oneCell'=true:=by rcases i7 with⟨rfl,_⟩|⟨g,cap,rfl,_⟩ <;> rfl
  intro u hu
  simp at hu
  rcases hu with rfl|rfl
  ·exact ha
  ·exact hv
theorem z9p {Γ:G} {w w':World} {s:S} (c:z8 Γ w s) {k:Key} {l l':List UInt8} {b:Nat} {adr v:Value} (ho:s.obj k=some (.it l 108)) (hι:Γ.ι k=some (b,F0)) (hw:w.heap[b]? =some (.cells #[adr,v] 108 (0,0)))
  (hv:(v= .slice none 0 0∧l=[])∨∃g cap,v= .slice (some ⟨g,0,none⟩) l.length cap∧Γ.H g=some (u4 l)∧Γ.κ g=some (.home k .bld,cap)∧l.length≤cap∧cap≤maxLen∧0<cap) (hlen:l'.length≤140737488355328) (hpre:∃m,l'=l++m) (h:y0I w w' b v l l'):
  ∃Γ',GLe Γ Γ'∧s6 Γ Γ'∧z8 Γ' w' {s with loc:=(k,.it l' 108)::s.loc}:=by
 obtain⟨h1,h2,v',h3,h4⟩:=h
 exact c.y6s ho hι hw hv h1 h2 h3 (.inr rfl) hlen hpre h4
noncomputable def y2a (_:Nat) {R:Type}:OvG R:=fun xs A K=>match xs with
 | [.ptr (.g k) [] τ,.d .str c]=>(match A k with
  |some (.it l T)=>if Ty.beq τ F0=true∧T=108∧(l++c.toStr).length≤140737488355328 then K (.tup [.d (.int .i64) (.int c.toStr.length),.d .iface .nil]) [(.g k,.it (l++c.toStr) 108)]else none
  |_=>none)
 |_=>none
theorem z73 {A:Key→Option O} {k:Key} {l:List UInt8} (hA:A k=some (.it l 108)) (c:C) (hl:l.length+1≤140737488355328):
  Q2 (X0 gl0) 42 [.ptr (.g k) [] F0,.d (.int .u8) c] A (.d .iface .nil) [(.g k,.it (l++[q1U c]) 108)]:=by
 intro A' Γ w args hA' hg hc hn hr
 obtain⟨cc,hok⟩:=hc
 have hs:args.size=2:=hn.symm
 obtain⟨b,adr,v,hpv,hobj,hι,hw,ha,hll,hrow,hvb,h1c,hv⟩:=z7Q cc hA' hA (hr 0 _ _ rfl (Array.getElem?_eq_getElem (by omega)))
 have h1:=hr 1 _ _ rfl (Array.getElem?_eq_getElem (by omega))
 obtain⟨e1,_,_,_⟩:=j4 h1
 have e2:(([args[1]'(by omega)]):List Value)=[.int .u8 ((q1U c).toNat:Int)]:=by
  obtain⟨h2,_⟩:=Q0.1 h1
  have:=z4X h2
  rw[e1]at this ⊢
  simpa[Value.cells]using this
 have ea:args=#[.pointer (some ⟨b,0,none⟩),.int .u8 ((q1U c).toNat:Int)]:=by
  apply Array.ext
  ·simpa using hs
  ·intro i h1 h2
   match i with
   |0=>simpa using hpv
   |1=>simpa using e2
   |i+2=>omega
 have hl':(l++[q1U c]).length≤140737488355328:=by simpa using hl
 rw[ea]
 refine(y0T b w adr v l (q1U c) hw ha hrow hvb hl').mono fun e w' he=>?_
 obtain⟨he1,he2⟩:=he
 obtain⟨Γ',g1,g2,g3⟩:=z9p cc hobj hι hw hv hl' ⟨_,rfl⟩ he2
 refine⟨_,Γ',he1,g1,g3.congr (fun _=>rfl) (fun _=>rfl) (fun _ h=>h),?_⟩
 show q9 Γ' (.d .iface .nil) .nilIface
 exact Q0.2 ⟨by simp[z7,Value.cells],rfl⟩
noncomputable def q1V (_:Nat) {R:Type}:OvG R:=fun xs A K=>match xs with
 | [.ptr (.g k) [] τ,.d (.int .u8) c]=>(match A k with
  |some (.it l T)=>if Ty.beq τ F0=true∧T=108∧l.length+1≤140737488355328 then K (.d .iface .nil) [(.g k,.it (l++[q1U c]) 108)]else none
  |_=>none)
 |_=>none
theorem q6c (N:Nat) {R:Type}:GOk (X0 gl0) 42 (q1V N (R:=R)):=by
 intro xs A Kr r hr
 unfold q1V at hr
 split at hr
 ·split at hr
  ·rename_i hA
   simp only[Option.ite_none_right_eq_some]at hr
   obtain⟨⟨h1,rfl,h3⟩,hr⟩:=hr
   rw[(Ty.beq_iff _ _).1 h1]
   exact⟨_,_,z73 hA _ h3,hr⟩
  ·cases hr
 ·cases hr
theorem y0D {A:Key→Option O} {k:Key} {l:List UInt8} (hA:A k=some (.it l 108)):
  Q2 (X0 gl0) 43 [.ptr (.g k) [] F0] A (.d .str (.str l)) [(.g k,.box (.top F0))]:=by
 intro A' Γ w args hA' hg hc hn hr
 obtain⟨cc,hok⟩:=hc
 have hs:args.size=1:=hn.symm
 obtain⟨b,adr,v,hpv,hobj,hι,hw,ha,hll,hrow,hvb,h1c,hv⟩:=z7Q cc hA' hA (hr 0 _ _ rfl (Array.getElem?_eq_getElem (by omega)))
 have ea:args=#[.pointer (some ⟨b,0,none⟩)]:=by
  apply Array.ext
  ·simpa using hs
  ·intro i h1 h2
   match i with
   |0=>simpa using hpv
   |i+1=>omega
 rw[ea]
 refine(y3s b w adr v l hw hrow hll).mono fun e w' he=>?_
 obtain⟨he1,he2,he3,he4⟩:=he
 have key:∃Γ',GLe Γ Γ'∧s6 Γ Γ'∧z8 Γ' w' {S.start [.ptr (.g k) [] F0] A' with loc:=(.g k,.box (.top F0))::(S.start [.ptr (.g k) [] F0] A').loc}:=by
  rcases he4 with h|⟨g,cap,arr,fr,h1,h2,h3,h4⟩
  ·exact cc.y14 hobj hι hw h1c he2 (by omega) none (fun g h=>by cases h) fun b2 _ _=>h b2
  ·refine cc.y14 hobj hι hw h1c he2 (by omega) (some g) (fun g' h=>?_) fun b2 _ h=>h4 b2 fun e=>h (by rw[e])
   cases h
   refine⟨?_,arr,5,fr,h2,h3⟩
   rcases hv with⟨q,_⟩|⟨g2,cap2,q,_,q3,_⟩
   ·rw[h1]at q;cases q
   ·rw[h1]at q;cases q
    exact⟨_,q3⟩
 obtain⟨Γ',g1,g2,g3⟩:=key
 refine⟨_,Γ',he1,g1,g3.congr (fun _=>rfl) (fun _=>rfl) (fun _ h=>h),?_⟩
 exact W5 hll
noncomputable def q3K (_:Nat) {R:Type}:OvG R:=fun xs A K=>match xs with
 | [.ptr (.g k) [] τ]=>(match A k with
  |some (.it l T)=>if Ty.beq τ F0=true∧T=108 then K (.d .str (.str l)) [(.g k,.box (.top F0))]else none
  |_=>none)
 |_=>none
theorem q81 (N:Nat) {R:Type}:GOk (X0 gl0) 43 (q3K N (R:=R)):=by
 intro xs A Kr r hr
 unfold q3K at hr
 split at hr
 ·split at hr
  ·rename_i hA
   simp only[Option.ite_none_right_eq_some]at hr
   obtain⟨⟨h1,rfl⟩,hr⟩:=hr
   rw[(Ty.beq_iff _ _).1 h1]
   exact⟨_,_,y0D hA,hr⟩
  ·cases hr
 ·cases hr
theorem y22 (n:Int) (h0: -9223372036854775808≤n) (h1:n≤9223372036854775807) (w:World) (htab:z4g w):
  Calls Tryd.prog 54 #[.int .i64 n,.int .i64 10] w fun e w'=>e= .returned (.string ⟨(Lib.itoa n).toArray⟩)∧∃k os,w'=grow (w.drewN k) os:=by
 have e283:∀args w,(callFunc 61 args).run Tryd.prog w= .ok (.enter 61 args) w:=enters_of Tryd.func61 (by kernel_rfl) rfl
 have e284:∀args w,(callFunc 62 args).run Tryd.prog w= .ok (.enter 62 args) w:=enters_of Tryd.func62 (by kernel_rfl) rfl
 have e285:∀args w,(callFunc 63 args).run Tryd.prog w= .ok (.enter 63 args) w:=enters_of Tryd.func63 (by kernel_rfl) rfl
 by_cases hs:0≤n∧n<100
 ·
  obtain⟨i,rfl⟩:∃i:Nat,n=i:=⟨n.toNat,by omega⟩
  have hi:i<100:=by omega
  go_enter Tryd.func54,Tryd.ntmps54
  go_wp2_with (go_at_fn 61;refine(Any.internal_strconv_small (P:=Tryd.prog) (ρ:=Tryd.J9) {Tryd.q19 with} i hi _).mono ?_;rintro e w' ⟨rfl,rfl⟩)
  go_ret
  refine⟨?_,0,#[],by simp[World.drewN_zero]⟩
  rw[Lib.itoa_nonneg]
  rfl
 ·by_cases hneg:n<0
  ·obtain⟨u,rfl⟩:∃u:Nat,n= -(u:Int):=⟨n.natAbs,by omega⟩
   have hu1:1≤u:=by omega
   have hu64:u<18446744073709551616:=by omega
   have hnd20:Lib.nDigits u≤20:=by have:=Lib.numDigits_eq u hu1 hu64;split at this <;> omega
   have hwr:u64.wrap (-u64.wrap (-(u:Int)))=(u:Int):=by rw[IntKind.wrap_u64,IntKind.wrap_u64];omega
   have hb3:Lib.nDigits u≤23:=by omega
   have hal:Tryd.prog.arrayLen 132=24:=by kernel_rfl
   have hsl1:∀W,(Instr.sliceAt 132 (.pointer (some ⟨w.heap.size,0,none⟩)) (some (.int .i64 1)) (some (.int .i64 (1+(Lib.nDigits u:Int)))) none).run Tryd.prog W= .ok (.slice (some ⟨w.heap.size,1,none⟩) (Lib.nDigits u) 23) W:=fun W=>by
    rw[run_sliceAt_array_lh W 132 ⟨w.heap.size,0,none⟩ (by kernel_rfl) .i64 .i64 1 (1+(Lib.nDigits u:Int)) (by omega) (by omega) (by rw[hal];omega)]
    go_simp
    omega
   have hH0:=Lib.holds_zero w 132 (Lib.nDigits u) (by omega)
   have hfmt:=Any.internal_strconv_formatBase10 (P:=Tryd.prog) (ρ:=Tryd.J9) {Tryd.q19 with} w.heap.size 1 23 u (Array.replicate (Lib.nDigits u) 0) (w.alloc (.cells Lib.zeros24 132)) hH0 (by rw[Array.size_replicate];exact Lib.lt_pow_nDigits u) hu64 (by rw[Array.size_replicate];omega)
   rw[Array.size_replicate]at hfmt
   have HH0:=Lib.hid hH0
   clear hH0 hal
   go_enter Tryd.func54,Tryd.ntmps54
   go_wp2_with (first
    |(go_at_fn 62;refine(z1u u hu1 hu64 _ (q7M htab _)).mono ?_;rintro e w' ⟨rfl,rfl⟩))
   go_at_fn 63
   refine hfmt.mono ?_
   rintro e w' ⟨rfl,k,v',dk,rfl,hF⟩
   have hc0:((putRow (fun(b:UInt8)=>Value.int .u8 (b.toNat:Int)) (w.alloc (.cells Lib.zeros24 132)) w.heap.size 1 dk).drewN k).cell? ⟨w.heap.size,0,none⟩=some (.int .u8 0):=by
    rw[World.cell?_drewN,cell?_putRow_other _ _ _ _ _ _ (Or.inr (Or.inl (Nat.zero_lt_one))),World.cell?_alloc_new]
    exact Lib.zeros24_at 0 (by omega)
   have hf0:((putRow (fun(b:UInt8)=>Value.int .u8 (b.toNat:Int)) (w.alloc (.cells Lib.zeros24 132)) w.heap.size 1 dk).drewN k).frozen? ⟨w.heap.size,0,none⟩=false:=by
    rw[World.frozen?_drewN,frozen?_putRow]
    exact World.frozen?_alloc_new _ _ _ _
   have hal:Tryd.prog.arrayLen 132=24:=by kernel_rfl
   have hsl2:∀W,(Instr.sliceAt 132 (.pointer (some ⟨w.heap.size,0,none⟩)) none (some (.int .i64 (1+(Lib.nDigits u:Int)))) none).run Tryd.prog W= .ok (.slice (some ⟨w.heap.size,0,none⟩) (1+Lib.nDigits u) 24) W:=fun W=>by
    rw[run_sliceAt_array_h W 132 ⟨w.heap.size,0,none⟩ (by kernel_rfl) .i64 (1+(Lib.nDigits u:Int)) (by omega) (by rw[hal];omega)]
    go_simp
    omega
   clear hal
   have hcv:(convert 54 9 (.slice (some ⟨w.heap.size,0,none⟩) (1+Lib.nDigits u) 24)).run Tryd.prog (((putRow (fun(b:UInt8)=>Value.int .u8 (b.toNat:Int)) (w.alloc (.cells Lib.zeros24 132)) w.heap.size 1 dk).drewN k).setCell ⟨w.heap.size,0,none⟩ (.int .u8 45))= .ok (.string ⟨(45::Lib.decDigits u).toArray⟩) (((putRow (fun(b:UInt8)=>Value.int .u8 (b.toNat:Int)) (w.alloc (.cells Lib.zeros24 132)) w.heap.size 1 dk).drewN k).setCell ⟨w.heap.size,0,none⟩ (.int .u8 45)):=by
    have h:=run_convert_bytes_back (P:=Tryd.prog) (((putRow (fun(b:UInt8)=>Value.int .u8 (b.toNat:Int)) (w.alloc (.cells Lib.zeros24 132)) w.heap.size 1 dk).drewN k).setCell ⟨w.heap.size,0,none⟩ (.int .u8 45)) 54 9 5 ⟨w.heap.size,0,none⟩ 24 (45::Lib.decDigits u) (by kernel_rfl) (by kernel_rfl) (by kernel_rfl) (fun j hj=>by
     rw[Lib.add_plain]
     cases j with
     |zero=>exact World.cell?_setCell_same _ _ _ hc0
     |succ i=>
      have hi:i<(Lib.decDigits u).length:=by simpa using hj
      rw[World.cell?_setCell_other _ _ _ _ (by simp),List.getElem_cons_succ,Lib.row_is_numeral hF i hi,World.cell?_drewN,show 0+(i+1)=1+i by omega]
      exact cell?_putRow (fun(b:UInt8)=>Value.int .u8 (b.toNat:Int)) _ w.heap.size 1 _ dk HH0.out (by rw[hF.size,Array.size_replicate]) i (by rw[hF.size];rw[Lib.decDigits_length]at hi;exact hi))
    rw[List.length_cons,Lib.decDigits_length,Nat.add_comm]at h
    exact h
   go_wp2
   go_ret
   obtain⟨os,eo⟩:=Lib.fin_neg w (.cells Lib.zeros24 132) dk k (.int .u8 45)
   refine⟨?_,k,os,eo⟩
   rw[Lib.itoa_neg u hu1]
   rfl
  ·obtain⟨u,rfl⟩:∃u:Nat,n=u:=⟨n.toNat,by omega⟩
   have hu1:1≤u:=by omega
   have hu64:u<18446744073709551616:=by omega
   have hnd20:Lib.nDigits u≤20:=by have:=Lib.numDigits_eq u hu1 hu64;split at this <;> omega
   have hb3:Lib.nDigits u≤23:=by omega
   have hal:Tryd.prog.arrayLen 132=24:=by kernel_rfl
   have hsl1:∀W,(Instr.sliceAt 132 (.pointer (some ⟨w.heap.size,0,none⟩)) (some (.int .i64 1)) (some (.int .i64 (1+(Lib.nDigits u:Int)))) none).run Tryd.prog W= .ok (.slice (some ⟨w.heap.size,1,none⟩) (Lib.nDigits u) 23) W:=fun W=>by
    rw[run_sliceAt_array_lh W 132 ⟨w.heap.size,0,none⟩ (by kernel_rfl) .i64 .i64 1 (1+(Lib.nDigits u:Int)) (by omega) (by omega) (by rw[hal];omega)]
    go_simp
    omega
   have hH0:=Lib.holds_zero w 132 (Lib.nDigits u) (by omega)
   have hfmt:=Any.internal_strconv_formatBase10 (P:=Tryd.prog) (ρ:=Tryd.J9) {Tryd.q19 with} w.heap.size 1 23 u (Array.replicate (Lib.nDigits u) 0) (w.alloc (.cells Lib.zeros24 132)) hH0 (by rw[Array.size_replicate];exact Lib.lt_pow_nDigits u) hu64 (by rw[Array.size_replicate];omega)
   rw[Array.size_replicate]at hfmt
   have HH0:=Lib.hid hH0
   clear hH0 hal
   go_enter Tryd.func54,Tryd.ntmps54
   go_wp2_with (first
    |(go_at_fn 62;refine(z1u u hu1 hu64 _ (q7M htab _)).mono ?_;rintro e w' ⟨rfl,rfl⟩))
   go_at_fn 63
   refine hfmt.mono ?_
   rintro e w' ⟨rfl,k,v',dk,rfl,hF⟩
   have hcv:(convert 54 9 (.slice (some ⟨w.heap.size,1,none⟩) (Lib.nDigits u) 23)).run Tryd.prog ((putRow (fun(b:UInt8)=>Value.int .u8 (b.toNat:Int)) (w.alloc (.cells Lib.zeros24 132)) w.heap.size 1 dk).drewN k)= .ok (.string ⟨(Lib.decDigits u).toArray⟩) ((putRow (fun(b:UInt8)=>Value.int .u8 (b.toNat:Int)) (w.alloc (.cells Lib.zeros24 132)) w.heap.size 1 dk).drewN k):=by
    have h:=run_convert_bytes_back (P:=Tryd.prog) ((putRow (fun(b:UInt8)=>Value.int .u8 (b.toNat:Int)) (w.alloc (.cells Lib.zeros24 132)) w.heap.size 1 dk).drewN k) 54 9 5 ⟨w.heap.size,1,none⟩ 23 (Lib.decDigits u) (by kernel_rfl) (by kernel_rfl) (by kernel_rfl) (fun j hj=>by
     rw[Lib.row_is_numeral hF j hj,Lib.add_plain,World.cell?_drewN]
     exact cell?_putRow (fun(b:UInt8)=>Value.int .u8 (b.toNat:Int)) _ w.heap.size 1 _ dk HH0.out (by rw[hF.size,Array.size_replicate]) j (by rw[hF.size];rw[Lib.decDigits_length]at hj;exact hj))
    rw[Lib.decDigits_length]at h
    exact h
   go_wp2
   go_ret
   obtain⟨os,eo⟩:=Lib.fin_pos w (.cells Lib.zeros24 132) dk k
   refine⟨?_,k,os,eo⟩
   rw[Lib.itoa_nonneg]
   rfl
def Q9 (n:Int):List UInt8:=bif decide (n<0)then 45::q3E n.natAbs else q3E n.toNat
theorem z67 (n:Int) (h0: -9223372036854775808≤n) (h1:n≤9223372036854775807):Q9 n=Lib.itoa n:=by
 unfold Q9 Lib.itoa
 by_cases h:n<0
 ·rw[decide_eq_true h,if_pos h,cond_true,q3b _ (by omega)]
 ·rw[decide_eq_false h,if_neg h,cond_false,q3b _ (by omega)]
theorem z8W (n:Int) (h0: -9223372036854775808≤n) (h1:n≤9223372036854775807):(Lib.itoa n).length≤21:=by
 unfold Lib.itoa
 split
 ·have:=q3F n.natAbs (by omega)
  simp;omega
 ·have:=q3F n.toNat (by omega)
  omega
theorem y0i (A:Key→Option O) (c:C):Q2 (X0 gl0) 54 [.d (.int .i64) c,.d (.int .i64) (.int 10)] A (.d .str (.str (Q9 c.toInt))) []:=by
 intro A' Γ w args hA' hg hc hn hr
 obtain⟨cc,hok⟩:=hc
 have hs:args.size=2:=hn.symm
 obtain⟨e1,_,h1,h2⟩:=j4 (hr 0 _ _ rfl (Array.getElem?_eq_getElem (by omega)))
 obtain⟨e2,_,_,_⟩:=j4 (hr 1 _ _ rfl (Array.getElem?_eq_getElem (by omega)))
 have m1:i64.min= -9223372036854775808:=by decide
 have m2:i64.max=9223372036854775807:=by decide
 have ea:args=#[.int .i64 c.toInt,.int .i64 10]:=by
  apply Array.ext
  ·simpa using hs
  ·intro i h1 h2
   match i with
   |0=>simpa using e1
   |1=>simpa[C.toInt]using e2
   |i+2=>omega
 rw[ea]
 refine(y22 c.toInt (by omega) (by omega) w (z8G cc (by rw[hg];rfl))).mono fun e w' he=>?_
 obtain⟨he1,k,os,he2⟩:=he
 subst he2
 refine⟨_,Γ,he1,.refl Γ,(cc.ext (z7l w k os)).congr (fun _=>rfl) (fun _=>rfl) (fun _ h=>h),?_⟩
 have:=z8W c.toInt (by omega) (by omega)
 rw[z67 _ (by omega) (by omega)]
 exact W5 (by omega)
noncomputable def q9N (_:Nat) {R:Type}:OvG R:=fun xs _ K=>match xs with
 | [.d (.int .i64) c,.d (.int .i64) (.int b)]=>if b=10 then K (.d .str (.str (Q9 c.toInt))) []else none
 |_=>none
theorem z3W (N:Nat) {R:Type}:GOk (X0 gl0) 54 (q9N N (R:=R)):=by
 intro xs A Kr r hr
 unfold q9N at hr
 split at hr
 ·rename_i c b
  by_cases hb:b=10
  ·subst hb
   exact⟨_,_,y0i A c,by simpa using hr⟩
  ·rw[if_neg hb]at hr;cases hr
 ·cases hr
set_option maxHeartbeats 4000000
def q1p (sep:List UInt8):List (List UInt8)→List UInt8
 | []=>[]
 |x::l=>match l with
  | []=>x
  |_::_=>x++sep++q1p sep l
theorem z1E (sep:List UInt8):∀l:List (List UInt8),q1p sep l=Lib.join l sep
 | []=>rfl
 | [x]=>by rw[Lib.join_one];rfl
 |x::y::l=>by
  have ih:=z1E sep (y::l)
  rw[Lib.join_cons]at ih ⊢
  rw[Lib.joinTail,List.map_cons,List.flatten_cons,List.append_assoc,←Lib.joinTail]
  show x++sep++q1p sep (y::l)=_
  rw[ih,List.append_assoc]
theorem y1E {w w':World} (h:Below w.heap.size w w'):Ext w w':=⟨h.size,fun b hb=>h.block b hb,by unfold oof;rw[h.os,h.output]⟩
theorem y1q (a:Option Addr) (cap:Nat) (s:ByteArray) (w:World):Calls Tryd.prog 40 #[.slice a 0 cap,.string s] w fun e w'=>e= .returned (.string ⟨#[]⟩)∧w'=w:=by
 go_enter Tryd.func40,Tryd.ntmps40
 go_wp2
 go_ret
 exact⟨rfl,rfl⟩
theorem z95 (A:Key→Option O) (c s:C) (hl:(q1p s.toStr (c.elems.map C.toStr)).length≤140737488355328):
  Q2 (X0 gl0) 40 [.d (.slice 16 .str) c,.d .str s] A (.d .str (.str (q1p s.toStr (c.elems.map C.toStr)))) []:=by
 intro A' Γ w args hA' hg hc hn hr
 obtain⟨cc,hok⟩:=hc
 have hs:args.size=2:=hn.symm
 have r0:=hr 0 _ _ rfl (Array.getElem?_eq_getElem (by omega))
 obtain⟨e2,_,_⟩:=F2 (hr 1 _ _ rfl (Array.getElem?_eq_getElem (by omega)))
 obtain⟨r1,r2⟩:=Q0.1 r0
 rw[x6 (by simpa[Ty.isAgg]using r2)]at r1
 obtain⟨a,n,cap,e1,_,hlen,hcap,_,_,hrow⟩:=X8 r1
 by_cases h0:n=0
 ·subst h0
  have ea:args=#[.slice a 0 cap,.string ⟨s.toStr.toArray⟩]:=by
   apply Array.ext
   ·simpa using hs
   ·intro i h1 h2
    match i with
    |0=>simpa using e1
    |1=>simpa using e2
    |i+2=>omega
  have hce:c.elems=[]:=List.eq_nil_of_length_eq_zero hlen
  rw[ea]
  refine(y1q a cap ⟨s.toStr.toArray⟩ w).mono fun e w' he=>?_
  obtain⟨he1,rfl⟩:=he
  refine⟨_,Γ,he1,.refl Γ,cc.congr (fun _=>rfl) (fun _=>rfl) (fun _ h=>h),?_⟩
  rw[hce]
  exact W5 (l:=[]) (by simp)
 rcases hrow with h|⟨b,off,l,rfl,hH,hb,hcs⟩
 ·omega
 obtain⟨arr,T,fr,r,q1,q2⟩:=cc.hH b l hH
 have ea:args=#[.slice (some ⟨b,off,none⟩) n cap,.string ⟨s.toStr.toArray⟩]:=by
  apply Array.ext
  ·simpa using hs
  ·intro i h1 h2
   match i with
   |0=>simpa using e1
   |1=>simpa using e2
   |i+2=>omega
 have hx:(c.elems.map fun x=>(⟨x.toStr.toArray⟩:ByteArray)).length=n:=by simpa using hlen
 have hm:((c.elems.map fun x=>(⟨x.toStr.toArray⟩:ByteArray)).map (·.data.toList))=c.elems.map C.toStr:=by simp[List.map_map,Function.comp_def]
 have hcells:∀(j:Nat) x,(c.elems.map fun x=>(⟨x.toStr.toArray⟩:ByteArray))[j]? =some x→w.cell? ⟨b,off+j,none⟩=some (.string x):=by
  intro j x hj
  rw[List.getElem?_map]at hj
  cases hc:c.elems[j]? with
  |none=>rw[hc]at hj;cases hj
  |some y=>
   rw[hc]at hj
   simp only[Option.map_some,Option.some.injEq]at hj
   have h1:=hcs j y hc
   have hjn:j<n:=by have:=(List.getElem?_eq_some_iff.1 hc).1;omega
   simp only[z7,Ty.size,Nat.mul_one]at h1 hb
   obtain⟨t,e3,e4,_⟩:=h1
   have h2:(chunk l (off+j) 1)[0]? =some (.string ⟨t.toArray⟩):=by first|rw[e4];rfl|rw[e3];rfl
   have h3:l[off+j]? =some (.string ⟨t.toArray⟩):=by
    simp only[chunk,List.getElem?_take,List.getElem?_drop]at h2
    simpa using h2
   have h4:y.toStr=t:=by first|(rw[e3];rfl)|(rw[e4];rfl)
   unfold World.cell?
   simp only[q1]
   have h5:arr[off+j]? =some (.string ⟨t.toArray⟩):=by
    rw[←Array.getElem?_toList,q2,List.getElem?_append_left (by omega)]
    exact h3
   rw[←hj,h4]
   simpa using h5
 have run:=Tryd.strings_Join b off cap (c.elems.map fun x=>(⟨x.toStr.toArray⟩:ByteArray)) ⟨s.toStr.toArray⟩ w hcells (j5 q1) (by rw[hx];simp only[Ty.size]at*;omega) (by rw[hx];exact hcap) (by rw[hm,←z1E];exact hl)
 rw[hx,hm]at run
 rw[ea]
 refine run.mono fun e w' he=>?_
 obtain⟨he1,he2⟩:=he
 refine⟨_,Γ,he1,.refl Γ,(cc.ext (y1E he2)).congr (fun _=>rfl) (fun _=>rfl) (fun _ h=>h),?_⟩
 rw[z1E]at hl ⊢
 exact W5 hl
noncomputable def q5t (_:Nat) {R:Type}:OvG R:=fun xs _ K=>match xs with
 | [.d (.slice 16 .str) c,.d .str s]=>if(q1p s.toStr (c.elems.map C.toStr)).length≤140737488355328 then K (.d .str (.str (q1p s.toStr (c.elems.map C.toStr)))) []else none
 |_=>none
theorem z0R (N:Nat) {R:Type}:GOk (X0 gl0) 40 (q5t N (R:=R)):=by
 intro xs A Kr r hr
 unfold q5t at hr
 split at hr
 ·simp only[Option.ite_none_right_eq_some]at hr
  obtain⟨h2,hr⟩:=hr
  exact⟨_,_,z95 A _ _ h2,hr⟩
 ·cases hr
open Go Go.E
set_option linter.unusedVariables false
noncomputable def z1p:Hints:=[([0,1,1],⟨[],[(0,.d (.int .u64)),(3,.d .str)],[],[],[],[]⟩),
  ([4,0,1,1],⟨[],[(0,.d (.int .u64)),(3,.d .str)],[],[],[],[]⟩),
  ([9],⟨[],[(2,.d .str)],[],[],[],[]⟩)]
noncomputable def q5U (N:Nat):OvS (X0 gl0) where
 g R:=[]
 ok:=fun R=>fun _ h=>nomatch h
noncomputable def q1l {R:Type} (N:Nat) (k2:KD R):KD R→List C→List Es→Option R:=(fun k3 d1 m1=>(bif decide (9<C.toInt (dk d1 0))then(if 1+List.length (C.toStr (dk d1 1))≤140737488355328 then(k3 [C.int (wrap u64 (Int.tdiv (C.toInt (dk d1 0)) 10)),C.str ([{toBitVec:={toFin:=⟨Int.toNat (wrap u8 (wrap u64 (48+Int.tmod (C.toInt (dk d1 0)) 10)))%256,Nat.mod_lt (Int.toNat (C.toInt (C.int (wrap u8 (wrap u64 (48+Int.tmod (C.toInt (dk d1 0)) 10)))))) (BitVec.ofNat._proof_1 8)⟩}}]++C.toStr (dk d1 1))] [])else none)else(k2 [dk d1 0,dk d1 1] [])))
noncomputable def q1k {R:Type} (N:Nat) (a0:C) (k1:KD R):Option R:=(jn (fun d1 m1=>(if 1+List.length (C.toStr (dk d1 1))≤140737488355328 then(k1 [C.str ([{toBitVec:={toFin:=⟨Int.toNat (wrap u8 (wrap u64 (48+C.toInt (dk d1 0))))%256,Nat.mod_lt (Int.toNat (C.toInt (C.int (wrap u8 (wrap u64 (48+C.toInt (dk d1 0))))))) (BitVec.ofNat._proof_1 8)⟩}}]++C.toStr (dk d1 1))] [])else none)) (fun k2=>(Y1 N (q1l N k2) [a0,C.str []] [])))
noncomputable def H6 {R:Type} (N:Nat):C→KD R→Option R:=lid "" (q1k N)
theorem q5T {R:Type} (N:Nat) (a0:C) (k:KD R):H6 N a0 k=q1k N a0 k:=by unfold H6;rw[Z8]
theorem z0D {R:Type} (N:Nat) (a0:C) (K:V→List (Key × O)→Option R):exF (X0 gl0) ((q5U N).ov R) q0e noX (fun f=>bif Nat.beq f 44 then z1p else[]) N 400 8 44 [.d (.int .u64) a0] A0 K=
  H6 N a0 (fun d1 m1=>K (V.d Ty.str (dk d1 0)) []):=by
 rw[q5T]
 exact(show _=jn (fun d1 m1=>(K (V.d Ty.str (dk d1 0)) [])) (q1k N a0) by kernel_rfl).trans (p9 _ _)
noncomputable def q3p (N:Nat) {R:Type}:OvG R:=fun xs _ K=>match xs with
 | [.d t0 a0]=>if t0=(.int .u64)then H6 N a0 (fun d1 m1=>K (V.d Ty.str (dk d1 0)) [])else none
 |_=>none
theorem okB {R:Type} (o:OvS (X0 gl0)) {tb hs N n d f xs} {A:Key→Option O} {K:V→List (Key × O)→Option R} {r} (h:exF (X0 gl0) (o.ov R) q0e tb hs N n d f xs A K=some r):∃v L,Q2 (X0 gl0) f xs A v L∧K v L=some r:=y1F (ok0 gl0) (mo gl0) (o.y6f _) (y4x gl0) _ _ _ _ _ _ h
theorem okA {R:Type} (o:OvS (X0 gl0)) {tb hs N n d f xs} {A:Key→Option O} {K:V→List (Key × O)→Option R} {r} (h:exF (X0 gl0) (o.ov R) q0e tb hs N n d f xs A0 K=some r):∃v L,Q2 (X0 gl0) f xs A v L∧K v L=some r:=let ⟨v,L,h1,h2⟩:=okB o h
 ⟨v,L,h1.mono (y2Q fun _=>rfl),h2⟩
theorem z1o (N:Nat) {R:Type}:GOk (X0 gl0) 44 (q3p N (R:=R)):=by
 intro xs A Kr r hr
 unfold q3p at hr
 split at hr
 ·simp only[Option.ite_none_right_eq_some]at hr
  obtain⟨hty,hr⟩:=hr
  subst hty
  rw[←z0D]at hr
  exact okA (q5U N) hr
 ·cases hr
end Go.Proofs.YtoademomlabgnaaDoor
namespace Go.Proofs.YtoademomlabgnaaDoor
open Go Go.E
open Go.IntKind (wrap u64 u32 u8 i64 i32)
set_option maxRecDepth 100000
set_option maxHeartbeats 4000000
set_option linter.unusedSimpArgs false
variable {R:Type} {N:Nat}
theorem z7D (k2:KD R) (N0:Nat):∀(f n:Nat) (s:List UInt8) (M:Nat),n<10^(f+1)→n<18446744073709551616→s.length+f≤100→
  ∃a t,a<10∧Lib.decDigits n=UInt8.ofNat (48+a)::t∧t.length≤f∧Y1 (M+f+1) (q1l N0 k2) [.int (n:Int),.str s] []=k2 [.int (a:Int),.str (t++s)] []
 |f,n,s,M,h,h2,hs=>by
  rw[q5q]
  by_cases hn:n<10
  ·refine⟨n,[],hn,Lib.decDigits_one hn,Nat.zero_le _,?_⟩
   unfold q1l
   have h9:¬((9:Int)<(n:Int)):=by omega
   simp only[go_sem,x5,x8,h9,decide_false,cond_false,List.nil_append]
  ·cases f with
   |zero=>omega
   |succ f=>
    have h':n / 10<10^(f+1):=by rw[Nat.pow_succ]at h;omega
    obtain⟨a,t,ha,hd,ht,hl⟩:=z7D k2 N0 f (n / 10) (UInt8.ofNat (48+n%10)::s) M h' (by omega) (by simp only[List.length_cons];omega)
    refine⟨a,t++[UInt8.ofNat (48+n%10)],ha,?_,?_,?_⟩
    ·rw[Lib.decDigits,dif_neg hn,hd];rfl
    ·simp only[List.length_append,List.length_cons,List.length_nil];omega
    ·rw[List.append_assoc,List.singleton_append,←hl]
     have h9:((9:Int)<(n:Int)):=by omega
     have e1:u64.wrap (Int.tdiv (n:Int) 10)=((n / 10:Nat):Int):=by
      rw[Int.tdiv_eq_ediv_of_nonneg (by omega),IntKind.wrap_u64];omega
     have e2:(wrap u8 (wrap u64 (48+Int.tmod (n:Int) 10))).toNat=48+n%10:=by
      rw[Int.tmod_eq_emod_of_nonneg (by omega),IntKind.wrap_u64,wrap_u8];omega
     unfold q1l
     simp only[go_sem,x5,x8,h9,decide_true,cond_true]
     rw[if_pos (by omega),e1]
     show Y1 (M+(f+1)) _ [C.int _,C.str (UInt8.ofNat ((wrap u8 (wrap u64 (48+Int.tmod (n:Int) 10))).toNat)::s)] []=_
     rw[e2]
     rfl
theorem y0N (n:Nat) (h:n<18446744073709551616) (hN:100<N) (k:KD R):H6 N (.int (n:Int)) k=k [.str (q3E n)] []:=by
 rw[q5T]
 unfold q1k
 simp only[p9]
 obtain⟨M,rfl⟩:∃M,N=M+19+1:=⟨N-20,by omega⟩
 obtain⟨a,t,ha,hd,ht,hl⟩:=z7D (R:=R) _ (M+19+1) 19 n [] M (Nat.lt_of_lt_of_le h (by decide)) h (by simp)
 rw[hl]
 simp only[go_sem,x5,x8,List.append_nil]
 rw[if_pos (by omega),q3b n h,hd]
 have e2:(wrap u8 (wrap u64 (48+(a:Int)))).toNat=48+a:=by rw[IntKind.wrap_u64,wrap_u8];omega
 show k [C.str (UInt8.ofNat ((wrap u8 (wrap u64 (48+(a:Int)))).toNat)::t)] []=_
 rw[e2]
def y2m (l:List UInt8):Nat:=l.foldl (fun a c=>a*10+(c.toNat-48)) 0
theorem z8D (n:Nat):y2m (Lib.decDigits n)=n:=by
 induction n using Nat.strongRecOn with
 |_ n ih=>
  by_cases h:n<10
  ·rw[Lib.decDigits_one h]
   unfold y2m
   simp only[List.foldl_cons,List.foldl_nil,UInt8.toNat_ofNat']
   omega
  ·rw[Lib.decDigits,dif_neg h]
   have:=ih (n / 10) (by omega)
   unfold y2m at this ⊢
   rw[List.foldl_append,this]
   simp only[List.foldl_cons,List.foldl_nil,UInt8.toNat_ofNat']
   omega
theorem z1N {n m:Nat} (hn:n<18446744073709551616) (hm:m<18446744073709551616) (h:q3E n=q3E m):n=m:=by
 rw[q3b n hn,q3b m hm]at h
 rw[←z8D n,h,z8D]
theorem y0v (n:Nat):∀c∈Lib.decDigits n,48≤c.toNat∧c.toNat≤57:=by
 induction n using Nat.strongRecOn with
 |_ n ih=>
  rw[Lib.decDigits]
  by_cases h:n<10
  ·rw[dif_pos h]
   intro c hc
   rw[List.mem_singleton.1 hc,UInt8.toNat_ofNat'];omega
  ·rw[dif_neg h]
   intro c hc
   rcases List.mem_append.1 hc with hc|hc
   ·exact ih (n / 10) (by omega) c hc
   ·rw[List.mem_singleton.1 hc,UInt8.toNat_ofNat'];omega
theorem q8s {n:Nat} (h:n<18446744073709551616):∀c∈q3E n,48≤c.toNat∧c.toNat≤57:=by rw[q3b n h];exact y0v n
theorem z9g {n:Nat} (h:n<18446744073709551616):(q3E n).length≤20:=by rw[q3b n h];exact q3F n h
end Go.Proofs.YtoademomlabgnaaDoor
namespace Go.Proofs.YtoademomlabgnaaDoor
open Go Go.E
open Go.IntKind (wrap u64 u32 u8 i64 i32)
set_option maxRecDepth 100000
set_option maxHeartbeats 4000000
set_option linter.unusedVariables false
noncomputable def z48:Hints:=[([1,0,1,1],⟨[],[(3,.sl 16 .str 5003)],[],[],[],[]⟩),
  ([4,1,0,1,1],⟨[6,7],[(3,.sl 16 .str 5003),(8,.d (.int .i64))],[],[],[],[]⟩),
  ([9],⟨[],[(2,.d .str)],[],[],[],[]⟩)]
noncomputable def q8H (N:Nat):OvS (X0 gl0) where
 g R:=[(53,z2M N),(40,q5t N)]
 ok:=fun R=>List.forall_mem_cons.2 ⟨z84 N,List.forall_mem_cons.2 ⟨z0R N,fun _ h=>nomatch h⟩⟩
noncomputable def q2N {R:Type} (N:Nat) (k2:KD R):KD R→List C→List Es→Option R:=(fun k3 d1 m1=>(bif decide (C.toInt (dk d1 3)<C.toInt (dk d1 1))then(if 0≤C.toInt (dk d1 3)∧C.toInt (dk d1 3)<(↑(List.length (C.elems (dk d1 0))):Int)then(bif Nat.beq (List.length (C.elems (dk d1 2))) (List.length (C.elems (dk d1 2)))then(if(List.length (C.elems (dk d1 2))+1)*16≤140737488355328∧List.length (C.elems (dk d1 2))+1≤9223372036854775807 then(bif Nat.beq (List.length (C.elems (dk d1 2))+1) (List.length (C.elems (dk d1 2)++[C.str (q3E (Int.toNat (C.toInt (List.getD (C.elems (dk d1 0)) (Int.toNat (C.toInt (dk d1 3))) C.nil))))]))then(k3 [dk d1 0,dk d1 1,C.slice (C.elems (dk d1 2)++[C.str (q3E (Int.toNat (C.toInt (List.getD (C.elems (dk d1 0)) (Int.toNat (C.toInt (dk d1 3))) C.nil))))]),C.int (wrap i64 (C.toInt (dk d1 3)+1))] [])else none)else none)else none)else none)else(bif Nat.beq (List.length (C.elems (dk d1 2))) (List.length (C.elems (dk d1 2)))then(k2 [C.slice (C.elems (dk d1 2))] [])else none)))
noncomputable def q2M {R:Type} (N:Nat) (a0:C) (k1:KD R):Option R:=(jn (fun d1 m1=>(if List.length (q1p [UInt8.ofNat 32] (List.map (fun x=>match x with|C.str l=>l|x=>[]) (C.elems (dk d1 0))))≤140737488355328 then(k1 [C.str (q1p [UInt8.ofNat 32] (List.map (fun x=>match x with|C.str l=>l|x=>[]) (C.elems (dk d1 0))))] [])else none)) (fun k2=>(Y1 N (q2N N k2) [a0,C.int (↑(List.length (C.elems a0)):Int),C.slice [],C.int 0] [])))
noncomputable def k8 {R:Type} (N:Nat):C→KD R→Option R:=lid "" (q2M N)
theorem q8G {R:Type} (N:Nat) (a0:C) (k:KD R):k8 N a0 k=q2M N a0 k:=by unfold k8;rw[Z8]
theorem z3x {R:Type} (N:Nat) (a0:C) (K:V→List (Key × O)→Option R):exF (X0 gl0) ((q8H N).ov R) q0e noX (fun f=>bif Nat.beq f 23 then z48 else[]) N 400 8 23 [.d (.slice 8 (.int .u64)) a0] A0 K=
  k8 N a0 (fun d1 m1=>K (V.d Ty.str (dk d1 0)) []):=by
 rw[q8G]
 exact(show _=jn (fun d1 m1=>(K (V.d Ty.str (dk d1 0)) [])) (q2M N a0) by kernel_rfl).trans (p9 _ _)
noncomputable def q3k (N:Nat) {R:Type}:OvG R:=fun xs _ K=>match xs with
 | [.d t0 a0]=>if t0=(.slice 8 (.int .u64))then k8 N a0 (fun d1 m1=>K (V.d Ty.str (dk d1 0)) [])else none
 |_=>none
theorem q8I (N:Nat) {R:Type}:GOk (X0 gl0) 23 (q3k N (R:=R)):=by
 intro xs A Kr r hr
 unfold q3k at hr
 split at hr
 ·simp only[Option.ite_none_right_eq_some]at hr
  obtain⟨hty,hr⟩:=hr
  subst hty
  rw[←z3x]at hr
  exact okA (q8H N) hr
 ·cases hr
noncomputable def z2b:Hints:=[([1,0,1,1],⟨[3],[],[],[],[],[]⟩),
  ([4,1,0,1,1],⟨[3,6,7],[(8,.d (.int .i64))],[],[],[],[]⟩),
  ([9],⟨[],[(2,.d .str)],[],[],[],[]⟩)]
noncomputable def q6p (N:Nat):OvS (X0 gl0) where
 g R:=[(42,q1V N),(43,q3K N)]
 ok:=fun R=>List.forall_mem_cons.2 ⟨q6c N,List.forall_mem_cons.2 ⟨q81 N,fun _ h=>nomatch h⟩⟩
noncomputable def q1Q {R:Type} (N:Nat) (k2:KD R):KD R→List C→List Es→Option R:=(fun k3 d1 m1=>(bif decide (C.toInt (dk d1 2)<C.toInt (dk d1 1))then(if 0≤C.toInt (dk d1 2)∧C.toInt (dk d1 2)<(↑(List.length (C.elems (dk d1 0))):Int)then(if 0≤Int.fdiv (C.toInt (List.getD (C.elems (dk d1 0)) (Int.toNat (C.toInt (dk d1 2))) C.nil)) (2^min (Int.toNat 4) 8)∧Int.fdiv (C.toInt (List.getD (C.elems (dk d1 0)) (Int.toNat (C.toInt (dk d1 2))) C.nil)) (2^min (Int.toNat 4) 8)<(↑16:Int)then(if true=true∧Int.toNat (C.toInt (dk d1 4))=108∧List.length (C.toStr (dk d1 3))+1≤140737488355328 then(if 0≤q8x BinOp.and u8 (C.toInt (List.getD (C.elems (dk d1 0)) (Int.toNat (C.toInt (dk d1 2))) C.nil)) 15∧q8x BinOp.and u8 (C.toInt (List.getD (C.elems (dk d1 0)) (Int.toNat (C.toInt (dk d1 2))) C.nil)) 15<(↑16:Int)then(if true=true∧108=108∧List.length (C.toStr (dk d1 3)++[{toBitVec:={toFin:=⟨Int.toNat (↑(UInt8.toNat (List.getD [UInt8.ofNat 48,UInt8.ofNat 49,UInt8.ofNat 50,UInt8.ofNat 51,UInt8.ofNat 52,UInt8.ofNat 53,UInt8.ofNat 54,UInt8.ofNat 55,UInt8.ofNat 56,UInt8.ofNat 57,UInt8.ofNat 97,UInt8.ofNat 98,UInt8.ofNat 99,UInt8.ofNat 100,UInt8.ofNat 101,UInt8.ofNat 102] (Int.toNat (Int.fdiv (C.toInt (List.getD (C.elems (dk d1 0)) (Int.toNat (C.toInt (dk d1 2))) C.nil)) (2^min (Int.toNat 4) 8))) (UInt8.ofNat 0))):Int)%256,Nat.mod_lt (Int.toNat (C.toInt (C.int (↑(UInt8.toNat (List.getD [UInt8.ofNat 48,UInt8.ofNat 49,UInt8.ofNat 50,UInt8.ofNat 51,UInt8.ofNat 52,UInt8.ofNat 53,UInt8.ofNat 54,UInt8.ofNat 55,UInt8.ofNat 56,UInt8.ofNat 57,UInt8.ofNat 97,UInt8.ofNat 98,UInt8.ofNat 99,UInt8.ofNat 100,UInt8.ofNat 101,UInt8.ofNat 102] (Int.toNat (Int.fdiv (C.toInt (List.getD (C.elems (dk d1 0)) (Int.toNat (C.toInt (dk d1 2))) C.nil)) (2^min (Int.toNat 4) 8))) (UInt8.ofNat 0))):Int)))) (BitVec.ofNat._proof_1 8)⟩}}])+1≤140737488355328 then(k3 [dk d1 0,dk d1 1,C.int (wrap i64 (C.toInt (dk d1 2)+1)),C.str (C.toStr (dk d1 3)++[{toBitVec:={toFin:=⟨Int.toNat (↑(UInt8.toNat (List.getD [UInt8.ofNat 48,UInt8.ofNat 49,UInt8.ofNat 50,UInt8.ofNat 51,UInt8.ofNat 52,UInt8.ofNat 53,UInt8.ofNat 54,UInt8.ofNat 55,UInt8.ofNat 56,UInt8.ofNat 57,UInt8.ofNat 97,UInt8.ofNat 98,UInt8.ofNat 99,UInt8.ofNat 100,UInt8.ofNat 101,UInt8.ofNat 102] (Int.toNat (Int.fdiv (C.toInt (List.getD (C.elems (dk d1 0)) (Int.toNat (C.toInt (dk d1 2))) C.nil)) (2^min (Int.toNat 4) 8))) (UInt8.ofNat 0))):Int)%256,Nat.mod_lt (Int.toNat (C.toInt (C.int (↑(UInt8.toNat (List.getD [UInt8.ofNat 48,UInt8.ofNat 49,UInt8.ofNat 50,UInt8.ofNat 51,UInt8.ofNat 52,UInt8.ofNat 53,UInt8.ofNat 54,UInt8.ofNat 55,UInt8.ofNat 56,UInt8.ofNat 57,UInt8.ofNat 97,UInt8.ofNat 98,UInt8.ofNat 99,UInt8.ofNat 100,UInt8.ofNat 101,UInt8.ofNat 102] (Int.toNat (Int.fdiv (C.toInt (List.getD (C.elems (dk d1 0)) (Int.toNat (C.toInt (dk d1 2))) C.nil)) (2^min (Int.toNat 4) 8))) (UInt8.ofNat 0))):Int)))) (BitVec.ofNat._proof_1 8)⟩}}]++[{toBitVec:={toFin:=⟨Int.toNat (↑(UInt8.toNat (List.getD [UInt8.ofNat 48,UInt8.ofNat 49,UInt8.ofNat 50,UInt8.ofNat 51,UInt8.ofNat 52,UInt8.ofNat 53,UInt8.ofNat 54,UInt8.ofNat 55,UInt8.ofNat 56,UInt8.ofNat 57,UInt8.ofNat 97,UInt8.ofNat 98,UInt8.ofNat 99,UInt8.ofNat 100,UInt8.ofNat 101,UInt8.ofNat 102] (Int.toNat (q8x BinOp.and u8 (C.toInt (List.getD (C.elems (dk d1 0)) (Int.toNat (C.toInt (dk d1 2))) C.nil)) 15)) (UInt8.ofNat 0))):Int)%256,Nat.mod_lt (Int.toNat (C.toInt (C.int (↑(UInt8.toNat (List.getD [UInt8.ofNat 48,UInt8.ofNat 49,UInt8.ofNat 50,UInt8.ofNat 51,UInt8.ofNat 52,UInt8.ofNat 53,UInt8.ofNat 54,UInt8.ofNat 55,UInt8.ofNat 56,UInt8.ofNat 57,UInt8.ofNat 97,UInt8.ofNat 98,UInt8.ofNat 99,UInt8.ofNat 100,UInt8.ofNat 101,UInt8.ofNat 102] (Int.toNat (q8x BinOp.and u8 (C.toInt (List.getD (C.elems (dk d1 0)) (Int.toNat (C.toInt (dk d1 2))) C.nil)) 15)) (UInt8.ofNat 0))):Int)))) (BitVec.ofNat._proof_1 8)⟩}}]),C.int 108] [])else none)else none)else none)else none)else none)else(k2 [C.str (C.toStr (dk d1 3)),C.int (↑(Int.toNat (C.toInt (dk d1 4))):Int)] [])))
noncomputable def q1P {R:Type} (N:Nat) (a0:C) (k1:KD R):Option R:=(jn (fun d1 m1=>(if true=true∧Int.toNat (C.toInt (dk d1 1))=108 then(k1 [C.str (C.toStr (dk d1 0))] [])else none)) (fun k2=>(Y1 N (q1Q N k2) [C.slice (cut (C.elems a0) 0 4),C.int (↑(List.length (cut (C.elems a0) 0 4)):Int),C.int 0,C.str [],C.int 108] [])))
noncomputable def J0 {R:Type} (N:Nat):C→KD R→Option R:=lid "" (q1P N)
theorem q6o {R:Type} (N:Nat) (a0:C) (k:KD R):J0 N a0 k=q1P N a0 k:=by unfold J0;rw[Z8]
theorem z1j {R:Type} (N:Nat) (a0:C) (K:V→List (Key × O)→Option R):exF (X0 gl0) ((q6p N).ov R) q0e (fun f r=>bif Nat.beq f 25 then(bif Nat.beq r 0 then[(1,5)]else[])else[]) (fun f=>bif Nat.beq f 25 then z2b else[]) N 400 8 25 [.d (.arr 32 (.int .u8)) a0] A0 K=
  J0 N a0 (fun d1 m1=>K (V.d Ty.str (dk d1 0)) []):=by
 rw[q6o]
 exact(show _=jn (fun d1 m1=>(K (V.d Ty.str (dk d1 0)) [])) (q1P N a0) by kernel_rfl).trans (p9 _ _)
noncomputable def q2m (N:Nat) {R:Type}:OvG R:=fun xs _ K=>match xs with
 | [.d t0 a0]=>if t0=(.arr 32 (.int .u8))then J0 N a0 (fun d1 m1=>K (V.d Ty.str (dk d1 0)) [])else none
 |_=>none
theorem q6q (N:Nat) {R:Type}:GOk (X0 gl0) 25 (q2m N (R:=R)):=by
 intro xs A Kr r hr
 unfold q2m at hr
 split at hr
 ·simp only[Option.ite_none_right_eq_some]at hr
  obtain⟨hty,hr⟩:=hr
  subst hty
  rw[←z1j]at hr
  exact okA (q6p N) hr
 ·cases hr
noncomputable def z6j:Hints:=[([9],⟨[],[(2,.d .str)],[],[],[],[]⟩)]
noncomputable def q9s (N:Nat):OvS (X0 gl0) where
 g R:=[(44,q3p N)]
 ok:=fun R=>List.forall_mem_cons.2 ⟨z1o N,fun _ h=>nomatch h⟩
noncomputable def q3n {R:Type} (N:Nat) (a0:C) (k1:KD R):Option R:=(H6 N a0 (fun d1 m1=>(k1 [dk d1 0] [])))
noncomputable def r7 {R:Type} (N:Nat):C→KD R→Option R:=lid "" (q3n N)
theorem q9r {R:Type} (N:Nat) (a0:C) (k:KD R):r7 N a0 k=q3n N a0 k:=by unfold r7;rw[Z8]
theorem z5d {R:Type} (N:Nat) (a0:C) (K:V→List (Key × O)→Option R):exF (X0 gl0) ((q9s N).ov R) q0e noX (fun f=>bif Nat.beq f 27 then z6j else[]) N 400 8 27 [.d (.int .u64) a0] A0 K=
  r7 N a0 (fun d1 m1=>K (V.d Ty.str (dk d1 0)) []):=by
 rw[q9r]
 exact(show _=jn (fun d1 m1=>(K (V.d Ty.str (dk d1 0)) [])) (q3n N a0) by kernel_rfl).trans (p9 _ _)
noncomputable def q0S (N:Nat) {R:Type}:OvG R:=fun xs _ K=>match xs with
 | [.d t0 a0]=>if t0=(.int .u64)then r7 N a0 (fun d1 m1=>K (V.d Ty.str (dk d1 0)) [])else none
 |_=>none
theorem q12 (N:Nat) {R:Type}:GOk (X0 gl0) 27 (q0S N (R:=R)):=by
 intro xs A Kr r hr
 unfold q0S at hr
 split at hr
 ·simp only[Option.ite_none_right_eq_some]at hr
  obtain⟨hty,hr⟩:=hr
  subst hty
  rw[←z5d]at hr
  exact okA (q9s N) hr
 ·cases hr
noncomputable def z6k:Hints:=[([9],⟨[],[(2,.d .str)],[],[],[],[]⟩)]
noncomputable def q9u (N:Nat):OvS (X0 gl0) where
 g R:=[(27,q0S N)]
 ok:=fun R=>List.forall_mem_cons.2 ⟨q12 N,fun _ h=>nomatch h⟩
noncomputable def q3o {R:Type} (N:Nat) (a0:C) (k1:KD R):Option R:=(bif decide (C.toInt a0<0)then(r7 N (C.int (wrap u64 (wrap u64 (wrap i64 (0-wrap i64 (C.toInt a0+1)))+1))) (fun d1 m1=>(if 1+List.length (C.toStr (dk d1 0))≤140737488355328 then(k1 [C.str ([UInt8.ofNat 45]++C.toStr (dk d1 0))] [])else none)))else(r7 N (C.int (wrap u64 (C.toInt a0))) (fun d1 m1=>(k1 [dk d1 0] []))))
noncomputable def q0T {R:Type} (N:Nat):C→KD R→Option R:=lid "" (q3o N)
theorem q9t {R:Type} (N:Nat) (a0:C) (k:KD R):q0T N a0 k=q3o N a0 k:=by unfold q0T;rw[Z8]
theorem z5e {R:Type} (N:Nat) (a0:C) (K:V→List (Key × O)→Option R):exF (X0 gl0) ((q9u N).ov R) q0e noX (fun f=>bif Nat.beq f 32 then z6k else[]) N 400 8 32 [.d (.int .i64) a0] A0 K=
  q0T N a0 (fun d1 m1=>K (V.d Ty.str (dk d1 0)) []):=by
 rw[q9t]
 exact(show _=jn (fun d1 m1=>(K (V.d Ty.str (dk d1 0)) [])) (q3o N a0) by kernel_rfl).trans (p9 _ _)
noncomputable def q4n (N:Nat) {R:Type}:OvG R:=fun xs _ K=>match xs with
 | [.d t0 a0]=>if t0=(.int .i64)then q0T N a0 (fun d1 m1=>K (V.d Ty.str (dk d1 0)) [])else none
 |_=>none
theorem q9v (N:Nat) {R:Type}:GOk (X0 gl0) 32 (q4n N (R:=R)):=by
 intro xs A Kr r hr
 unfold q4n at hr
 split at hr
 ·simp only[Option.ite_none_right_eq_some]at hr
  obtain⟨hty,hr⟩:=hr
  subst hty
  rw[←z5e]at hr
  exact okA (q9u N) hr
 ·cases hr
noncomputable def z6i:Hints:=[([9],⟨[],[(2,.d .str)],[],[],[],[]⟩)]
noncomputable def q9q (N:Nat):OvS (X0 gl0) where
 g R:=[(27,q0S N)]
 ok:=fun R=>List.forall_mem_cons.2 ⟨q12 N,fun _ h=>nomatch h⟩
noncomputable def q3l {R:Type} (N:Nat) (a0:C) (k1:KD R):Option R:=(r7 N (C.get a0 (Int.toNat 0)) (fun d1 m1=>(if List.length (C.toStr (dk d1 0))+1≤140737488355328 then(r7 N (C.get a0 (Int.toNat 1)) (fun d2 m2=>(if List.length (C.toStr (dk d1 0)++[UInt8.ofNat 32])+List.length (C.toStr (dk d2 0))≤140737488355328 then(k1 [C.str (C.toStr (dk d1 0)++[UInt8.ofNat 32]++C.toStr (dk d2 0))] [])else none)))else none)))
noncomputable def q0R {R:Type} (N:Nat):C→KD R→Option R:=lid "" (q3l N)
theorem q9p {R:Type} (N:Nat) (a0:C) (k:KD R):q0R N a0 k=q3l N a0 k:=by unfold q0R;rw[Z8]
theorem z5a {R:Type} (N:Nat) (a0:C) (K:V→List (Key × O)→Option R):exF (X0 gl0) ((q9q N).ov R) q0e (fun f r=>bif Nat.beq f 28 then(bif Nat.beq r 0 then[(1,5)]else bif Nat.beq r 1 then[(5,7),(9,7)]else[])else[]) (fun f=>bif Nat.beq f 28 then z6i else[]) N 400 8 28 [.d (.arr 2 (.int .u64)) a0] A0 K=
  q0R N a0 (fun d1 m1=>K (V.d Ty.str (dk d1 0)) []):=by
 rw[q9p]
 exact(show _=jn (fun d1 m1=>(K (V.d Ty.str (dk d1 0)) [])) (q3l N a0) by kernel_rfl).trans (p9 _ _)
noncomputable def q6P (N:Nat) {R:Type}:OvG R:=fun xs _ K=>match xs with
 | [.d t0 a0]=>if t0=(.arr 2 (.int .u64))then q0R N a0 (fun d1 m1=>K (V.d Ty.str (dk d1 0)) [])else none
 |_=>none
theorem z6h (N:Nat) {R:Type}:GOk (X0 gl0) 28 (q6P N (R:=R)):=by
 intro xs A Kr r hr
 unfold q6P at hr
 split at hr
 ·simp only[Option.ite_none_right_eq_some]at hr
  obtain⟨hty,hr⟩:=hr
  subst hty
  rw[←z5a]at hr
  exact okA (q9q N) hr
 ·cases hr
noncomputable def z3D:Hints:=[([1,0,1,1,1],⟨[],[(4,.d .str)],[],[],[],[]⟩),
  ([4,1,0,1,1,1],⟨[1,3],[(4,.d .str),(5,.d (.int .i64))],[],[],[],[]⟩),
  ([9],⟨[],[(2,.d .str)],[],[],[],[]⟩)]
noncomputable def q7i (N:Nat):OvS (X0 gl0) where
 g R:=[]
 ok:=fun R=>fun _ h=>nomatch h
noncomputable def q2q {R:Type} (N:Nat) (k2:KD R):KD R→List C→List Es→Option R:=(fun k3 d1 m1=>(bif decide (C.toInt (dk d1 3)<4)then(if 0≤C.toInt (dk d1 3)∧C.toInt (dk d1 3)<32 then(if 0≤wrap u8 (Int.tdiv (C.toInt (C.get (dk d1 0) (Int.toNat (C.toInt (dk d1 3))))) 16)∧wrap u8 (Int.tdiv (C.toInt (C.get (dk d1 0) (Int.toNat (C.toInt (dk d1 3))))) 16)<(↑(List.length (C.toStr (dk d1 1))):Int)then(if 0≤C.toInt (dk d1 3)∧C.toInt (dk d1 3)<32 then(if 0≤Int.tmod (C.toInt (C.get (dk d1 0) (Int.toNat (C.toInt (dk d1 3))))) 16∧Int.tmod (C.toInt (C.get (dk d1 0) (Int.toNat (C.toInt (dk d1 3))))) 16<(↑(List.length (C.toStr (dk d1 1))):Int)then(if List.length (C.toStr (dk d1 2))+2≤140737488355328 then(k3 [dk d1 0,dk d1 1,C.str (C.toStr (dk d1 2)++[{toBitVec:={toFin:=⟨Int.toNat (↑(UInt8.toNat (List.getD (C.toStr (dk d1 1)) (Int.toNat (wrap u8 (Int.tdiv (C.toInt (C.get (dk d1 0) (Int.toNat (C.toInt (dk d1 3))))) 16))) (UInt8.ofNat 0))):Int)%256,Nat.mod_lt (Int.toNat (C.toInt (C.int (↑(UInt8.toNat (List.getD (C.toStr (dk d1 1)) (Int.toNat (wrap u8 (Int.tdiv (C.toInt (C.get (dk d1 0) (Int.toNat (C.toInt (dk d1 3))))) 16))) (UInt8.ofNat 0))):Int)))) (BitVec.ofNat._proof_1 8)⟩}},{toBitVec:={toFin:=⟨Int.toNat (↑(UInt8.toNat (List.getD (C.toStr (dk d1 1)) (Int.toNat (Int.tmod (C.toInt (C.get (dk d1 0) (Int.toNat (C.toInt (dk d1 3))))) 16)) (UInt8.ofNat 0))):Int)%256,Nat.mod_lt (Int.toNat (C.toInt (C.int (↑(UInt8.toNat (List.getD (C.toStr (dk d1 1)) (Int.toNat (Int.tmod (C.toInt (C.get (dk d1 0) (Int.toNat (C.toInt (dk d1 3))))) 16)) (UInt8.ofNat 0))):Int)))) (BitVec.ofNat._proof_1 8)⟩}}]),C.int (wrap i64 (C.toInt (dk d1 3)+1))] [])else none)else none)else none)else none)else none)else(k2 [dk d1 2] [])))
noncomputable def q2p {R:Type} (N:Nat) (a0:C) (k1:KD R):Option R:=(jn (fun d1 m1=>(k1 [dk d1 0] [])) (fun k2=>(Y1 N (q2q N k2) [a0,C.str [48,49,50,51,52,53,54,55,56,57,97,98,99,100,101,102],C.str [],C.int 0] [])))
noncomputable def F3 {R:Type} (N:Nat):C→KD R→Option R:=lid "" (q2p N)
theorem q7h {R:Type} (N:Nat) (a0:C) (k:KD R):F3 N a0 k=q2p N a0 k:=by unfold F3;rw[Z8]
theorem z2k {R:Type} (N:Nat) (a0:C) (K:V→List (Key × O)→Option R):exF (X0 gl0) ((q7i N).ov R) q0e (fun f r=>bif Nat.beq f 31 then(bif Nat.beq r 0 then[(1,5)]else[])else[]) (fun f=>bif Nat.beq f 31 then z3D else[]) N 400 8 31 [.d (.arr 32 (.int .u8)) a0] A0 K=
  F3 N a0 (fun d1 m1=>K (V.d Ty.str (dk d1 0)) []):=by
 rw[q7h]
 exact(show _=jn (fun d1 m1=>(K (V.d Ty.str (dk d1 0)) [])) (q2p N a0) by kernel_rfl).trans (p9 _ _)
noncomputable def q2P (N:Nat) {R:Type}:OvG R:=fun xs _ K=>match xs with
 | [.d t0 a0]=>if t0=(.arr 32 (.int .u8))then F3 N a0 (fun d1 m1=>K (V.d Ty.str (dk d1 0)) [])else none
 |_=>none
theorem q7j (N:Nat) {R:Type}:GOk (X0 gl0) 31 (q2P N (R:=R)):=by
 intro xs A Kr r hr
 unfold q2P at hr
 split at hr
 ·simp only[Option.ite_none_right_eq_some]at hr
  obtain⟨hty,hr⟩:=hr
  subst hty
  rw[←z2k]at hr
  exact okA (q7i N) hr
 ·cases hr
end Go.Proofs.YtoademomlabgnaaDoor
namespace Go.Proofs.YtoademomlabgnaaDoor
open Go Go.E
open Go.IntKind (wrap u64 u32 u8 i64 i32)
set_option maxRecDepth 100000
set_option maxHeartbeats 4000000
set_option linter.unusedSimpArgs false
variable {R:Type} {N:Nat}
def W63 (a:Int):Prop:=-9223372036854775808≤a∧a<9223372036854775808
theorem z1F {n:Int} (h:W63 n):(Q9 n).length≤21:=by
 rw[z67 n h.1 (by have:=h.2;omega)]
 exact z8W n h.1 (by have:=h.2;omega)
def X5 (n:Int):List UInt8:=q3E n.toNat
theorem c7 {n:Int} (h:W64 n):(X5 n).length≤20:=z9g (by have:=h.2;have:=h.1;omega)
theorem X2 (c:C) (h:W64 c.toInt) (he:c= .int c.toInt) (hN:100<N) (k:KD R):r7 N c k=k [.str (X5 c.toInt)] []:=by
 rw[q9r]
 unfold q3n
 have e:c= .int ((c.toInt.toNat:Nat):Int):=by rw[Int.toNat_of_nonneg h.1];exact he
 rw[e,y0N _ (by have:=h.2;have:=h.1;omega) hN]
 rfl
theorem q7U (n:Int) (h:W64 n) (hN:100<N) (k:KD R):r7 N (.int n) k=k [.str (X5 n)] []:=X2 (.int n) h rfl hN k
theorem z4r (c:C) (h:W63 c.toInt) (hN:100<N) (k:KD R):q0T N c k=k [.str (Q9 c.toInt)] []:=by
 have h1:=h.1
 have h2:=h.2
 rw[q9t]
 unfold q3o Q9
 by_cases h0:c.toInt<0
 ·have e:u64.wrap (u64.wrap (i64.wrap (0-i64.wrap (c.toInt+1)))+1)=(c.toInt.natAbs:Int):=by
   rw[wrap_i64 (n:=c.toInt+1) (by omega) (by omega),wrap_i64 (by omega) (by omega),wrap_u64 (n:=0-(c.toInt+1)) (by omega) (by omega),wrap_u64 (by omega) (by omega)]
   omega
  simp only[h0,decide_true,cond_true]
  rw[e,q7U _ (by unfold W64;omega) hN]
  have hl:=z9g (n:=c.toInt.natAbs) (by omega)
  simp only[x7,x8,X5,Int.toNat_natCast]
  exact if_pos (by omega)
 ·have e:u64.wrap c.toInt=c.toInt:=wrap_u64 (by omega) (by omega)
  simp only[h0,decide_false,cond_false]
  rw[e,q7U _ (by unfold W64;omega) hN]
  simp only[x7,x8,X5]
def z1d (a b:C):List UInt8:=X5 a.toInt++[UInt8.ofNat 32]++X5 b.toInt
def q1N (c:C):Prop:=c= .int c.toInt
theorem y0W (c:C) (h0:W64 (c.get 0).toInt) (h1:W64 (c.get 1).toInt) (e0:q1N (c.get 0)) (e1:q1N (c.get 1)) (hN:100<N) (k:KD R):q0R N c k=k [.str (z1d (c.get 0) (c.get 1))] []:=by
 rw[q9p]
 unfold q3l
 have a0:=c7 h0
 have a1:=c7 h1
 rw[show Int.toNat 0=0 from rfl,show Int.toNat 1=1 from rfl,X2 _ h0 e0 hN]
 simp only[x7,x8]
 refine(if_pos (by omega)).trans ?_
 rw[X2 _ h1 e1 hN]
 simp only[x7,x8]
 exact if_pos (by simp only[List.length_append,List.length_cons,List.length_nil];omega)
def q4j (l:List C):List C:=l.map fun c=>.str (X5 c.toInt)
def q7Y (l:List C):List UInt8:=q1p [UInt8.ofNat 32] (l.map fun c=>X5 c.toInt)
theorem z64:∀(l:List C),(∀c∈l,W64 c.toInt)→(q7Y l).length≤21*l.length
 | [],_=>by simp[q7Y,q1p]
 | [x],h=>by have:=c7 (h x (by simp));simp[q7Y,q1p];omega
 |x::y::l,h=>by
  have h1:=c7 (h x (by simp))
  have h2:=z64 (y::l) fun c hc=>h c (List.mem_cons_of_mem _ hc)
  unfold q7Y at h2 ⊢
  simp only[List.map_cons,q1p,List.length_append,List.length_cons,List.length_nil]at h2 ⊢
  omega
theorem z6J (l:List C) (h:∀c∈l,W64 c.toInt) (hl:l.length≤10) (hN:100<N) (k:KD R):k8 N (.slice l) k=k [.str (q7Y l)] []:=by
 rw[q8G]
 unfold q2M
 simp only[p9,X4]
 have key:=q0i (F:=q2N N fun d1 m1=>if List.length (q1p [UInt8.ofNat 32] (List.map (fun x=>match x with|C.str l=>l|x=>[]) (C.elems (dk d1 0))))≤140737488355328 then k [C.str (q1p [UInt8.ofNat 32] (List.map (fun x=>match x with|C.str l=>l|x=>[]) (C.elems (dk d1 0))))] []else none)
  (fun i=>[.slice l,.int l.length,.slice (q4j (l.take i)),.int i]) (fun _=>[]) l.length (k [.str (q7Y l)] []) ?_ ?_ (N:=N) (by omega)
 ·exact key
 ·intro i hi rec
  have h1:(i:Int)<(l.length:Int):=by omega
  have h3:(q4j (l.take i)).length=i:=by simp[q4j];omega
  have g1:(i+1)*16≤140737488355328∧i+1≤9223372036854775807:=by omega
  have e:q4j (l.take (i+1))=q4j (l.take i)++[.str (q3E (l.getD i .nil).toInt.toNat)]:=by
   unfold q4j
   rw[List.take_add_one,List.getElem?_eq_getElem hi,List.getD_eq_getElem?_getD,List.getElem?_eq_getElem hi,List.map_append];rfl
  unfold q2N
  simp only[x7,Y4,Q5,X6,x5,X4,h1,h3,g1,decide_true,cond_true,Int.natCast_nonneg,and_self,if_true,Nat.beq_refl,Int.toNat_natCast,List.length_append,List.length_cons,List.length_nil,Nat.zero_add,q0h (show i<4611686018427387904 by omega),e]
 ·intro rec
  have hl2:=z64 l h
  have e:List.map (fun x=>match x with|C.str l=>l|x=>[]) (q4j l)=l.map fun c=>X5 c.toInt:=by
   unfold q4j
   rw[List.map_map];rfl
  unfold q2N
  simp only[x7,Y4,Q5,X6,x5,X4,Int.lt_irrefl,decide_false,cond_false,List.take_length,Nat.beq_refl,cond_true]
  have e':∀f:C→List UInt8,(∀l,f (.str l)=l)→List.map f (q4j l)=l.map fun c=>X5 c.toInt:=fun f hf=>by
   unfold q4j;rw[List.map_map];exact List.map_congr_left fun c _=>hf _
  rw[e' _ fun _=>rfl]
  exact if_pos (show(q7Y l).length≤_ by omega)
end Go.Proofs.YtoademomlabgnaaDoor
namespace Go.Proofs.YtoademomlabgnaaDoor
open Go Go.E
open Go.IntKind (wrap u64 u32 u8 i64 i32)
set_option maxRecDepth 100000
set_option maxHeartbeats 4000000
set_option linter.unusedSimpArgs false
variable {R:Type} {N:Nat}
def y2T:List UInt8:=[UInt8.ofNat 48,UInt8.ofNat 49,UInt8.ofNat 50,UInt8.ofNat 51,UInt8.ofNat 52,UInt8.ofNat 53,UInt8.ofNat 54,UInt8.ofNat 55,UInt8.ofNat 56,UInt8.ofNat 57,UInt8.ofNat 97,UInt8.ofNat 98,UInt8.ofNat 99,UInt8.ofNat 100,UInt8.ofNat 101,UInt8.ofNat 102]
def z3Q (n:Nat):UInt8:=y2T.getD n (UInt8.ofNat 0)
def y2S (c:C):List UInt8:=[z3Q (c.toInt.toNat / 16),z3Q (c.toInt.toNat%16)]
def F8 (l:List C):List UInt8:=l.flatMap y2S
def q2C (c:C):List UInt8:=F8 (c.elems.take 4)
structure q8B (c:C):Prop where
 eta:c= .agg c.elems
 len:c.elems.length=32
 byte:∀x∈c.elems,∃b:Nat,b<256∧x= .int (b:Int)
theorem z8E (b:UInt8) (p):(⟨⟨⟨b.toNat%256,p⟩⟩⟩:UInt8)=b:=by
 cases b with|_ b=>cases b with|_ b=>cases b with|_ n hn=>
 congr 3
 exact Nat.mod_eq_of_lt hn
theorem y6t (b:Nat) (h:b<256):q8x .and .u8 (b:Int) 15=((b%16:Nat):Int):=by
 have e1:(BitVec.ofInt 8 (b:Int))=BitVec.ofNat 8 b:=by
  apply BitVec.eq_of_toNat_eq
  rw[BitVec.toNat_ofInt,BitVec.toNat_ofNat]
  omega
 have e3:((BitVec.ofInt 8 (b:Int))&&&(BitVec.ofInt 8 (15:Int))).toNat=b%16:=by
  rw[e1,show BitVec.ofInt 8 (15:Int)=BitVec.ofNat 8 15 from rfl,BitVec.toNat_and,BitVec.toNat_ofNat,BitVec.toNat_ofNat,Nat.mod_eq_of_lt (show b<2^8 by omega)]
  exact Nat.and_two_pow_sub_one_eq_mod b 4
 have e4:(((BitVec.ofInt 8 (b:Int))&&&(BitVec.ofInt 8 (15:Int))).toNat:Int)=((b%16:Nat):Int):=by rw[e3]
 refine(congrArg u8.wrap e4).trans ?_
 rw[wrap_u8]
 omega
theorem z13 {l:List C} {i:Nat} (hi:i<l.length) {b:Nat} (h:l.getD i .nil= .int (b:Int)):F8 (l.take (i+1))=F8 (l.take i)++[z3Q (b / 16)]++[z3Q (b%16)]:=by
 unfold F8
 have:l.take (i+1)=l.take i++[l.getD i .nil]:=by
  rw[List.take_add_one,List.getElem?_eq_getElem hi,List.getD_eq_getElem?_getD,List.getElem?_eq_getElem hi];rfl
 rw[this,h,List.flatMap_append,List.append_assoc]
 rfl
theorem q1g:∀(l:List C),(F8 l).length=2*l.length
 | []=>rfl
 |c::l=>by
  have:=q1g l
  unfold F8 at this ⊢
  rw[List.flatMap_cons,List.length_append,this]
  simp[y2S];omega
theorem z57 (c:C) (h:q8B c) (hN:100<N) (k:KD R):J0 N c k=k [.str (q2C c)] []:=by
 rw[q6o]
 unfold q1P
 have hcut:cut c.elems 0 4=c.elems.take 4:=rfl
 have hl:(c.elems.take 4).length=4:=by have:=h.len;simp;omega
 simp only[p9,hcut,hl]
 unfold q2C
 have hb:∀i,i<4→∃b:Nat,b<256∧(c.elems.take 4).getD i .nil= .int (b:Int):=fun i hi=>h.byte _ (List.take_subset 4 _ (F5 (by rw[hl];exact hi)))
 generalize c.elems.take 4=l at hl hb ⊢
 have key:=q0i (F:=q1Q N fun d1 m1=>if True∧Int.toNat (C.toInt (dk d1 1))=108 then k [C.str (C.toStr (dk d1 0))] []else none)
  (fun i=>[.slice l,.int (4:Nat),.int i,.str (F8 (l.take i)),.int 108]) (fun _=>[]) 4 (k [.str (F8 l)] []) ?_ ?_ (N:=N) (by omega)
 ·exact key
 ·intro i hi rec
  obtain⟨b,hb1,hb2⟩:=hb i hi
  have h1:(i:Int)<((4:Nat):Int):=by omega
  have hil:i<l.length:=by omega
  have e16:Int.fdiv (b:Int) (2^min (Int.toNat 4) 8)=((b / 16:Nat):Int):=by
   show Int.fdiv (b:Int) 16=_
   rw[Int.fdiv_eq_ediv_of_nonneg _ (by decide)];omega
  have g1:(0:Int)≤((b / 16:Nat):Int)∧((b / 16:Nat):Int)<((16:Nat):Int):=by omega
  have g2:(0:Int)≤((b%16:Nat):Int)∧((b%16:Nat):Int)<((16:Nat):Int):=by omega
  have hln:=q1g (l.take i)
  have hln2:(l.take i).length≤4:=by simp;omega
  have g3:(F8 (l.take i)).length+1≤140737488355328:=by omega
  have g5:(i:Int)<(l.length:Int):=by omega
  unfold q1Q
  simp only[x7,Y4,Q5,X6,q5e,x5,X4,x8,h1,g5,hb2,e16,y6t b hb1,g1,g2,decide_true,cond_true,Int.natCast_nonneg,and_self,if_true,Int.toNat_natCast,z8E,q0h (show i<4611686018427387904 by omega),z13 hil hb2]
  have g4:(F8 (l.take i)).length+1+1≤140737488355328:=by omega
  refine(if_pos ⟨trivial,by omega⟩).trans ((if_pos ⟨trivial,rfl,g3⟩).trans ((if_pos ⟨trivial,by omega⟩).trans ((if_pos ⟨trivial,trivial,?_⟩).trans rfl)))
  simp only[List.length_append,List.length_cons,List.length_nil];omega
 ·intro rec
  have e:l.take 4=l:=List.take_of_length_le (by omega)
  unfold q1Q
  simp only[x7,Y4,Q5,X6,q5e,x5,X4,x8,Int.lt_irrefl,decide_false,cond_false,e]
  exact if_pos ⟨trivial,rfl⟩
theorem z4q (c:C) (h:q8B c) (hN:100<N) (k:KD R):F3 N c k=k [.str (q2C c)] []:=by
 rw[q7h]
 unfold q2p q2C
 have hlen:=h.len
 have hget:∀i,C.get c i=c.elems.getD i .nil:=fun i=>by rw[h.eta];rfl
 have hb:∀i,i<4→∃b:Nat,b<256∧c.elems.getD i .nil= .int (b:Int):=fun i hi=>h.byte _ (F5 (by omega))
 simp only[p9]
 have key:=q0i (F:=q2q N fun d1 m1=>k [dk d1 0] [])
  (fun i=>[c,.str y2T,.str (F8 (c.elems.take i)),.int i]) (fun _=>[]) 4 (k [.str (F8 (c.elems.take 4))] []) ?_ ?_ (N:=N) (by omega)
 ·exact key
 ·intro i hi rec
  obtain⟨b,hb1,hb2⟩:=hb i hi
  have h1:(i:Int)<4:=by omega
  have hil:i<c.elems.length:=by omega
  have e16:u8.wrap (Int.tdiv (b:Int) 16)=((b / 16:Nat):Int):=by
   rw[Int.tdiv_eq_ediv_of_nonneg (by omega),wrap_u8];omega
  have e15:Int.tmod (b:Int) 16=((b%16:Nat):Int):=by
   rw[Int.tmod_eq_emod_of_nonneg (by omega)];omega
  have hx:y2T.length=16:=rfl
  have g0:(0:Int)≤(i:Int)∧(i:Int)<32:=by omega
  have g1:(0:Int)≤((b / 16:Nat):Int)∧((b / 16:Nat):Int)<((16:Nat):Int):=by omega
  have g2:(0:Int)≤((b%16:Nat):Int)∧((b%16:Nat):Int)<((16:Nat):Int):=by omega
  have hln:=q1g (c.elems.take i)
  have hln2:(c.elems.take i).length≤4:=by simp;omega
  have g3:(F8 (c.elems.take i)).length+2≤140737488355328:=by omega
  unfold q2q
  simp only[x7,Y4,Q5,X6,x5,X4,x8,h1,g0,hget,hb2,e16,e15,hx,g1,g2,g3,decide_true,cond_true,and_self,if_true,Int.toNat_natCast,z8E,q0h (show i<4611686018427387904 by omega),z13 hil hb2,List.append_assoc]
  rfl
 ·intro rec
  unfold q2q
  have e:¬((4:Nat):Int)<4:=by decide
  simp only[x7,Y4,Q5,X6,x5,e,decide_false,cond_false]
end Go.Proofs.YtoademomlabgnaaDoor
namespace Go.Proofs.YtoademomlabgnaaDoor
open Go Go.E
open Go.IntKind (wrap u64 u32 u8 i64 i32)
set_option maxRecDepth 100000
set_option maxHeartbeats 4000000
set_option linter.unusedVariables false
noncomputable def z2e:Hints:=[([1,0,1,1],⟨[],[(3,.sl 16 .str 5003)],[],[],[],[]⟩),
  ([4,1,0,1,1],⟨[30,31],[(3,.sl 16 .str 5003),(32,.d (.int .i64))],[],[],[],[]⟩),
  ([9],⟨[],[(2,.sl 16 .str 5002)],[],[],[],[]⟩)]
noncomputable def q6s (N:Nat):OvS (X0 gl0) where
 g R:=[(23,q3k N),(54,q9N N),(25,q2m N)]
 ok:=fun R=>List.forall_mem_cons.2 ⟨q8I N,List.forall_mem_cons.2 ⟨z3W N,List.forall_mem_cons.2 ⟨q6q N,fun _ h=>nomatch h⟩⟩⟩
noncomputable def q1R {R:Type} (N:Nat) (k2:KD R):KD R→List C→List Es→Option R:=(fun k3 d5 m5=>(bif decide (C.toInt (dk d5 3)<C.toInt (dk d5 1))then(if 0≤C.toInt (dk d5 3)∧C.toInt (dk d5 3)<(↑(List.length (C.elems (dk d5 0))):Int)then(k8 N (C.slice [C.get (List.getD (C.elems (dk d5 0)) (Int.toNat (C.toInt (dk d5 3))) C.nil) 0]) (fun d6 m6=>(if 8+List.length (C.toStr (dk d6 0))≤140737488355328 then(if List.length ([UInt8.ofNat 112,UInt8.ofNat 97,UInt8.ofNat 121,UInt8.ofNat 109,UInt8.ofNat 101,UInt8.ofNat 110,UInt8.ofNat 116,UInt8.ofNat 32]++C.toStr (dk d6 0))+4≤140737488355328 then(if List.length ([UInt8.ofNat 112,UInt8.ofNat 97,UInt8.ofNat 121,UInt8.ofNat 109,UInt8.ofNat 101,UInt8.ofNat 110,UInt8.ofNat 116,UInt8.ofNat 32]++C.toStr (dk d6 0)++[UInt8.ofNat 32,UInt8.ofNat 98,UInt8.ofNat 121,UInt8.ofNat 32])+List.length (Q9 (C.toInt (C.get (List.getD (C.elems (dk d5 0)) (Int.toNat (C.toInt (dk d5 3))) C.nil) 1)))≤140737488355328 then(if List.length ([UInt8.ofNat 112,UInt8.ofNat 97,UInt8.ofNat 121,UInt8.ofNat 109,UInt8.ofNat 101,UInt8.ofNat 110,UInt8.ofNat 116,UInt8.ofNat 32]++C.toStr (dk d6 0)++[UInt8.ofNat 32,UInt8.ofNat 98,UInt8.ofNat 121,UInt8.ofNat 32]++Q9 (C.toInt (C.get (List.getD (C.elems (dk d5 0)) (Int.toNat (C.toInt (dk d5 3))) C.nil) 1)))+4≤140737488355328 then(k8 N (C.slice [C.get (List.getD (C.elems (dk d5 0)) (Int.toNat (C.toInt (dk d5 3))) C.nil) 2]) (fun d7 m7=>(if List.length ([UInt8.ofNat 112,UInt8.ofNat 97,UInt8.ofNat 121,UInt8.ofNat 109,UInt8.ofNat 101,UInt8.ofNat 110,UInt8.ofNat 116,UInt8.ofNat 32]++C.toStr (dk d6 0)++[UInt8.ofNat 32,UInt8.ofNat 98,UInt8.ofNat 121,UInt8.ofNat 32]++Q9 (C.toInt (C.get (List.getD (C.elems (dk d5 0)) (Int.toNat (C.toInt (dk d5 3))) C.nil) 1))++[UInt8.ofNat 32,UInt8.ofNat 111,UInt8.ofNat 102,UInt8.ofNat 32])+List.length (C.toStr (dk d7 0))≤140737488355328 then(if List.length ([UInt8.ofNat 112,UInt8.ofNat 97,UInt8.ofNat 121,UInt8.ofNat 109,UInt8.ofNat 101,UInt8.ofNat 110,UInt8.ofNat 116,UInt8.ofNat 32]++C.toStr (dk d6 0)++[UInt8.ofNat 32,UInt8.ofNat 98,UInt8.ofNat 121,UInt8.ofNat 32]++Q9 (C.toInt (C.get (List.getD (C.elems (dk d5 0)) (Int.toNat (C.toInt (dk d5 3))) C.nil) 1))++[UInt8.ofNat 32,UInt8.ofNat 111,UInt8.ofNat 102,UInt8.ofNat 32]++C.toStr (dk d7 0))+5≤140737488355328 then(J0 N (C.get (List.getD (C.elems (dk d5 0)) (Int.toNat (C.toInt (dk d5 3))) C.nil) 3) (fun d8 m8=>(if List.length ([UInt8.ofNat 112,UInt8.ofNat 97,UInt8.ofNat 121,UInt8.ofNat 109,UInt8.ofNat 101,UInt8.ofNat 110,UInt8.ofNat 116,UInt8.ofNat 32]++C.toStr (dk d6 0)++[UInt8.ofNat 32,UInt8.ofNat 98,UInt8.ofNat 121,UInt8.ofNat 32]++Q9 (C.toInt (C.get (List.getD (C.elems (dk d5 0)) (Int.toNat (C.toInt (dk d5 3))) C.nil) 1))++[UInt8.ofNat 32,UInt8.ofNat 111,UInt8.ofNat 102,UInt8.ofNat 32]++C.toStr (dk d7 0)++[UInt8.ofNat 32,UInt8.ofNat 102,UInt8.ofNat 111,UInt8.ofNat 114,UInt8.ofNat 32])+List.length (C.toStr (dk d8 0))≤140737488355328 then(if List.length ([UInt8.ofNat 112,UInt8.ofNat 97,UInt8.ofNat 121,UInt8.ofNat 109,UInt8.ofNat 101,UInt8.ofNat 110,UInt8.ofNat 116,UInt8.ofNat 32]++C.toStr (dk d6 0)++[UInt8.ofNat 32,UInt8.ofNat 98,UInt8.ofNat 121,UInt8.ofNat 32]++Q9 (C.toInt (C.get (List.getD (C.elems (dk d5 0)) (Int.toNat (C.toInt (dk d5 3))) C.nil) 1))++[UInt8.ofNat 32,UInt8.ofNat 111,UInt8.ofNat 102,UInt8.ofNat 32]++C.toStr (dk d7 0)++[UInt8.ofNat 32,UInt8.ofNat 102,UInt8.ofNat 111,UInt8.ofNat 114,UInt8.ofNat 32]++C.toStr (dk d8 0))+7≤140737488355328 then(k8 N (C.slice [C.get (List.getD (C.elems (dk d5 0)) (Int.toNat (C.toInt (dk d5 3))) C.nil) 4]) (fun d9 m9=>(if List.length ([UInt8.ofNat 112,UInt8.ofNat 97,UInt8.ofNat 121,UInt8.ofNat 109,UInt8.ofNat 101,UInt8.ofNat 110,UInt8.ofNat 116,UInt8.ofNat 32]++C.toStr (dk d6 0)++[UInt8.ofNat 32,UInt8.ofNat 98,UInt8.ofNat 121,UInt8.ofNat 32]++Q9 (C.toInt (C.get (List.getD (C.elems (dk d5 0)) (Int.toNat (C.toInt (dk d5 3))) C.nil) 1))++[UInt8.ofNat 32,UInt8.ofNat 111,UInt8.ofNat 102,UInt8.ofNat 32]++C.toStr (dk d7 0)++[UInt8.ofNat 32,UInt8.ofNat 102,UInt8.ofNat 111,UInt8.ofNat 114,UInt8.ofNat 32]++C.toStr (dk d8 0)++[UInt8.ofNat 32,UInt8.ofNat 117,UInt8.ofNat 112,UInt8.ofNat 32,UInt8.ofNat 116,UInt8.ofNat 111,UInt8.ofNat 32])+List.length (C.toStr (dk d9 0))≤140737488355328 then(bif Nat.beq (List.length (C.elems (dk d5 2))) (List.length (C.elems (dk d5 2)))then(if(List.length (C.elems (dk d5 2))+1)*16≤140737488355328∧List.length (C.elems (dk d5 2))+1≤9223372036854775807 then(bif Nat.beq (List.length (C.elems (dk d5 2))+1) (List.length (C.elems (dk d5 2)++[C.str ([UInt8.ofNat 112,UInt8.ofNat 97,UInt8.ofNat 121,UInt8.ofNat 109,UInt8.ofNat 101,UInt8.ofNat 110,UInt8.ofNat 116,UInt8.ofNat 32]++C.toStr (dk d6 0)++[UInt8.ofNat 32,UInt8.ofNat 98,UInt8.ofNat 121,UInt8.ofNat 32]++Q9 (C.toInt (C.get (List.getD (C.elems (dk d5 0)) (Int.toNat (C.toInt (dk d5 3))) C.nil) 1))++[UInt8.ofNat 32,UInt8.ofNat 111,UInt8.ofNat 102,UInt8.ofNat 32]++C.toStr (dk d7 0)++[UInt8.ofNat 32,UInt8.ofNat 102,UInt8.ofNat 111,UInt8.ofNat 114,UInt8.ofNat 32]++C.toStr (dk d8 0)++[UInt8.ofNat 32,UInt8.ofNat 117,UInt8.ofNat 112,UInt8.ofNat 32,UInt8.ofNat 116,UInt8.ofNat 111,UInt8.ofNat 32]++C.toStr (dk d9 0))]))then(k3 [dk d5 0,dk d5 1,C.slice (C.elems (dk d5 2)++[C.str ([UInt8.ofNat 112,UInt8.ofNat 97,UInt8.ofNat 121,UInt8.ofNat 109,UInt8.ofNat 101,UInt8.ofNat 110,UInt8.ofNat 116,UInt8.ofNat 32]++C.toStr (dk d6 0)++[UInt8.ofNat 32,UInt8.ofNat 98,UInt8.ofNat 121,UInt8.ofNat 32]++Q9 (C.toInt (C.get (List.getD (C.elems (dk d5 0)) (Int.toNat (C.toInt (dk d5 3))) C.nil) 1))++[UInt8.ofNat 32,UInt8.ofNat 111,UInt8.ofNat 102,UInt8.ofNat 32]++C.toStr (dk d7 0)++[UInt8.ofNat 32,UInt8.ofNat 102,UInt8.ofNat 111,UInt8.ofNat 114,UInt8.ofNat 32]++C.toStr (dk d8 0)++[UInt8.ofNat 32,UInt8.ofNat 117,UInt8.ofNat 112,UInt8.ofNat 32,UInt8.ofNat 116,UInt8.ofNat 111,UInt8.ofNat 32]++C.toStr (dk d9 0))]),C.int (wrap i64 (C.toInt (dk d5 3)+1))] [])else none)else none)else none)else none)))else none)else none)))else none)else none)))else none)else none)else none)else none)))else none)else(bif Nat.beq (List.length (C.elems (dk d5 2))) (List.length (C.elems (dk d5 2)))then(k2 [C.slice (C.elems (dk d5 2))] [])else none)))
noncomputable def q0M {R:Type} (N:Nat) (a0:C) (k1:KD R):Option R:=(k8 N (C.slice [C.int (wrap u64 (C.toInt (C.get a0 0)))]) (fun d1 m1=>(if 8+List.length (C.toStr (dk d1 0))≤140737488355328 then(if List.length ([UInt8.ofNat 99,UInt8.ofNat 104,UInt8.ofNat 97,UInt8.ofNat 110,UInt8.ofNat 110,UInt8.ofNat 101,UInt8.ofNat 108,UInt8.ofNat 32]++C.toStr (dk d1 0))+7≤140737488355328 then(k8 N (C.slice [C.get a0 1]) (fun d2 m2=>(if List.length ([UInt8.ofNat 99,UInt8.ofNat 104,UInt8.ofNat 97,UInt8.ofNat 110,UInt8.ofNat 110,UInt8.ofNat 101,UInt8.ofNat 108,UInt8.ofNat 32]++C.toStr (dk d1 0)++[UInt8.ofNat 32,UInt8.ofNat 114,UInt8.ofNat 111,UInt8.ofNat 117,UInt8.ofNat 110,UInt8.ofNat 100,UInt8.ofNat 32])+List.length (C.toStr (dk d2 0))≤140737488355328 then(if List.length ([UInt8.ofNat 99,UInt8.ofNat 104,UInt8.ofNat 97,UInt8.ofNat 110,UInt8.ofNat 110,UInt8.ofNat 101,UInt8.ofNat 108,UInt8.ofNat 32]++C.toStr (dk d1 0)++[UInt8.ofNat 32,UInt8.ofNat 114,UInt8.ofNat 111,UInt8.ofNat 117,UInt8.ofNat 110,UInt8.ofNat 100,UInt8.ofNat 32]++C.toStr (dk d2 0))+7≤140737488355328 then(k8 N (C.slice (cut (C.elems (C.get a0 2)) 0 2)) (fun d3 m3=>(if List.length ([UInt8.ofNat 99,UInt8.ofNat 104,UInt8.ofNat 97,UInt8.ofNat 110,UInt8.ofNat 110,UInt8.ofNat 101,UInt8.ofNat 108,UInt8.ofNat 32]++C.toStr (dk d1 0)++[UInt8.ofNat 32,UInt8.ofNat 114,UInt8.ofNat 111,UInt8.ofNat 117,UInt8.ofNat 110,UInt8.ofNat 100,UInt8.ofNat 32]++C.toStr (dk d2 0)++[UInt8.ofNat 32,UInt8.ofNat 109,UInt8.ofNat 111,UInt8.ofNat 118,UInt8.ofNat 101,UInt8.ofNat 100,UInt8.ofNat 32])+List.length (C.toStr (dk d3 0))≤140737488355328 then(if List.length ([UInt8.ofNat 99,UInt8.ofNat 104,UInt8.ofNat 97,UInt8.ofNat 110,UInt8.ofNat 110,UInt8.ofNat 101,UInt8.ofNat 108,UInt8.ofNat 32]++C.toStr (dk d1 0)++[UInt8.ofNat 32,UInt8.ofNat 114,UInt8.ofNat 111,UInt8.ofNat 117,UInt8.ofNat 110,UInt8.ofNat 100,UInt8.ofNat 32]++C.toStr (dk d2 0)++[UInt8.ofNat 32,UInt8.ofNat 109,UInt8.ofNat 111,UInt8.ofNat 118,UInt8.ofNat 101,UInt8.ofNat 100,UInt8.ofNat 32]++C.toStr (dk d3 0))+7≤140737488355328 then(k8 N (C.slice (cut (C.elems (C.get a0 3)) 0 2)) (fun d4 m4=>(if List.length ([UInt8.ofNat 99,UInt8.ofNat 104,UInt8.ofNat 97,UInt8.ofNat 110,UInt8.ofNat 110,UInt8.ofNat 101,UInt8.ofNat 108,UInt8.ofNat 32]++C.toStr (dk d1 0)++[UInt8.ofNat 32,UInt8.ofNat 114,UInt8.ofNat 111,UInt8.ofNat 117,UInt8.ofNat 110,UInt8.ofNat 100,UInt8.ofNat 32]++C.toStr (dk d2 0)++[UInt8.ofNat 32,UInt8.ofNat 109,UInt8.ofNat 111,UInt8.ofNat 118,UInt8.ofNat 101,UInt8.ofNat 100,UInt8.ofNat 32]++C.toStr (dk d3 0)++[UInt8.ofNat 32,UInt8.ofNat 116,UInt8.ofNat 97,UInt8.ofNat 107,UInt8.ofNat 101,UInt8.ofNat 110,UInt8.ofNat 32])+List.length (C.toStr (dk d4 0))≤140737488355328 then(jn (fun d5 m5=>(bif Nat.beq (List.length (C.elems (dk d5 0))) (List.length (C.elems (dk d5 0)))then(k1 [C.slice (C.elems (dk d5 0))] [])else none)) (fun k2=>(Y1 N (q1R N k2) [C.get a0 4,C.int (↑(List.length (C.elems (C.get a0 4))):Int),C.slice [C.str ([UInt8.ofNat 99,UInt8.ofNat 104,UInt8.ofNat 97,UInt8.ofNat 110,UInt8.ofNat 110,UInt8.ofNat 101,UInt8.ofNat 108,UInt8.ofNat 32]++C.toStr (dk d1 0)++[UInt8.ofNat 32,UInt8.ofNat 114,UInt8.ofNat 111,UInt8.ofNat 117,UInt8.ofNat 110,UInt8.ofNat 100,UInt8.ofNat 32]++C.toStr (dk d2 0)++[UInt8.ofNat 32,UInt8.ofNat 109,UInt8.ofNat 111,UInt8.ofNat 118,UInt8.ofNat 101,UInt8.ofNat 100,UInt8.ofNat 32]++C.toStr (dk d3 0)++[UInt8.ofNat 32,UInt8.ofNat 116,UInt8.ofNat 97,UInt8.ofNat 107,UInt8.ofNat 101,UInt8.ofNat 110,UInt8.ofNat 32]++C.toStr (dk d4 0))],C.int 0] [])))else none)))else none)else none)))else none)else none)))else none)else none)))
noncomputable def J1 {R:Type} (N:Nat):C→KD R→Option R:=lid "" (q0M N)
theorem q6r {R:Type} (N:Nat) (a0:C) (k:KD R):J1 N a0 k=q0M N a0 k:=by unfold J1;rw[Z8]
theorem z1k {R:Type} (N:Nat) (a0:C) (K:V→List (Key × O)→Option R):exF (X0 gl0) ((q6s N).ov R) q0e (fun f r=>bif Nat.beq f 6 then(bif Nat.beq r 0 then[(1,5)]else bif Nat.beq r 1 then[(28,4),(10,7),(16,7),(21,7),(26,7)]else bif Nat.beq r 5 then[(40,7),(51,7),(56,7),(62,7),(5,6)]else[])else[]) (fun f=>bif Nat.beq f 6 then z2e else[]) N 400 8 6 [.d v7 a0] A0 K=
  J1 N a0 (fun d1 m1=>K (V.ts 16 Ty.str (C.elems (dk d1 0))) []):=by
 rw[q6r]
 exact(show _=jn (fun d1 m1=>(bif Nat.beq (List.length (C.elems (dk d1 0))) (List.length (C.elems (dk d1 0)))then
  (K (V.ts 16 Ty.str (C.elems (dk d1 0))) [])
 else
  none)) (q0M N a0) by kernel_rfl).trans ((p9 _ _).trans (congrArg (q0M N a0) (funext fun _=>funext fun _=>by simp only[Nat.beq_refl,cond_true])))
noncomputable def q3W (N:Nat) {R:Type}:OvG R:=fun xs _ K=>match xs with
 | [.d t0 a0]=>if t0=v7 then J1 N a0 (fun d1 m1=>K (V.ts 16 Ty.str (C.elems (dk d1 0))) [])else none
 |_=>none
theorem z2d (N:Nat) {R:Type}:GOk (X0 gl0) 6 (q3W N (R:=R)):=by
 intro xs A Kr r hr
 unfold q3W at hr
 split at hr
 ·simp only[Option.ite_none_right_eq_some]at hr
  obtain⟨hty,hr⟩:=hr
  subst hty
  rw[←z1k]at hr
  exact okA (q6s N) hr
 ·cases hr
noncomputable def z1n:Hints:=[([9],⟨[],[(2,.d .str)],[],[],[],[]⟩)]
noncomputable def q5R (N:Nat):OvS (X0 gl0) where
 g R:=[(27,q0S N),(31,q2P N),(32,q4n N)]
 ok:=fun R=>List.forall_mem_cons.2 ⟨q12 N,List.forall_mem_cons.2 ⟨q7j N,List.forall_mem_cons.2 ⟨q9v N,fun _ h=>nomatch h⟩⟩⟩
noncomputable def q1j {R:Type} (N:Nat) (a0:C) (k1:KD R):Option R:=(r7 N (C.get a0 0) (fun d1 m1=>(if 8+List.length (C.toStr (dk d1 0))≤140737488355328 then(if List.length ([UInt8.ofNat 112,UInt8.ofNat 97,UInt8.ofNat 121,UInt8.ofNat 109,UInt8.ofNat 101,UInt8.ofNat 110,UInt8.ofNat 116,UInt8.ofNat 32]++C.toStr (dk d1 0))+4≤140737488355328 then(q0T N (C.get a0 1) (fun d2 m2=>(if List.length ([UInt8.ofNat 112,UInt8.ofNat 97,UInt8.ofNat 121,UInt8.ofNat 109,UInt8.ofNat 101,UInt8.ofNat 110,UInt8.ofNat 116,UInt8.ofNat 32]++C.toStr (dk d1 0)++[UInt8.ofNat 32,UInt8.ofNat 98,UInt8.ofNat 121,UInt8.ofNat 32])+List.length (C.toStr (dk d2 0))≤140737488355328 then(if List.length ([UInt8.ofNat 112,UInt8.ofNat 97,UInt8.ofNat 121,UInt8.ofNat 109,UInt8.ofNat 101,UInt8.ofNat 110,UInt8.ofNat 116,UInt8.ofNat 32]++C.toStr (dk d1 0)++[UInt8.ofNat 32,UInt8.ofNat 98,UInt8.ofNat 121,UInt8.ofNat 32]++C.toStr (dk d2 0))+4≤140737488355328 then(r7 N (C.get a0 2) (fun d3 m3=>(if List.length ([UInt8.ofNat 112,UInt8.ofNat 97,UInt8.ofNat 121,UInt8.ofNat 109,UInt8.ofNat 101,UInt8.ofNat 110,UInt8.ofNat 116,UInt8.ofNat 32]++C.toStr (dk d1 0)++[UInt8.ofNat 32,UInt8.ofNat 98,UInt8.ofNat 121,UInt8.ofNat 32]++C.toStr (dk d2 0)++[UInt8.ofNat 32,UInt8.ofNat 111,UInt8.ofNat 102,UInt8.ofNat 32])+List.length (C.toStr (dk d3 0))≤140737488355328 then(if List.length ([UInt8.ofNat 112,UInt8.ofNat 97,UInt8.ofNat 121,UInt8.ofNat 109,UInt8.ofNat 101,UInt8.ofNat 110,UInt8.ofNat 116,UInt8.ofNat 32]++C.toStr (dk d1 0)++[UInt8.ofNat 32,UInt8.ofNat 98,UInt8.ofNat 121,UInt8.ofNat 32]++C.toStr (dk d2 0)++[UInt8.ofNat 32,UInt8.ofNat 111,UInt8.ofNat 102,UInt8.ofNat 32]++C.toStr (dk d3 0))+5≤140737488355328 then(F3 N (C.get a0 3) (fun d4 m4=>(if List.length ([UInt8.ofNat 112,UInt8.ofNat 97,UInt8.ofNat 121,UInt8.ofNat 109,UInt8.ofNat 101,UInt8.ofNat 110,UInt8.ofNat 116,UInt8.ofNat 32]++C.toStr (dk d1 0)++[UInt8.ofNat 32,UInt8.ofNat 98,UInt8.ofNat 121,UInt8.ofNat 32]++C.toStr (dk d2 0)++[UInt8.ofNat 32,UInt8.ofNat 111,UInt8.ofNat 102,UInt8.ofNat 32]++C.toStr (dk d3 0)++[UInt8.ofNat 32,UInt8.ofNat 102,UInt8.ofNat 111,UInt8.ofNat 114,UInt8.ofNat 32])+List.length (C.toStr (dk d4 0))≤140737488355328 then(if List.length ([UInt8.ofNat 112,UInt8.ofNat 97,UInt8.ofNat 121,UInt8.ofNat 109,UInt8.ofNat 101,UInt8.ofNat 110,UInt8.ofNat 116,UInt8.ofNat 32]++C.toStr (dk d1 0)++[UInt8.ofNat 32,UInt8.ofNat 98,UInt8.ofNat 121,UInt8.ofNat 32]++C.toStr (dk d2 0)++[UInt8.ofNat 32,UInt8.ofNat 111,UInt8.ofNat 102,UInt8.ofNat 32]++C.toStr (dk d3 0)++[UInt8.ofNat 32,UInt8.ofNat 102,UInt8.ofNat 111,UInt8.ofNat 114,UInt8.ofNat 32]++C.toStr (dk d4 0))+7≤140737488355328 then(r7 N (C.get a0 4) (fun d5 m5=>(if List.length ([UInt8.ofNat 112,UInt8.ofNat 97,UInt8.ofNat 121,UInt8.ofNat 109,UInt8.ofNat 101,UInt8.ofNat 110,UInt8.ofNat 116,UInt8.ofNat 32]++C.toStr (dk d1 0)++[UInt8.ofNat 32,UInt8.ofNat 98,UInt8.ofNat 121,UInt8.ofNat 32]++C.toStr (dk d2 0)++[UInt8.ofNat 32,UInt8.ofNat 111,UInt8.ofNat 102,UInt8.ofNat 32]++C.toStr (dk d3 0)++[UInt8.ofNat 32,UInt8.ofNat 102,UInt8.ofNat 111,UInt8.ofNat 114,UInt8.ofNat 32]++C.toStr (dk d4 0)++[UInt8.ofNat 32,UInt8.ofNat 117,UInt8.ofNat 112,UInt8.ofNat 32,UInt8.ofNat 116,UInt8.ofNat 111,UInt8.ofNat 32])+List.length (C.toStr (dk d5 0))≤140737488355328 then(k1 [C.str ([UInt8.ofNat 112,UInt8.ofNat 97,UInt8.ofNat 121,UInt8.ofNat 109,UInt8.ofNat 101,UInt8.ofNat 110,UInt8.ofNat 116,UInt8.ofNat 32]++C.toStr (dk d1 0)++[UInt8.ofNat 32,UInt8.ofNat 98,UInt8.ofNat 121,UInt8.ofNat 32]++C.toStr (dk d2 0)++[UInt8.ofNat 32,UInt8.ofNat 111,UInt8.ofNat 102,UInt8.ofNat 32]++C.toStr (dk d3 0)++[UInt8.ofNat 32,UInt8.ofNat 102,UInt8.ofNat 111,UInt8.ofNat 114,UInt8.ofNat 32]++C.toStr (dk d4 0)++[UInt8.ofNat 32,UInt8.ofNat 117,UInt8.ofNat 112,UInt8.ofNat 32,UInt8.ofNat 116,UInt8.ofNat 111,UInt8.ofNat 32]++C.toStr (dk d5 0))] [])else none)))else none)else none)))else none)else none)))else none)else none)))else none)else none)))
noncomputable def H5 {R:Type} (N:Nat):C→KD R→Option R:=lid "" (q1j N)
theorem q5Q {R:Type} (N:Nat) (a0:C) (k:KD R):H5 N a0 k=q1j N a0 k:=by unfold H5;rw[Z8]
theorem z0C {R:Type} (N:Nat) (a0:C) (K:V→List (Key × O)→Option R):exF (X0 gl0) ((q5R N).ov R) q0e (fun f r=>bif Nat.beq f 29 then(bif Nat.beq r 0 then[(1,5)]else bif Nat.beq r 1 then[(5,7),(10,7),(15,7),(20,7),(25,7)]else[])else[]) (fun f=>bif Nat.beq f 29 then z1n else[]) N 400 8 29 [.d u1 a0] A0 K=
  H5 N a0 (fun d1 m1=>K (V.d Ty.str (dk d1 0)) []):=by
 rw[q5Q]
 exact(show _=jn (fun d1 m1=>(K (V.d Ty.str (dk d1 0)) [])) (q1j N a0) by kernel_rfl).trans (p9 _ _)
noncomputable def q3m (N:Nat) {R:Type}:OvG R:=fun xs _ K=>match xs with
 | [.d t0 a0]=>if t0=u1 then H5 N a0 (fun d1 m1=>K (V.d Ty.str (dk d1 0)) [])else none
 |_=>none
theorem z1m (N:Nat) {R:Type}:GOk (X0 gl0) 29 (q3m N (R:=R)):=by
 intro xs A Kr r hr
 unfold q3m at hr
 split at hr
 ·simp only[Option.ite_none_right_eq_some]at hr
  obtain⟨hty,hr⟩:=hr
  subst hty
  rw[←z0C]at hr
  exact okA (q5R N) hr
 ·cases hr
noncomputable def z3C:Hints:=[([1,0,1,1],⟨[],[(3,.sl 16 .str 5003)],[],[],[],[]⟩),
  ([4,1,0,1,1],⟨[1],[(3,.sl 16 .str 5003),(4,.d (.int .i64))],[],[],[],[]⟩),
  ([9],⟨[],[(2,.sl 16 .str 5002)],[],[],[],[]⟩)]
noncomputable def q7g (N:Nat):OvS (X0 gl0) where
 g R:=[(27,q0S N),(28,q6P N),(29,q3m N)]
 ok:=fun R=>List.forall_mem_cons.2 ⟨q12 N,List.forall_mem_cons.2 ⟨z6h N,List.forall_mem_cons.2 ⟨z1m N,fun _ h=>nomatch h⟩⟩⟩
noncomputable def q2o {R:Type} (N:Nat) (k2:KD R):KD R→List C→List Es→Option R:=(fun k3 d5 m5=>(bif decide (C.toInt (dk d5 2)<(↑(List.length (C.elems (C.get (dk d5 0) 4))):Int))then(if 0≤C.toInt (dk d5 2)∧C.toInt (dk d5 2)<(↑(List.length (C.elems (C.get (dk d5 0) 4))):Int)then(H5 N (List.getD (C.elems (C.get (dk d5 0) 4)) (Int.toNat (C.toInt (dk d5 2))) C.nil) (fun d6 m6=>(bif Nat.beq (List.length (C.elems (dk d5 1))) (List.length (C.elems (dk d5 1)))then(if(List.length (C.elems (dk d5 1))+1)*16≤140737488355328∧List.length (C.elems (dk d5 1))+1≤9223372036854775807 then(bif Nat.beq (List.length (C.elems (dk d5 1))+1) (List.length (C.elems (dk d5 1)++[dk d6 0]))then(k3 [dk d5 0,C.slice (C.elems (dk d5 1)++[dk d6 0]),C.int (wrap i64 (C.toInt (dk d5 2)+1))] [])else none)else none)else none)))else none)else(bif Nat.beq (List.length (C.elems (dk d5 1))) (List.length (C.elems (dk d5 1)))then(k2 [C.slice (C.elems (dk d5 1))] [])else none)))
noncomputable def q08 {R:Type} (N:Nat) (a0:C) (k1:KD R):Option R:=(r7 N (C.int (wrap u64 (C.toInt (C.get a0 0)))) (fun d1 m1=>(if 8+List.length (C.toStr (dk d1 0))≤140737488355328 then(if List.length ([UInt8.ofNat 99,UInt8.ofNat 104,UInt8.ofNat 97,UInt8.ofNat 110,UInt8.ofNat 110,UInt8.ofNat 101,UInt8.ofNat 108,UInt8.ofNat 32]++C.toStr (dk d1 0))+7≤140737488355328 then(r7 N (C.get a0 1) (fun d2 m2=>(if List.length ([UInt8.ofNat 99,UInt8.ofNat 104,UInt8.ofNat 97,UInt8.ofNat 110,UInt8.ofNat 110,UInt8.ofNat 101,UInt8.ofNat 108,UInt8.ofNat 32]++C.toStr (dk d1 0)++[UInt8.ofNat 32,UInt8.ofNat 114,UInt8.ofNat 111,UInt8.ofNat 117,UInt8.ofNat 110,UInt8.ofNat 100,UInt8.ofNat 32])+List.length (C.toStr (dk d2 0))≤140737488355328 then(if List.length ([UInt8.ofNat 99,UInt8.ofNat 104,UInt8.ofNat 97,UInt8.ofNat 110,UInt8.ofNat 110,UInt8.ofNat 101,UInt8.ofNat 108,UInt8.ofNat 32]++C.toStr (dk d1 0)++[UInt8.ofNat 32,UInt8.ofNat 114,UInt8.ofNat 111,UInt8.ofNat 117,UInt8.ofNat 110,UInt8.ofNat 100,UInt8.ofNat 32]++C.toStr (dk d2 0))+7≤140737488355328 then(q0R N (C.get a0 2) (fun d3 m3=>(if List.length ([UInt8.ofNat 99,UInt8.ofNat 104,UInt8.ofNat 97,UInt8.ofNat 110,UInt8.ofNat 110,UInt8.ofNat 101,UInt8.ofNat 108,UInt8.ofNat 32]++C.toStr (dk d1 0)++[UInt8.ofNat 32,UInt8.ofNat 114,UInt8.ofNat 111,UInt8.ofNat 117,UInt8.ofNat 110,UInt8.ofNat 100,UInt8.ofNat 32]++C.toStr (dk d2 0)++[UInt8.ofNat 32,UInt8.ofNat 109,UInt8.ofNat 111,UInt8.ofNat 118,UInt8.ofNat 101,UInt8.ofNat 100,UInt8.ofNat 32])+List.length (C.toStr (dk d3 0))≤140737488355328 then(if List.length ([UInt8.ofNat 99,UInt8.ofNat 104,UInt8.ofNat 97,UInt8.ofNat 110,UInt8.ofNat 110,UInt8.ofNat 101,UInt8.ofNat 108,UInt8.ofNat 32]++C.toStr (dk d1 0)++[UInt8.ofNat 32,UInt8.ofNat 114,UInt8.ofNat 111,UInt8.ofNat 117,UInt8.ofNat 110,UInt8.ofNat 100,UInt8.ofNat 32]++C.toStr (dk d2 0)++[UInt8.ofNat 32,UInt8.ofNat 109,UInt8.ofNat 111,UInt8.ofNat 118,UInt8.ofNat 101,UInt8.ofNat 100,UInt8.ofNat 32]++C.toStr (dk d3 0))+7≤140737488355328 then(q0R N (C.get a0 3) (fun d4 m4=>(if List.length ([UInt8.ofNat 99,UInt8.ofNat 104,UInt8.ofNat 97,UInt8.ofNat 110,UInt8.ofNat 110,UInt8.ofNat 101,UInt8.ofNat 108,UInt8.ofNat 32]++C.toStr (dk d1 0)++[UInt8.ofNat 32,UInt8.ofNat 114,UInt8.ofNat 111,UInt8.ofNat 117,UInt8.ofNat 110,UInt8.ofNat 100,UInt8.ofNat 32]++C.toStr (dk d2 0)++[UInt8.ofNat 32,UInt8.ofNat 109,UInt8.ofNat 111,UInt8.ofNat 118,UInt8.ofNat 101,UInt8.ofNat 100,UInt8.ofNat 32]++C.toStr (dk d3 0)++[UInt8.ofNat 32,UInt8.ofNat 116,UInt8.ofNat 97,UInt8.ofNat 107,UInt8.ofNat 101,UInt8.ofNat 110,UInt8.ofNat 32])+List.length (C.toStr (dk d4 0))≤140737488355328 then(jn (fun d5 m5=>(bif Nat.beq (List.length (C.elems (dk d5 0))) (List.length (C.elems (dk d5 0)))then(k1 [C.slice (C.elems (dk d5 0))] [])else none)) (fun k2=>(Y1 N (q2o N k2) [a0,C.slice [C.str ([UInt8.ofNat 99,UInt8.ofNat 104,UInt8.ofNat 97,UInt8.ofNat 110,UInt8.ofNat 110,UInt8.ofNat 101,UInt8.ofNat 108,UInt8.ofNat 32]++C.toStr (dk d1 0)++[UInt8.ofNat 32,UInt8.ofNat 114,UInt8.ofNat 111,UInt8.ofNat 117,UInt8.ofNat 110,UInt8.ofNat 100,UInt8.ofNat 32]++C.toStr (dk d2 0)++[UInt8.ofNat 32,UInt8.ofNat 109,UInt8.ofNat 111,UInt8.ofNat 118,UInt8.ofNat 101,UInt8.ofNat 100,UInt8.ofNat 32]++C.toStr (dk d3 0)++[UInt8.ofNat 32,UInt8.ofNat 116,UInt8.ofNat 97,UInt8.ofNat 107,UInt8.ofNat 101,UInt8.ofNat 110,UInt8.ofNat 32]++C.toStr (dk d4 0))],C.int 0] [])))else none)))else none)else none)))else none)else none)))else none)else none)))
noncomputable def q0H {R:Type} (N:Nat):C→KD R→Option R:=lid "" (q08 N)
theorem q7f {R:Type} (N:Nat) (a0:C) (k:KD R):q0H N a0 k=q08 N a0 k:=by unfold q0H;rw[Z8]
theorem z2j {R:Type} (N:Nat) (a0:C) (K:V→List (Key × O)→Option R):exF (X0 gl0) ((q7g N).ov R) q0e (fun f r=>bif Nat.beq f 9 then(bif Nat.beq r 0 then[(1,5)]else bif Nat.beq r 1 then[(25,4),(8,7),(13,7),(18,7),(23,7)]else[])else[]) (fun f=>bif Nat.beq f 9 then z3C else[]) N 400 8 9 [.d v7 a0] A0 K=
  q0H N a0 (fun d1 m1=>K (V.ts 16 Ty.str (C.elems (dk d1 0))) []):=by
 rw[q7f]
 exact(show _=jn (fun d1 m1=>(bif Nat.beq (List.length (C.elems (dk d1 0))) (List.length (C.elems (dk d1 0)))then
  (K (V.ts 16 Ty.str (C.elems (dk d1 0))) [])
 else
  none)) (q08 N a0) by kernel_rfl).trans ((p9 _ _).trans (congrArg (q08 N a0) (funext fun _=>funext fun _=>by simp only[Nat.beq_refl,cond_true])))
noncomputable def q43 (N:Nat) {R:Type}:OvG R:=fun xs _ K=>match xs with
 | [.d t0 a0]=>if t0=v7 then q0H N a0 (fun d1 m1=>K (V.ts 16 Ty.str (C.elems (dk d1 0))) [])else none
 |_=>none
theorem z3B (N:Nat) {R:Type}:GOk (X0 gl0) 9 (q43 N (R:=R)):=by
 intro xs A Kr r hr
 unfold q43 at hr
 split at hr
 ·simp only[Option.ite_none_right_eq_some]at hr
  obtain⟨hty,hr⟩:=hr
  subst hty
  rw[←z2j]at hr
  exact okA (q7g N) hr
 ·cases hr
end Go.Proofs.YtoademomlabgnaaDoor
namespace Go.Proofs.YtoademomlabgnaaDoor
open Go Go.E
open Go.IntKind (wrap u64 u32 u8 i64 i32)
set_option maxRecDepth 100000
set_option maxHeartbeats 4000000
set_option linter.unusedSimpArgs false
variable {R:Type} {N:Nat}
structure q6K (c:C):Prop where
 eta:c= .agg [c.get 0,c.get 1,c.get 2,c.get 3,c.get 4]
 id:W64 (c.get 0).toInt
 id':q1N (c.get 0)
 by_:W63 (c.get 1).toInt
 by':q1N (c.get 1)
 am:W64 (c.get 2).toInt
 am':q1N (c.get 2)
 hash:q8B (c.get 3)
 exp:W64 (c.get 4).toInt
 exp':q1N (c.get 4)
structure z0y (c:C):Prop where
 eta:c= .agg [c.get 0,c.get 1]
 a:W64 (c.get 0).toInt
 a':q1N (c.get 0)
 b:W64 (c.get 1).toInt
 b':q1N (c.get 1)
structure StR (s:C):Prop where
 eta:s= .agg [s.get 0,s.get 1,s.get 2,s.get 3,.slice (s.get 4).elems]
 ch:W64 (s.get 0).toInt
 ch':q1N (s.get 0)
 rd:W64 (s.get 1).toInt
 rd':q1N (s.get 1)
 mv:z0y (s.get 2)
 tk:z0y (s.get 3)
 cs:∀c∈(s.get 4).elems,q6K c
 ln:(s.get 4).elems.length≤40
def q9w (c:C):List UInt8:=[UInt8.ofNat 112,UInt8.ofNat 97,UInt8.ofNat 121,UInt8.ofNat 109,UInt8.ofNat 101,UInt8.ofNat 110,UInt8.ofNat 116,UInt8.ofNat 32]++X5 (c.get 0).toInt++[UInt8.ofNat 32,UInt8.ofNat 98,UInt8.ofNat 121,UInt8.ofNat 32]++Q9 (c.get 1).toInt++[UInt8.ofNat 32,UInt8.ofNat 111,UInt8.ofNat 102,UInt8.ofNat 32]++X5 (c.get 2).toInt++[UInt8.ofNat 32,UInt8.ofNat 102,UInt8.ofNat 111,UInt8.ofNat 114,UInt8.ofNat 32]++q2C (c.get 3)++[UInt8.ofNat 32,UInt8.ofNat 117,UInt8.ofNat 112,UInt8.ofNat 32,UInt8.ofNat 116,UInt8.ofNat 111,UInt8.ofNat 32]++X5 (c.get 4).toInt
def q4w (s:C):List UInt8:=[UInt8.ofNat 99,UInt8.ofNat 104,UInt8.ofNat 97,UInt8.ofNat 110,UInt8.ofNat 110,UInt8.ofNat 101,UInt8.ofNat 108,UInt8.ofNat 32]++X5 (s.get 0).toInt++[UInt8.ofNat 32,UInt8.ofNat 114,UInt8.ofNat 111,UInt8.ofNat 117,UInt8.ofNat 110,UInt8.ofNat 100,UInt8.ofNat 32]++X5 (s.get 1).toInt++[UInt8.ofNat 32,UInt8.ofNat 109,UInt8.ofNat 111,UInt8.ofNat 118,UInt8.ofNat 101,UInt8.ofNat 100,UInt8.ofNat 32]++z1d ((s.get 2).get 0) ((s.get 2).get 1)++[UInt8.ofNat 32,UInt8.ofNat 116,UInt8.ofNat 97,UInt8.ofNat 107,UInt8.ofNat 101,UInt8.ofNat 110,UInt8.ofNat 32]++z1d ((s.get 3).get 0) ((s.get 3).get 1)
def q2R (c:C):C:=.str (q9w c)
def q0O (s:C):List C:=.str (q4w s)::(s.get 4).elems.map q2R
theorem q2j (c:C) (h:q8B c):(q2C c).length=8:=by
 have:=h.len
 unfold q2C
 rw[q1g,List.length_take];omega
theorem q7Z (c:C) (h:W64 c.toInt) (hN:100<N) (k:KD R):k8 N (.slice [c]) k=k [.str (X5 c.toInt)] []:=
 z6J [c] (fun x hx=>by rw[List.mem_singleton.1 hx];exact h) (by simp) hN k
theorem y5o (c:C) (h:z0y c) (hN:100<N) (k:KD R):k8 N (.slice (cut c.elems 0 2)) k=k [.str (z1d (c.get 0) (c.get 1))] []:=by
 have e:cut c.elems 0 2=[c.get 0,c.get 1]:=by rw[h.eta];rfl
 rw[e,z6J [c.get 0,c.get 1] (fun x hx=>by simp only[List.mem_cons,List.mem_singleton,List.not_mem_nil,or_false]at hx;rcases hx with rfl|rfl;exact h.a;exact h.b) (by simp) hN k]
 rfl
theorem q96 {a b:C} (ha:W64 a.toInt) (hb:W64 b.toInt):(z1d a b).length≤41:=by
 have:=c7 ha
 have:=c7 hb
 unfold z1d
 simp only[List.length_append,List.length_cons,List.length_nil];omega
theorem y4b (c:C) (h:q6K c) (hN:100<N) (k:KD R):H5 N c k=k [q2R c] []:=by
 have a1:=c7 h.id
 have a2:=z1F h.by_
 have a3:=c7 h.am
 have a4:=q2j _ h.hash
 have a5:=c7 h.exp
 rw[q5Q]
 unfold q1j q2R q9w
 rw[X2 _ h.id h.id' hN]
 refine(if_pos (by simp only[x7,x8,x5,List.length_append,List.length_cons,List.length_nil];omega)).trans ?_
 refine(if_pos (by simp only[x7,x8,x5,List.length_append,List.length_cons,List.length_nil];omega)).trans ?_
 rw[z4r _ h.by_ hN]
 refine(if_pos (by simp only[x7,x8,x5,List.length_append,List.length_cons,List.length_nil];omega)).trans ?_
 refine(if_pos (by simp only[x7,x8,x5,List.length_append,List.length_cons,List.length_nil];omega)).trans ?_
 rw[X2 _ h.am h.am' hN]
 refine(if_pos (by simp only[x7,x8,x5,List.length_append,List.length_cons,List.length_nil];omega)).trans ?_
 refine(if_pos (by simp only[x7,x8,x5,List.length_append,List.length_cons,List.length_nil];omega)).trans ?_
 rw[z4q _ h.hash hN]
 refine(if_pos (by simp only[x7,x8,x5,List.length_append,List.length_cons,List.length_nil];omega)).trans ?_
 refine(if_pos (by simp only[x7,x8,x5,List.length_append,List.length_cons,List.length_nil];omega)).trans ?_
 rw[X2 _ h.exp h.exp' hN]
 exact if_pos (by simp only[x7,x8,x5,List.length_append,List.length_cons,List.length_nil];omega)
theorem z4F {l:List C} {i:Nat} (h:i<l.length):(l.take (i+1)).map q2R=(l.take i).map q2R++[q2R (l.getD i .nil)]:=by
 rw[List.take_add_one,List.getElem?_eq_getElem h,List.getD_eq_getElem?_getD,List.getElem?_eq_getElem h,List.map_append];rfl
theorem z7Y (s:C) (h:StR s) (hN:100<N) (k:KD R):J1 N s k=k [.slice (q0O s)] []:=by
 have a1:=c7 h.ch
 have a2:=c7 h.rd
 have a3:=q96 h.mv.a h.mv.b
 have a4:=q96 h.tk.a h.tk.b
 have hcs:=h.cs
 have hln:=h.ln
 have ec:u64.wrap (s.get 0).toInt=(s.get 0).toInt:=wrap_u64 h.ch.1 h.ch.2
 rw[q6r]
 unfold q0M
 rw[ec,q7Z (.int (s.get 0).toInt) h.ch hN]
 refine(if_pos (by simp only[x7,x8,x5,List.length_append,List.length_cons,List.length_nil];omega)).trans ?_
 refine(if_pos (by simp only[x7,x8,x5,List.length_append,List.length_cons,List.length_nil];omega)).trans ?_
 rw[q7Z _ h.rd hN]
 refine(if_pos (by simp only[x7,x8,x5,List.length_append,List.length_cons,List.length_nil];omega)).trans ?_
 refine(if_pos (by simp only[x7,x8,x5,List.length_append,List.length_cons,List.length_nil];omega)).trans ?_
 rw[y5o _ h.mv hN]
 refine(if_pos (by simp only[x7,x8,x5,List.length_append,List.length_cons,List.length_nil];omega)).trans ?_
 refine(if_pos (by simp only[x7,x8,x5,List.length_append,List.length_cons,List.length_nil];omega)).trans ?_
 rw[y5o _ h.tk hN]
 refine(if_pos (by simp only[x7,x8,x5,List.length_append,List.length_cons,List.length_nil];omega)).trans ?_
 rw[p9]
 unfold q0O
 have key:=q0i (F:=q1R N fun d5 m5=>bif Nat.beq (List.length (C.elems (dk d5 0))) (List.length (C.elems (dk d5 0)))then k [C.slice (C.elems (dk d5 0))] []else none)
  (fun i=>[s.get 4,.int (s.get 4).elems.length,.slice (.str (q4w s)::((s.get 4).elems.take i).map q2R),.int i]) (fun _=>[]) (s.get 4).elems.length (k [.slice (.str (q4w s)::(s.get 4).elems.map q2R)] []) ?_ ?_ (N:=N) (by omega)
 ·exact key
 ·intro i hi rec
  have h1:(i:Int)<((s.get 4).elems.length:Int):=by omega
  have hc:=hcs _ (F5 hi)
  have h3:(((s.get 4).elems.take i).map q2R).length=i:=by rw[List.length_map,List.length_take];omega
  obtain⟨c,hcE⟩:∃c,(s.get 4).elems.getD i .nil=c:=⟨_,rfl⟩
  rw[hcE]at hc
  have g1:(i+1+1)*16≤140737488355328∧i+1+1≤9223372036854775807:=by omega
  unfold q1R
  simp only[x7,Y4,Q5,X6,x5,X4,h1,decide_true,cond_true,Int.natCast_nonneg,and_self,if_true,Int.toNat_natCast,hcE,z4F hi,h3,Nat.beq_refl,List.length_cons]
  have b1:=c7 hc.id
  have b2:=z1F hc.by_
  have b3:=c7 hc.am
  have b4:=q2j _ hc.hash
  have b5:=c7 hc.exp
  rw[q7Z _ hc.id hN]
  refine(if_pos (by simp only[x7,x8,x5,List.length_append,List.length_cons,List.length_nil];omega)).trans ?_
  refine(if_pos (by simp only[x7,x8,x5,List.length_append,List.length_cons,List.length_nil];omega)).trans ?_
  refine(if_pos (by simp only[x7,x8,x5,List.length_append,List.length_cons,List.length_nil];omega)).trans ?_
  refine(if_pos (by simp only[x7,x8,x5,List.length_append,List.length_cons,List.length_nil];omega)).trans ?_
  rw[q7Z _ hc.am hN]
  refine(if_pos (by simp only[x7,x8,x5,List.length_append,List.length_cons,List.length_nil];omega)).trans ?_
  refine(if_pos (by simp only[x7,x8,x5,List.length_append,List.length_cons,List.length_nil];omega)).trans ?_
  rw[z57 _ hc.hash hN]
  refine(if_pos (by simp only[x7,x8,x5,List.length_append,List.length_cons,List.length_nil];omega)).trans ?_
  refine(if_pos (by simp only[x7,x8,x5,List.length_append,List.length_cons,List.length_nil];omega)).trans ?_
  rw[q7Z _ hc.exp hN]
  refine(if_pos (by simp only[x7,x8,x5,List.length_append,List.length_cons,List.length_nil];omega)).trans ?_
  simp only[x7,x8]
  refine(if_pos g1).trans ?_
  simp only[List.length_append,List.length_cons,List.length_nil,Nat.zero_add,List.cons_append,h3,Nat.beq_refl,cond_true,q0h (show i<4611686018427387904 by omega)]
  rfl
 ·intro rec
  unfold q1R
  simp only[x7,Y4,Q5,X6,x5,X4,Int.lt_irrefl,decide_false,cond_false,List.take_length,Nat.beq_refl,cond_true]
theorem y09 (s:C) (h:StR s) (hN:100<N) (k:KD R):q0H N s k=k [.slice (q0O s)] []:=by
 have a1:=c7 h.ch
 have a2:=c7 h.rd
 have a3:=q96 h.mv.a h.mv.b
 have a4:=q96 h.tk.a h.tk.b
 have hcs:=h.cs
 have hln:=h.ln
 have ec:u64.wrap (s.get 0).toInt=(s.get 0).toInt:=wrap_u64 h.ch.1 h.ch.2
 rw[q7f]
 unfold q08
 rw[ec,q7U _ h.ch hN]
 refine(if_pos (by simp only[x7,x8,x5,List.length_append,List.length_cons,List.length_nil];omega)).trans ?_
 refine(if_pos (by simp only[x7,x8,x5,List.length_append,List.length_cons,List.length_nil];omega)).trans ?_
 rw[X2 _ h.rd h.rd' hN]
 refine(if_pos (by simp only[x7,x8,x5,List.length_append,List.length_cons,List.length_nil];omega)).trans ?_
 refine(if_pos (by simp only[x7,x8,x5,List.length_append,List.length_cons,List.length_nil];omega)).trans ?_
 rw[y0W _ h.mv.a h.mv.b h.mv.a' h.mv.b' hN]
 refine(if_pos (by simp only[x7,x8,x5,List.length_append,List.length_cons,List.length_nil];omega)).trans ?_
 refine(if_pos (by simp only[x7,x8,x5,List.length_append,List.length_cons,List.length_nil];omega)).trans ?_
 rw[y0W _ h.tk.a h.tk.b h.tk.a' h.tk.b' hN]
 refine(if_pos (by simp only[x7,x8,x5,List.length_append,List.length_cons,List.length_nil];omega)).trans ?_
 rw[p9]
 unfold q0O
 have key:=q0i (F:=q2o N fun d5 m5=>bif Nat.beq (List.length (C.elems (dk d5 0))) (List.length (C.elems (dk d5 0)))then k [C.slice (C.elems (dk d5 0))] []else none)
  (fun i=>[s,.slice (.str (q4w s)::((s.get 4).elems.take i).map q2R),.int i]) (fun _=>[]) (s.get 4).elems.length (k [.slice (.str (q4w s)::(s.get 4).elems.map q2R)] []) ?_ ?_ (N:=N) (by omega)
 ·exact key
 ·intro i hi rec
  have h1:(i:Int)<((s.get 4).elems.length:Int):=by omega
  have hc:=hcs _ (F5 hi)
  have h3:(((s.get 4).elems.take i).map q2R).length=i:=by rw[List.length_map,List.length_take];omega
  have g1:(i+1+1)*16≤140737488355328∧i+1+1≤9223372036854775807:=by omega
  unfold q2o
  simp only[x7,Y4,Q5,X6,x5,X4,h1,decide_true,cond_true,Int.natCast_nonneg,and_self,if_true,Int.toNat_natCast,y4b _ hc hN,Nat.beq_refl,List.length_cons,h3,g1,List.length_append,List.length_nil,Nat.zero_add,q0h (show i<4611686018427387904 by omega),z4F hi,List.cons_append]
 ·intro rec
  unfold q2o
  simp only[x7,Y4,Q5,X6,x5,X4,Int.lt_irrefl,decide_false,cond_false,List.take_length,Nat.beq_refl,cond_true]
end Go.Proofs.YtoademomlabgnaaDoor
namespace Go.Proofs.YtoademomlabgnaaDoor
open Go Go.E
open Go.IntKind (wrap u64 u32 u8 i64 i32)
set_option maxRecDepth 100000
set_option maxHeartbeats 4000000
set_option linter.unusedVariables false
noncomputable def z3w:Hints:=[([0,0,1],⟨[0,1],[(12,.d .bool)],[],[],[],[]⟩),
  ([9],⟨[],[(4,.d .str)],[],[],[],[]⟩)]
noncomputable def q7a (N:Nat):OvS (X0 gl0) where
 g R:=[(54,q9N N)]
 ok:=fun R=>List.forall_mem_cons.2 ⟨z3W N,fun _ h=>nomatch h⟩
noncomputable def q06 {R:Type} (N:Nat) (a0 a1:C) (k1:KD R):Option R:=(jn (fun d1 m1=>(bif C.toBool (dk d1 2)then(k1 [C.str (Q9 (C.toInt (dk d1 1)))] [])else(if 0≤C.toInt (dk d1 1)∧C.toInt (dk d1 1)<(↑(List.length (C.elems (dk d1 0))):Int)then(k1 [List.getD (C.elems (dk d1 0)) (Int.toNat (C.toInt (dk d1 1))) C.nil] [])else none))) (fun k2=>(bif decide (C.toInt a1<0)then(k2 [a0,a1,C.bool true] [])else(k2 [a0,a1,C.bool (decide ((↑(List.length (C.elems a0)):Int)≤C.toInt a1))] []))))
noncomputable def U2 {R:Type} (N:Nat):C→C→KD R→Option R:=lid "" (q06 N)
theorem q3V {R:Type} (N:Nat) (a0 a1:C) (k:KD R):U2 N a0 a1 k=q06 N a0 a1 k:=by unfold U2;rw[Z8]
theorem z2a {R:Type} (N:Nat) (a0 a1:C) (K:V→List (Key × O)→Option R):exF (X0 gl0) ((q7a N).ov R) q0e noX (fun f=>bif Nat.beq f 30 then z3w else[]) N 400 8 30 [.d (.slice 16 .str) a0,.d (.int .i64) a1] A0 K=
  U2 N a0 a1 (fun d1 m1=>K (V.d Ty.str (dk d1 0)) []):=by
 rw[q3V]
 exact(show _=jn (fun d1 m1=>(K (V.d Ty.str (dk d1 0)) [])) (q06 N a0 a1) by kernel_rfl).trans (p9 _ _)
noncomputable def q41 (N:Nat) {R:Type}:OvG R:=fun xs _ K=>match xs with
 | [.d t0 a0,.d t1 a1]=>if t0=(.slice 16 .str)∧t1=(.int .i64)then U2 N a0 a1 (fun d1 m1=>K (V.d Ty.str (dk d1 0)) [])else none
 |_=>none
theorem z3v (N:Nat) {R:Type}:GOk (X0 gl0) 30 (q41 N (R:=R)):=by
 intro xs A Kr r hr
 unfold q41 at hr
 split at hr
 ·simp only[Option.ite_none_right_eq_some]at hr
  obtain⟨hty,hr⟩:=hr
  obtain⟨rfl,rfl⟩:=hty
  rw[←z2a]at hr
  exact okA (q7a N) hr
 ·cases hr
noncomputable def z3z:Hints:=[([1,0,4,1,0,1,1],⟨[1,3,9],[(10,.d .bool)],[],[],[],[]⟩),
  ([1,4,1,0,1,1],⟨[],[(3,.d .str)],[],[],[],[]⟩),
  ([1,3,1,4,1,0,1,1],⟨[],[(3,.d .str)],[],[],[],[]⟩),
  ([1,0,3,1,3,1,4,1,0,1,1],⟨[1,3],[(42,.d .bool)],[],[],[],[]⟩),
  ([1,3,1,3,1,4,1,0,1,1],⟨[],[(3,.d .str)],[],[],[],[]⟩),
  ([9],⟨[],[(2,.d .str)],[],[],[],[]⟩)]
noncomputable def q7c (N:Nat):OvS (X0 gl0) where
 g R:=[(23,q3k N),(25,q2m N),(30,q41 N)]
 ok:=fun R=>List.forall_mem_cons.2 ⟨q8I N,List.forall_mem_cons.2 ⟨q6q N,List.forall_mem_cons.2 ⟨z3v N,fun _ h=>nomatch h⟩⟩⟩
noncomputable def q2n {R:Type} (N:Nat) (a0:C) (k1:KD R):Option R:=(U2 N (C.slice (cut [C.str [112,97,115,115],C.str [112,97,121],C.str [108,111,99,107],C.str [100,111,110,101],C.str [117,110,100,111],C.str [116,97,107,101]] 0 6)) (C.get a0 0) (fun d1 m1=>(jn (fun d2 m2=>(jn (fun d3 m3=>(k1 [dk d3 0] [])) (fun k2=>(bif C.toBool (dk d2 3)then(k8 N (C.slice [C.get (dk d2 0) 1]) (fun d3 m3=>(if 1+List.length (C.toStr (dk d3 0))≤140737488355328 then(if List.length (C.toStr (dk d2 1))+List.length ([UInt8.ofNat 32]++C.toStr (dk d3 0))≤140737488355328 then(k2 [C.str (C.toStr (dk d2 1)++([UInt8.ofNat 32]++C.toStr (dk d3 0)))] [])else none)else none)))else(jn (fun d3 m3=>(k2 [dk d3 0] [])) (fun k3=>(bif decide (C.toInt (dk d2 2)=2)then(k8 N (C.slice [C.get (C.get (dk d2 0) 2) 0,C.get (C.get (dk d2 0) 2) 2,C.get (C.get (dk d2 0) 2) 4]) (fun d3 m3=>(if 1+List.length (C.toStr (dk d3 0))≤140737488355328 then(if List.length ([UInt8.ofNat 32]++C.toStr (dk d3 0))+1≤140737488355328 then(J0 N (C.get (C.get (dk d2 0) 2) 3) (fun d4 m4=>(if List.length ([UInt8.ofNat 32]++C.toStr (dk d3 0)++[UInt8.ofNat 32])+List.length (C.toStr (dk d4 0))≤140737488355328 then(if List.length (C.toStr (dk d2 1))+List.length ([UInt8.ofNat 32]++C.toStr (dk d3 0)++[UInt8.ofNat 32]++C.toStr (dk d4 0))≤140737488355328 then(k3 [C.str (C.toStr (dk d2 1)++([UInt8.ofNat 32]++C.toStr (dk d3 0)++[UInt8.ofNat 32]++C.toStr (dk d4 0)))] [])else none)else none)))else none)else none)))else(jn (fun d3 m3=>(jn (fun d4 m4=>(k3 [dk d4 0] [])) (fun k4=>(bif C.toBool (dk d3 2)then(k8 N (C.slice [C.get (dk d3 0) 3]) (fun d4 m4=>(if 1+List.length (C.toStr (dk d4 0))≤140737488355328 then(if List.length (C.toStr (dk d3 1))+List.length ([UInt8.ofNat 32]++C.toStr (dk d4 0))≤140737488355328 then(k4 [C.str (C.toStr (dk d3 1)++([UInt8.ofNat 32]++C.toStr (dk d4 0)))] [])else none)else none)))else(k4 [dk d3 1] []))))) (fun k4=>(bif decide (C.toInt (dk d2 2)=3)then(k4 [dk d2 0,dk d2 1,z6U (C.bool (decide (C.toInt (dk d2 2)=3))) true] [])else(k4 [dk d2 0,dk d2 1,C.bool (decide (C.toInt (dk d2 2)=4))] []))))))))))) (fun k2=>(bif decide (C.toInt (C.get a0 0)=1)then(k2 [a0,dk d1 0,C.get a0 0,z6U (C.bool (decide (C.toInt (C.get a0 0)=1))) true] [])else(k2 [a0,dk d1 0,C.get a0 0,C.bool (decide (C.toInt (C.get a0 0)=5))] []))))))
noncomputable def q0F {R:Type} (N:Nat):C→KD R→Option R:=lid "" (q2n N)
theorem q7b {R:Type} (N:Nat) (a0:C) (k:KD R):q0F N a0 k=q2n N a0 k:=by unfold q0F;rw[Z8]
theorem z2c {R:Type} (N:Nat) (a0:C) (K:V→List (Key × O)→Option R):exF (X0 gl0) ((q7c N).ov R) q0e (fun f r=>bif Nat.beq f 10 then(bif Nat.beq r 0 then[(1,5)]else bif Nat.beq r 1 then[(7,8)]else bif Nat.beq r 7 then[(33,7),(39,7)]else[])else[]) (fun f=>bif Nat.beq f 10 then z3z else[]) N 400 8 10 [.d tOp a0] A0 K=
  q0F N a0 (fun d1 m1=>K (V.d Ty.str (dk d1 0)) []):=by
 rw[q7b]
 exact(show _=jn (fun d1 m1=>(K (V.d Ty.str (dk d1 0)) [])) (q2n N a0) by kernel_rfl).trans (p9 _ _)
noncomputable def q42 (N:Nat) {R:Type}:OvG R:=fun xs _ K=>match xs with
 | [.d t0 a0]=>if t0=tOp then q0F N a0 (fun d1 m1=>K (V.d Ty.str (dk d1 0)) [])else none
 |_=>none
theorem z3y (N:Nat) {R:Type}:GOk (X0 gl0) 10 (q42 N (R:=R)):=by
 intro xs A Kr r hr
 unfold q42 at hr
 split at hr
 ·simp only[Option.ite_none_right_eq_some]at hr
  obtain⟨hty,hr⟩:=hr
  subst hty
  rw[←z2c]at hr
  exact okA (q7c N) hr
 ·cases hr
noncomputable def z5c:Hints:=[([9],⟨[],[(2,.d .str)],[],[],[],[]⟩)]
noncomputable def q8L (N:Nat):OvS (X0 gl0) where
 g R:=[(27,q0S N),(31,q2P N),(32,q4n N)]
 ok:=fun R=>List.forall_mem_cons.2 ⟨q12 N,List.forall_mem_cons.2 ⟨q7j N,List.forall_mem_cons.2 ⟨q9v N,fun _ h=>nomatch h⟩⟩⟩
noncomputable def q2O {R:Type} (N:Nat) (a0:C) (k1:KD R):Option R:=(bif decide (C.toInt (C.get a0 0)=0)then(k1 [C.str [112,97,115,115]] [])else(bif decide (C.toInt (C.get a0 0)=1)then(r7 N (C.get a0 1) (fun d1 m1=>(if 4+List.length (C.toStr (dk d1 0))≤140737488355328 then(k1 [C.str ([UInt8.ofNat 112,UInt8.ofNat 97,UInt8.ofNat 121,UInt8.ofNat 32]++C.toStr (dk d1 0))] [])else none)))else(bif decide (C.toInt (C.get a0 0)=2)then(r7 N (C.get (C.get a0 2) 0) (fun d1 m1=>(if 5+List.length (C.toStr (dk d1 0))≤140737488355328 then(if List.length ([UInt8.ofNat 108,UInt8.ofNat 111,UInt8.ofNat 99,UInt8.ofNat 107,UInt8.ofNat 32]++C.toStr (dk d1 0))+1≤140737488355328 then(r7 N (C.get (C.get a0 2) 2) (fun d2 m2=>(if List.length ([UInt8.ofNat 108,UInt8.ofNat 111,UInt8.ofNat 99,UInt8.ofNat 107,UInt8.ofNat 32]++C.toStr (dk d1 0)++[UInt8.ofNat 32])+List.length (C.toStr (dk d2 0))≤140737488355328 then(if List.length ([UInt8.ofNat 108,UInt8.ofNat 111,UInt8.ofNat 99,UInt8.ofNat 107,UInt8.ofNat 32]++C.toStr (dk d1 0)++[UInt8.ofNat 32]++C.toStr (dk d2 0))+1≤140737488355328 then(r7 N (C.get (C.get a0 2) 4) (fun d3 m3=>(if List.length ([UInt8.ofNat 108,UInt8.ofNat 111,UInt8.ofNat 99,UInt8.ofNat 107,UInt8.ofNat 32]++C.toStr (dk d1 0)++[UInt8.ofNat 32]++C.toStr (dk d2 0)++[UInt8.ofNat 32])+List.length (C.toStr (dk d3 0))≤140737488355328 then(if List.length ([UInt8.ofNat 108,UInt8.ofNat 111,UInt8.ofNat 99,UInt8.ofNat 107,UInt8.ofNat 32]++C.toStr (dk d1 0)++[UInt8.ofNat 32]++C.toStr (dk d2 0)++[UInt8.ofNat 32]++C.toStr (dk d3 0))+1≤140737488355328 then(F3 N (C.get (C.get a0 2) 3) (fun d4 m4=>(if List.length ([UInt8.ofNat 108,UInt8.ofNat 111,UInt8.ofNat 99,UInt8.ofNat 107,UInt8.ofNat 32]++C.toStr (dk d1 0)++[UInt8.ofNat 32]++C.toStr (dk d2 0)++[UInt8.ofNat 32]++C.toStr (dk d3 0)++[UInt8.ofNat 32])+List.length (C.toStr (dk d4 0))≤140737488355328 then(k1 [C.str ([UInt8.ofNat 108,UInt8.ofNat 111,UInt8.ofNat 99,UInt8.ofNat 107,UInt8.ofNat 32]++C.toStr (dk d1 0)++[UInt8.ofNat 32]++C.toStr (dk d2 0)++[UInt8.ofNat 32]++C.toStr (dk d3 0)++[UInt8.ofNat 32]++C.toStr (dk d4 0))] [])else none)))else none)else none)))else none)else none)))else none)else none)))else(bif decide (C.toInt (C.get a0 0)=3)then(r7 N (C.get a0 3) (fun d1 m1=>(if 5+List.length (C.toStr (dk d1 0))≤140737488355328 then(k1 [C.str ([UInt8.ofNat 100,UInt8.ofNat 111,UInt8.ofNat 110,UInt8.ofNat 101,UInt8.ofNat 32]++C.toStr (dk d1 0))] [])else none)))else(bif decide (C.toInt (C.get a0 0)=4)then(r7 N (C.get a0 3) (fun d1 m1=>(if 5+List.length (C.toStr (dk d1 0))≤140737488355328 then(k1 [C.str ([UInt8.ofNat 117,UInt8.ofNat 110,UInt8.ofNat 100,UInt8.ofNat 111,UInt8.ofNat 32]++C.toStr (dk d1 0))] [])else none)))else(bif decide (C.toInt (C.get a0 0)=5)then(r7 N (C.get a0 1) (fun d1 m1=>(if 5+List.length (C.toStr (dk d1 0))≤140737488355328 then(k1 [C.str ([UInt8.ofNat 116,UInt8.ofNat 97,UInt8.ofNat 107,UInt8.ofNat 101,UInt8.ofNat 32]++C.toStr (dk d1 0))] [])else none)))else(q0T N (C.get a0 0) (fun d1 m1=>(k1 [dk d1 0] [])))))))))
noncomputable def q07 {R:Type} (N:Nat):C→KD R→Option R:=lid "" (q2O N)
theorem q8K {R:Type} (N:Nat) (a0:C) (k:KD R):q07 N a0 k=q2O N a0 k:=by unfold q07;rw[Z8]
theorem z3A {R:Type} (N:Nat) (a0:C) (K:V→List (Key × O)→Option R):exF (X0 gl0) ((q8L N).ov R) q0e (fun f r=>bif Nat.beq f 12 then(bif Nat.beq r 0 then[(1,5)]else bif Nat.beq r 7 then[(18,7),(24,7),(30,7),(36,7)]else[])else[]) (fun f=>bif Nat.beq f 12 then z5c else[]) N 400 8 12 [.d tOp a0] A0 K=
  q07 N a0 (fun d1 m1=>K (V.d Ty.str (dk d1 0)) []):=by
 rw[q8K]
 exact(show _=jn (fun d1 m1=>(K (V.d Ty.str (dk d1 0)) [])) (q2O N a0) by kernel_rfl).trans (p9 _ _)
noncomputable def q5P (N:Nat) {R:Type}:OvG R:=fun xs _ K=>match xs with
 | [.d t0 a0]=>if t0=tOp then q07 N a0 (fun d1 m1=>K (V.d Ty.str (dk d1 0)) [])else none
 |_=>none
theorem z5b (N:Nat) {R:Type}:GOk (X0 gl0) 12 (q5P N (R:=R)):=by
 intro xs A Kr r hr
 unfold q5P at hr
 split at hr
 ·simp only[Option.ite_none_right_eq_some]at hr
  obtain⟨hty,hr⟩:=hr
  subst hty
  rw[←z3A]at hr
  exact okA (q8L N) hr
 ·cases hr
noncomputable def z8l:Hints:=[([9],⟨[],[(2,.as (.ptr (.l 2) [] u1))],[],[(.l 2,.box (.d u1))],[],[]⟩)]
noncomputable def z0X (N:Nat):OvS (X0 gl0) where
 g R:=[]
 ok:=fun R=>fun _ h=>nomatch h
noncomputable def q2H {R:Type} (N:Nat) (a0:C) (k1:KD R):Option R:=(k1 [C.set (C.set (C.set (C.set (C.set (C.agg [C.int 0,C.int 0,C.int 0,C.agg (List.replicate 32 (C.int 0)),C.int 0]) 0 (C.get a0 0)) 1 (C.get a0 1)) 2 (C.get a0 2)) 3 (C.get a0 3)) 4 (C.get a0 4)] [])
noncomputable def q1n {R:Type} (N:Nat):C→KD R→Option R:=lid "" (q2H N)
theorem q6R {R:Type} (N:Nat) (a0:C) (k:KD R):q1n N a0 k=q2H N a0 k:=by unfold q1n;rw[Z8]
theorem z62 {R:Type} (N:Nat) (a0:C) (K:V→List (Key × O)→Option R):exF (X0 gl0) ((z0X N).ov R) q0e (fun f r=>bif Nat.beq f 26 then(bif Nat.beq r 0 then[(1,5)]else[])else[]) (fun f=>bif Nat.beq f 26 then z8l else[]) N 400 8 26 [.d u1 a0] A0 K=
  q1n N a0 (fun d1 m1=>K (V.d u1 (dk d1 0)) []):=by
 rw[q6R]
 exact(show _=jn (fun d1 m1=>(K (V.d u1 (dk d1 0)) [])) (q2H N a0) by kernel_rfl).trans (p9 _ _)
noncomputable def q5u (N:Nat) {R:Type}:OvG R:=fun xs _ K=>match xs with
 | [.d t0 a0]=>if t0=u1 then q1n N a0 (fun d1 m1=>K (V.d u1 (dk d1 0)) [])else none
 |_=>none
theorem z0Y (N:Nat) {R:Type}:GOk (X0 gl0) 26 (q5u N (R:=R)):=by
 intro xs A Kr r hr
 unfold q5u at hr
 split at hr
 ·simp only[Option.ite_none_right_eq_some]at hr
  obtain⟨hty,hr⟩:=hr
  subst hty
  rw[←z62]at hr
  exact okA (z0X N) hr
 ·cases hr
end Go.Proofs.YtoademomlabgnaaDoor
