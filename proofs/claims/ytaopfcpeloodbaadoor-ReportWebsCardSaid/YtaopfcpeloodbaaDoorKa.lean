/-
 What the functions on the way compute, part 1.
 Conditions: none.
-/
import Derived.Test.YtaopfcpeloodbaaDoorTf
import Derived.Laws.Externs
import Derived.Lib.Bytealg
import Derived.Lib.ItoaNum
import Derived.Shelf.LaysM
import Derived.Shelf.Strings.BuilderX
import Derived.Shelf.Strings.OnBuilder
import Derived.Shelf.Strings.Repeat
import Derived.Shelf.Strconv.Itoa3
import Derived.Shelf.RegionOpenPlain
import Derived.Lib.Builder
import Derived.Lib.UnsafeStr
import Derived.Laws.ComplexArith
import Derived.LoopN
import Derived.Deep.RegionHeld3
import Derived.WalkLawsBesides
set_option linter.all false
namespace Go.Proofs.YtaopfcpeloodbaaDoor
open Go Go.E
open Go.IntKind (wrap u64 u32 u8 i64 i32)
set_option maxRecDepth 10000
set_option linter.unusedSimpArgs false
variable {gl:Nat→Option (Ty × C)}
end Go.Proofs.YtaopfcpeloodbaaDoor
namespace Go.Proofs.YtaopfcpeloodbaaDoor
open Go Go.E
open Go.IntKind (wrap u64 u32 u8 i64 i32)
set_option maxRecDepth 10000
set_option linter.unusedSimpArgs false
variable {gl:Nat→Option (Ty × C)}
end Go.Proofs.YtaopfcpeloodbaaDoor
namespace Go.Proofs.YtaopfcpeloodbaaDoor
open Go Go.E
open Go.IntKind (wrap u64 u32 u8 i64 i32)
set_option maxRecDepth 100000
def q5i:List (Nat × Ty × C)→Nat→Option (Ty × C)
 | [],_=>none
 |(i,x)::l,g=>bif Nat.beq g i then some x else q5i l g
theorem z39 {gl:Nat→Option (Ty × C)}:∀{l:List (Nat × Ty × C)},l.map (fun p=>gl p.1)=l.map (fun p=>some p.2)→∀g x,q5i l g=some x→gl g=some x
 | [],_,g,x,h=>by cases h
 |(i,y)::l,h0,g,x,h=>by
  simp only[List.map_cons,List.cons.injEq]at h0
  simp only[q5i]at h
  cases hb:Nat.beq g i with
  |true=>
   rw[hb,cond_true]at h
   cases h
   rw[Nat.eq_of_beq_eq_true hb];exact h0.1
  |false=>
   rw[hb,cond_false]at h
   exact z39 h0.2 g x h
def y2i:List (Nat × Ty × C):=
 (1,.arr 20 (.int .u64),.agg (Go.Lib.pow10Tab.map C.int))::
 []
def gl0:Nat→Option (Ty × C):=q5i y2i
theorem y3O (gl:Nat→Option (Ty × C)) (h:y2i.map (fun p=>gl p.1)=y2i.map (fun p=>some p.2)):∀g x,gl0 g=some x→gl g=some x:=z39 h
def y2r:List (Nat × (List V→Option V)):=[]
def q0Q:q0r:=q94 y2r
theorem y3W (gl:Nat→Option (Ty × C)):q4V (X0 gl) y2r:=by
 unfold y2r
 repeat' refine q4V.append ?_ ⟨?_,trivial⟩
 ·exact trivial
theorem y3V (gl:Nat→Option (Ty × C)):q2h (X0 gl) q0Q:=z2t (y3W gl)
def noX:FuncId→Nat→List (Nat × Nat):=fun _ _=>[]
end Go.Proofs.YtaopfcpeloodbaaDoor
namespace Go.Proofs.YtaopfcpeloodbaaDoor
open Go Go.E
open Go.IntKind (wrap u64 u32 u8 i64 i32)
def W64 (a:Int):Prop:=0≤a∧a<18446744073709551616
theorem wrap_u8 (x:Int):u8.wrap x=x%256:=by simp[wrap,IntKind.bits,IntKind.signed]
theorem wrap_i64 {n:Int} (h: -9223372036854775808≤n) (h2:n<9223372036854775808):i64.wrap n=n:=IntWalk.i64_in _ (by omega)
theorem F9 {l:List C} {i:Nat} (h:i<l.length):l.getD i .nil∈l:=by
 rw[List.getD_eq_getElem?_getD,List.getElem?_eq_getElem h];exact List.getElem_mem h
end Go.Proofs.YtaopfcpeloodbaaDoor
set_option linter.all false
namespace Go.Proofs
open Go.Shelf Go.Lib Go.RowKit
def Tryd.z0D:Go.Shelf.Ren:=⟨fun|156=>35|165=>27|166=>28|169=>30|240=>42|241=>43|276=>47|277=>48|n=>n,fun|31=>33|9=>9|3=>3|4=>4|0=>0|20=>20|72=>86|76=>90|70=>84|37=>66|75=>89|127=>106|164=>108|5=>5|80=>93|n=>n,fun|n=>n⟩
theorem Tryd.y3K:Go.Proofs.Lays.n156 Tryd.prog Tryd.z0D:={
 mixed:=by kernel_rfl
 f156:=Tryd.func35.trans (congrArg some (by kernel_rfl))
 f165:=Tryd.func27.trans (congrArg some (by kernel_rfl))
 f166:=Tryd.func28.trans (congrArg some (by kernel_rfl))
 f169:=Tryd.func30.trans (congrArg some (by kernel_rfl))
 f240:=Tryd.func42.trans (congrArg some (by kernel_rfl))
 f241:=Tryd.func43.trans (congrArg some (by kernel_rfl))
 f276:=Tryd.func47.trans (congrArg some (by kernel_rfl))
 f277:=Tryd.func48.trans (congrArg some (by kernel_rfl))
 t0:=Tryd.underlying0
 a0:=Tryd.isAgg0
 z0:=Tryd.sizeOf0
 v0:=Tryd.zeroValue0
 t3:=Tryd.underlying3
 a3:=Tryd.isAgg3
 z3:=Tryd.sizeOf3
 v3:=Tryd.zeroValue3
 t4:=Tryd.underlying4
 a4:=Tryd.isAgg4
 z4:=Tryd.sizeOf4
 v4:=Tryd.zeroValue4
 t9:=Tryd.underlying9
 a9:=Tryd.isAgg9
 z9:=Tryd.sizeOf9
 v9:=Tryd.zeroValue9
 t20:=Tryd.underlying20
 a20:=Tryd.isAgg20
 z20:=Tryd.sizeOf20
 v20:=Tryd.zeroValue20
 t31:=Tryd.underlying33
 a31:=Tryd.isAgg33
 z31:=Tryd.sizeOf33
 v31:=Tryd.zeroValue33
 t37:=Tryd.underlying66
 a37:=Tryd.isAgg66
 z37:=Tryd.sizeOf66
 v37:=Tryd.zeroValue66
 t70:=Tryd.underlying84
 a70:=Tryd.isAgg84
 z70:=Tryd.sizeOf84
 v70:=Tryd.zeroValue84
 t72:=Tryd.underlying86
 a72:=Tryd.isAgg86
 z72:=Tryd.sizeOf86
 v72:=Tryd.zeroValue86
 t75:=Tryd.underlying89
 a75:=Tryd.isAgg89
 z75:=Tryd.sizeOf89
 v75:=Tryd.zeroValue89
 t76:=Tryd.underlying90
 a76:=Tryd.isAgg90
 z76:=Tryd.sizeOf90
 v76:=Tryd.zeroValue90
 t127:=Tryd.underlying106
 a127:=Tryd.isAgg106
 z127:=Tryd.sizeOf106
 v127:=Tryd.zeroValue106
 t164:=Tryd.underlying108
 a164:=Tryd.isAgg108
 z164:=Tryd.sizeOf108
 v164:=Tryd.zeroValue108}
theorem Tryd.z0k:Builder.Extra Tryd.prog Tryd.z0D:={
 sizeBuilder:=by kernel_rfl
 liesBuilder:=by kernel_rfl
 t5:=Tryd.underlying5
 a5:=Tryd.isAgg5
 z5:=Tryd.sizeOf5
 v5:=Tryd.zeroValue5
 infoByte:=by kernel_rfl
 cellsByte:=by kernel_rfl
 sizeByte:=by kernel_rfl
 neB5:=by decide}
theorem Tryd.strings_Join (bk o c:Nat) (xs:List ByteArray) (sep:ByteArray) (w:World) (hcells:∀(j:Nat) x,xs[j]? =some x→w.cell? ⟨bk,o+j,none⟩=some (.string x)) (hbk:bk<w.heap.size) (hN:xs.length≤140737488355328) (hcap:xs.length≤c) (hlen:(Lib.join (xs.map (·.data.toList)) sep.data.toList).length≤140737488355328):
  Calls Tryd.prog 35 #[.slice (some ⟨bk,o,none⟩) xs.length c,.string sep] w fun e w'=>e= .returned (.string ⟨(Lib.join (xs.map (·.data.toList)) sep.data.toList).toArray⟩)∧Below w.heap.size w w':=Any.strings_Join Tryd.y3K Tryd.z0k bk o c xs sep w hcells hbk hN hcap hlen
def Tryd.H3:Go.Shelf.Ren:=⟨fun|246=>45|283=>49|284=>50|285=>51|286=>52|129=>54|317=>53|318=>55|319=>56|320=>57|337=>58|338=>59|n=>n,fun|2=>2|3=>3|9=>9|4=>4|171=>111|0=>0|53=>45|37=>66|5=>5|173=>114|212=>118|51=>44|20=>20|213=>119|46=>80|232=>75|233=>123|n=>n,fun|17=>1|18=>2|19=>3|n=>n⟩
theorem Tryd.q18:Go.Proofs.LaysM.n246 Tryd.prog Tryd.H3:={
 mixed:=by kernel_rfl
 f129:=Tryd.func54.trans (congrArg some (by kernel_rfl))
 f246:=Tryd.func45.trans (congrArg some (by kernel_rfl))
 f283:=Tryd.func49.trans (congrArg some (by kernel_rfl))
 f284:=Tryd.func50.trans (congrArg some (by kernel_rfl))
 f285:=Tryd.func51.trans (congrArg some (by kernel_rfl))
 f286:=Tryd.func52.trans (congrArg some (by kernel_rfl))
 f317:=Tryd.func53.trans (congrArg some (by kernel_rfl))
 f318:=Tryd.func55.trans (congrArg some (by kernel_rfl))
 f319:=Tryd.func56.trans (congrArg some (by kernel_rfl))
 f320:=Tryd.func57.trans (congrArg some (by kernel_rfl))
 f337:=Tryd.func58.trans (congrArg some (by kernel_rfl))
 f338:=Tryd.func59.trans (congrArg some (by kernel_rfl))
 t0:=Tryd.underlying0
 a0:=Tryd.isAgg0
 z0:=Tryd.sizeOf0
 v0:=Tryd.zeroValue0
 t2:=Tryd.underlying2
 a2:=Tryd.isAgg2
 z2:=Tryd.sizeOf2
 v2:=Tryd.zeroValue2
 t3:=Tryd.underlying3
 a3:=Tryd.isAgg3
 z3:=Tryd.sizeOf3
 v3:=Tryd.zeroValue3
 t4:=Tryd.underlying4
 a4:=Tryd.isAgg4
 z4:=Tryd.sizeOf4
 v4:=Tryd.zeroValue4
 t5:=Tryd.underlying5
 a5:=Tryd.isAgg5
 z5:=Tryd.sizeOf5
 v5:=Tryd.zeroValue5
 t9:=Tryd.underlying9
 a9:=Tryd.isAgg9
 z9:=Tryd.sizeOf9
 v9:=Tryd.zeroValue9
 t20:=Tryd.underlying20
 a20:=Tryd.isAgg20
 z20:=Tryd.sizeOf20
 v20:=Tryd.zeroValue20
 t37:=Tryd.underlying66
 a37:=Tryd.isAgg66
 z37:=Tryd.sizeOf66
 v37:=Tryd.zeroValue66
 t46:=Tryd.underlying80
 a46:=Tryd.isAgg80
 z46:=Tryd.sizeOf80
 v46:=Tryd.zeroValue80
 t51:=Tryd.underlying44
 a51:=Tryd.isAgg44
 z51:=Tryd.sizeOf44
 v51:=Tryd.zeroValue44
 t53:=Tryd.underlying45
 a53:=Tryd.isAgg45
 z53:=Tryd.sizeOf45
 v53:=Tryd.zeroValue45
 t171:=Tryd.underlying111
 a171:=Tryd.isAgg111
 z171:=Tryd.sizeOf111
 v171:=Tryd.zeroValue111
 t173:=Tryd.underlying114
 a173:=Tryd.isAgg114
 z173:=Tryd.sizeOf114
 v173:=Tryd.zeroValue114
 t212:=Tryd.underlying118
 a212:=Tryd.isAgg118
 z212:=Tryd.sizeOf118
 v212:=Tryd.zeroValue118
 t213:=Tryd.underlying119
 a213:=Tryd.isAgg119
 z213:=Tryd.sizeOf119
 t232:=Tryd.underlying75
 a232:=Tryd.isAgg75
 z232:=Tryd.sizeOf75
 v232:=Tryd.zeroValue75
 t233:=Tryd.underlying123
 a233:=Tryd.isAgg123
 z233:=Tryd.sizeOf123
 v233:=Tryd.zeroValue123
 g17:=by kernel_rfl
 g18:=by kernel_rfl
 g19:=by kernel_rfl
 i0:=by kernel_rfl
 i2:=by kernel_rfl
 i3:=by kernel_rfl
 i4:=by kernel_rfl
 i5:=by kernel_rfl
 i9:=by kernel_rfl
 i20:=by kernel_rfl
 i37:=by kernel_rfl
 i46:=by kernel_rfl
 i51:=by kernel_rfl
 i53:=by kernel_rfl
 i171:=by kernel_rfl
 i173:=by kernel_rfl
 i212:=by kernel_rfl
 i232:=by kernel_rfl
 i233:=by kernel_rfl
 m17:=by kernel_rfl
 m18:=by kernel_rfl
 m19:=by kernel_rfl}
def Tryd.z0E:Go.Shelf.Ren:=⟨fun|105=>17|212=>25|99=>26|165=>27|166=>28|170=>29|169=>30|263=>39|264=>40|206=>41|240=>42|241=>43|276=>47|277=>48|n=>n,fun|9=>9|3=>3|4=>4|20=>20|0=>0|46=>80|109=>81|5=>5|72=>86|76=>90|51=>44|146=>102|53=>45|148=>104|70=>84|37=>66|75=>89|127=>106|164=>108|80=>93|n=>n,fun|n=>n⟩
theorem Tryd.y3L:Go.Proofs.Lays.n105 Tryd.prog Tryd.z0E:={
 mixed:=by kernel_rfl
 f99:=Tryd.func26.trans (congrArg some (by kernel_rfl))
 f105:=Tryd.func17.trans (congrArg some (by kernel_rfl))
 f165:=Tryd.func27.trans (congrArg some (by kernel_rfl))
 f166:=Tryd.func28.trans (congrArg some (by kernel_rfl))
 f169:=Tryd.func30.trans (congrArg some (by kernel_rfl))
 f170:=Tryd.func29.trans (congrArg some (by kernel_rfl))
 f206:=Tryd.func41.trans (congrArg some (by kernel_rfl))
 f212:=Tryd.func25.trans (congrArg some (by kernel_rfl))
 f240:=Tryd.func42.trans (congrArg some (by kernel_rfl))
 f241:=Tryd.func43.trans (congrArg some (by kernel_rfl))
 f263:=Tryd.func39.trans (congrArg some (by kernel_rfl))
 f264:=Tryd.func40.trans (congrArg some (by kernel_rfl))
 f276:=Tryd.func47.trans (congrArg some (by kernel_rfl))
 f277:=Tryd.func48.trans (congrArg some (by kernel_rfl))
 t0:=Tryd.underlying0
 a0:=Tryd.isAgg0
 z0:=Tryd.sizeOf0
 v0:=Tryd.zeroValue0
 t3:=Tryd.underlying3
 a3:=Tryd.isAgg3
 z3:=Tryd.sizeOf3
 v3:=Tryd.zeroValue3
 t4:=Tryd.underlying4
 a4:=Tryd.isAgg4
 z4:=Tryd.sizeOf4
 v4:=Tryd.zeroValue4
 t5:=Tryd.underlying5
 a5:=Tryd.isAgg5
 z5:=Tryd.sizeOf5
 v5:=Tryd.zeroValue5
 t9:=Tryd.underlying9
 a9:=Tryd.isAgg9
 z9:=Tryd.sizeOf9
 v9:=Tryd.zeroValue9
 t20:=Tryd.underlying20
 a20:=Tryd.isAgg20
 z20:=Tryd.sizeOf20
 v20:=Tryd.zeroValue20
 t37:=Tryd.underlying66
 a37:=Tryd.isAgg66
 z37:=Tryd.sizeOf66
 v37:=Tryd.zeroValue66
 t46:=Tryd.underlying80
 a46:=Tryd.isAgg80
 z46:=Tryd.sizeOf80
 v46:=Tryd.zeroValue80
 t51:=Tryd.underlying44
 a51:=Tryd.isAgg44
 z51:=Tryd.sizeOf44
 v51:=Tryd.zeroValue44
 t53:=Tryd.underlying45
 a53:=Tryd.isAgg45
 z53:=Tryd.sizeOf45
 v53:=Tryd.zeroValue45
 t70:=Tryd.underlying84
 a70:=Tryd.isAgg84
 z70:=Tryd.sizeOf84
 v70:=Tryd.zeroValue84
 t72:=Tryd.underlying86
 a72:=Tryd.isAgg86
 z72:=Tryd.sizeOf86
 v72:=Tryd.zeroValue86
 t75:=Tryd.underlying89
 a75:=Tryd.isAgg89
 z75:=Tryd.sizeOf89
 v75:=Tryd.zeroValue89
 t76:=Tryd.underlying90
 a76:=Tryd.isAgg90
 z76:=Tryd.sizeOf90
 v76:=Tryd.zeroValue90
 t109:=Tryd.underlying81
 a109:=Tryd.isAgg81
 z109:=Tryd.sizeOf81
 v109:=Tryd.zeroValue81
 t127:=Tryd.underlying106
 a127:=Tryd.isAgg106
 z127:=Tryd.sizeOf106
 v127:=Tryd.zeroValue106
 t146:=Tryd.underlying102
 a146:=Tryd.isAgg102
 z146:=Tryd.sizeOf102
 v146:=Tryd.zeroValue102
 t148:=Tryd.underlying104
 a148:=Tryd.isAgg104
 z148:=Tryd.sizeOf104
 v148:=Tryd.zeroValue104
 t164:=Tryd.underlying108
 a164:=Tryd.isAgg108
 z164:=Tryd.sizeOf108
 v164:=Tryd.zeroValue108}
theorem Tryd.z0l:Builder.Extra Tryd.prog Tryd.z0E:={
 sizeBuilder:=by kernel_rfl
 liesBuilder:=by kernel_rfl
 t5:=Tryd.underlying5
 a5:=Tryd.isAgg5
 z5:=Tryd.sizeOf5
 v5:=Tryd.zeroValue5
 infoByte:=by kernel_rfl
 cellsByte:=by kernel_rfl
 sizeByte:=by kernel_rfl
 neB5:=by decide}
theorem Tryd.strings_Repeat (s:ByteArray) (c:Nat) (w:World) (hc:c≤9223372036854775807) (hlen:s.size*c≤140737488355328):
  Calls Tryd.prog 17 #[.string s,.int .i64 c] w fun e w'=>e= .returned (.string ⟨(Lib.repeatL s.data.toList c).toArray⟩)∧Below w.heap.size w w':=Any.strings_Repeat Tryd.y3L Tryd.z0l s c w hc hlen
end Go.Proofs
namespace Go.Proofs.YtaopfcpeloodbaaDoor
open Go Go.E Go.RowKit Go.Shelf Go.Sort Go.Lib
open Go.IntKind (wrap u64 u32 u8 i64 i32)
set_option maxRecDepth 100000
set_option maxHeartbeats 6400000
set_option linter.unusedSimpArgs false
theorem z7T (w:World) (T:TypeId) (nd:Nat) (hs:nd≤24):Holds (fun(b:UInt8)=>Value.int .u8 (b.toNat:Int)) (w.alloc (.cells zeros24 T)) w.heap.size 0 (Array.replicate nd (0:UInt8)):=fun j hj=>by
 have hj':j<nd:=by simpa using hj
 refine⟨?_,World.frozen?_alloc_new _ _ _ _⟩
 rw[World.cell?_alloc_new,zeros24_at _ (by omega),getElem!_pos _ j hj]
 simp
theorem y2o (w:World) (o:Obj) (dk:Array UInt8) (k:Nat):∃os,(putRow (fun(b:UInt8)=>Value.int .u8 (b.toNat:Int)) (w.alloc o) w.heap.size 0 dk).drewN k=grow (w.drewN k) os:=by
 rw[alloc_eq_grow]
 obtain⟨os',_,e⟩:=putRow_grow_new (fun(b:UInt8)=>Value.int .u8 (b.toNat:Int)) w #[o] w.heap.size 0 dk (Nat.le_refl _)
 exact⟨os',by rw[e];rfl⟩
def z3N (w:World):Prop:=∀i,i<20→w.cell? ⟨1,i,none⟩=some (.int .u64 ((10^i:Nat):Int))
theorem q7A {w:World} (h:z3N w) (o:Obj):z3N (w.alloc o):=fun i hi=>by
 have h':=h i hi
 have hlt:1<w.heap.size:=by
  rcases Nat.lt_or_ge 1 w.heap.size with h1|h1
  ·exact h1
  ·simp[World.cell?,Array.getElem?_eq_none h1]at h'
 unfold World.cell? at h' ⊢
 rw[RowKit.Below.heap_alloc w o _ hlt]
 exact h'
theorem z09 (u:Nat) (h1:1≤u) (h2:u<18446744073709551616) (w:World) (htab:z3N w):
  Calls Tryd.prog 50 #[.int .u64 u] w fun e w'=>e= .returned (.int .i64 (Lib.nDigits u))∧w'=w:=by
 have e129:∀args w,(callFunc 54 args).run Tryd.prog w= .ok (.enter 54 args) w:=enters_of Tryd.func54 (by kernel_rfl) rfl
 have e317:∀args w,(callFunc 53 args).run Tryd.prog w= .ok (.enter 53 args) w:=enters_of Tryd.func53 (by kernel_rfl) rfl
 have e318:∀args w,(callFunc 55 args).run Tryd.prog w= .ok (.enter 55 args) w:=enters_of Tryd.func55 (by kernel_rfl) rfl
 obtain⟨hnd,h19⟩:=Lib.numDigits_eq u h1 h2
 have hL:Lib.bitLen u≤64:=Lib.bitLen_le u 64 (Nat.le_refl _) h2
 have hcell:=htab (Lib.l10 (Lib.bitLen u)) (by omega)
 have hto:((u:Int)).toNat=u:=by omega
 generalize hq:Lib.l10 (Lib.bitLen u)=q at hnd h19 hcell
 generalize hT:10^q=T at hnd hcell
 have h20:q<20:=by omega
 have Hnd:=Lib.hid hnd
 clear hnd htab
 go_enter Tryd.func50,Tryd.ntmps50
 go_wp2_with (first
  |(go_at_fn 54;refine(Any.bits_Len64 (P:=Tryd.prog) (ρ:=Tryd.H3) {Tryd.q18 with} _ _ (by omega) (by omega)).mono ?_;rintro e w' ⟨rfl,rfl⟩)
  |(go_at_fn 53;refine(Any.internal_strconv_log10Pow2 (P:=Tryd.prog) (ρ:=Tryd.H3) {Tryd.q18 with} _ (by first|exact hL|(rw[hto];exact hL)) _).mono ?_;rintro e w' ⟨rfl,rfl⟩)
  |(go_at_fn 55;refine(Any.internal_strconv_bool2_int (P:=Tryd.prog) (ρ:=Tryd.H3) {Tryd.q18 with} _ _).mono ?_;rintro e w' ⟨rfl,rfl⟩))
 all_goals go_ret
 all_goals (
  refine⟨?_,rfl⟩
  have hnd:=Hnd.out
  congr 2
  split at hnd <;> simp_all <;> omega)
theorem y2l (u:Nat) (h:u<18446744073709551616) (w:World) (htab:z3N w):
  Calls Tryd.prog 46 #[.int .u64 u,.int .i64 10] w fun e w'=>e= .returned (.string ⟨(Lib.decDigits u).toArray⟩)∧∃k os,w'=grow (w.drewN k) os:=by
 have e283:∀args w,(callFunc 49 args).run Tryd.prog w= .ok (.enter 49 args) w:=enters_of Tryd.func49 (by kernel_rfl) rfl
 have e284:∀args w,(callFunc 50 args).run Tryd.prog w= .ok (.enter 50 args) w:=enters_of Tryd.func50 (by kernel_rfl) rfl
 have e285:∀args w,(callFunc 51 args).run Tryd.prog w= .ok (.enter 51 args) w:=enters_of Tryd.func51 (by kernel_rfl) rfl
 by_cases hs:u<100
 ·go_enter Tryd.func46,Tryd.ntmps46
  go_wp2_with (go_at_fn 49;refine(Any.internal_strconv_small {Tryd.q18 with} u hs _).mono ?_;rintro e w' ⟨rfl,rfl⟩)
  go_ret
  exact⟨rfl,0,#[],by simp[World.drewN_zero]⟩
 ·have hu1:1≤u:=by omega
  have hnd20:Lib.nDigits u≤20:=by have:=Lib.numDigits_eq u hu1 h;split at this <;> omega
  have hal:Tryd.prog.arrayLen 111=24:=by kernel_rfl
  have hsl1:∀W,(Instr.sliceAt 111 (.pointer (some ⟨w.heap.size,0,none⟩)) none (some (.int .i64 (Lib.nDigits u:Int))) none).run Tryd.prog W= .ok (.slice (some ⟨w.heap.size,0,none⟩) (Lib.nDigits u) 24) W:=fun W=>by
   rw[run_sliceAt_array_h W 111 ⟨w.heap.size,0,none⟩ (by kernel_rfl) .i64 (Lib.nDigits u:Int) (by omega) (by rw[hal];omega)]
   go_simp
  have hH0:=z7T w 111 (Lib.nDigits u) (by omega)
  have hfmt:=Any.internal_strconv_formatBase10 (P:=Tryd.prog) (ρ:=Tryd.H3) {Tryd.q18 with} w.heap.size 0 24 u (Array.replicate (Lib.nDigits u) 0) (w.alloc (.cells Lib.zeros24 111)) hH0 (by rw[Array.size_replicate];exact Lib.lt_pow_nDigits u) h (by rw[Array.size_replicate];omega)
  rw[Array.size_replicate]at hfmt
  have HH0:=Lib.hid hH0
  clear hH0 hal
  go_enter Tryd.func46,Tryd.ntmps46
  go_wp2_with (first
   |(go_at_fn 50;refine(z09 u hu1 h _ (q7A htab _)).mono ?_;rintro e w' ⟨rfl,rfl⟩))
  go_at_fn 51
  refine hfmt.mono ?_
  rintro e w' ⟨rfl,k,v',dk,rfl,hF⟩
  have hcv:(convert 66 9 (.slice (some ⟨w.heap.size,0,none⟩) (Lib.nDigits u) 24)).run Tryd.prog ((putRow (fun(b:UInt8)=>Value.int .u8 (b.toNat:Int)) (w.alloc (.cells Lib.zeros24 111)) w.heap.size 0 dk).drewN k)= .ok (.string ⟨(Lib.decDigits u).toArray⟩) ((putRow (fun(b:UInt8)=>Value.int .u8 (b.toNat:Int)) (w.alloc (.cells Lib.zeros24 111)) w.heap.size 0 dk).drewN k):=by
   have h:=run_convert_bytes_back (P:=Tryd.prog) ((putRow (fun(b:UInt8)=>Value.int .u8 (b.toNat:Int)) (w.alloc (.cells Lib.zeros24 111)) w.heap.size 0 dk).drewN k) 66 9 5 ⟨w.heap.size,0,none⟩ 24 (Lib.decDigits u) (by kernel_rfl) (by kernel_rfl) (by kernel_rfl) (fun j hj=>by
    rw[Lib.row_is_numeral hF j hj,Lib.add_plain,World.cell?_drewN]
    exact cell?_putRow (fun(b:UInt8)=>Value.int .u8 (b.toNat:Int)) _ w.heap.size 0 _ dk HH0.out (by rw[hF.size,Array.size_replicate]) j (by rw[hF.size];rw[Lib.decDigits_length]at hj;exact hj))
   rw[Lib.decDigits_length]at h
   exact h
  go_wp2
  go_ret
  obtain⟨os,eo⟩:=y2o w (.cells Lib.zeros24 111) dk k
  exact⟨rfl,k,os,eo⟩
theorem z8b {Γ:G} {w:World} {s:S} (c:z8 Γ w s) (h:Γ.gl 1=some (.arr 20 (.int .u64),.agg (Go.Lib.pow10Tab.map C.int))):z3N w:=fun i hi=>by
 obtain⟨l,h1,h2,h3⟩:=c.hgl _ _ _ h
 obtain⟨arr,T,fr,r,h4,h5⟩:=c.hH _ _ h1
 simp only[z7]at h3
 obtain⟨cs,e,_,_,_,hr⟩:=h3
 cases e
 have hi':(Go.Lib.pow10Tab.map C.int)[i]? =some (.int ((10^i:Nat):Int)):=by
  have h6:=Go.Lib.pow10Tab_at i hi
  have h7:=Go.Lib.pow10Tab_length
  rw[List.getElem?_map]
  rw[List.getD_eq_getElem?_getD]at h6
  cases h8:Go.Lib.pow10Tab[i]? with
  |none=>rw[List.getElem?_eq_none_iff]at h8;omega
  |some z=>rw[h8]at h6;simp only[Option.getD_some]at h6;rw[h6];rfl
 have h9:=hr _ _ hi'
 have m1:u64.min=0:=by decide
 simp only[z7,Ty.size,Nat.mul_one]at h9 h2
 obtain⟨n,h11,h10,_,_⟩:=h9
 cases h11
 have h12:(chunk (chunk l 0 (20*1)) i 1)[0]? =some (.int .u64 ((10^i:Nat):Int)):=by rw[h10];rfl
 have h13:l[i]? =some (.int .u64 ((10^i:Nat):Int)):=by
  simp only[chunk,List.drop_zero,List.getElem?_take,List.getElem?_drop]at h12
  simp at h12
  exact h12.2
 unfold World.cell?
 simp only[h4]
 have h14:arr[i]? =some (.int .u64 ((10^i:Nat):Int)):=by
  have hl:i<l.length:=by omega
  rw[←Array.getElem?_toList,h5,List.getElem?_append_left hl]
  exact h13
 simpa using h14
theorem z6R (w:World) (k:Nat) (os:Array Obj):Ext w (grow (w.drewN k) os):=by
 refine⟨?_,fun b hb=>?_,?_⟩
 ·simp[grow,World.drewN]
 ·simp[grow,World.drewN,Array.getElem?_append,hb]
 ·rfl
theorem q3A (u:Nat) (h:u<18446744073709551616):(Lib.decDigits u).length≤20:=by
 rw[Lib.decDigits_length]
 by_cases h1:1≤u
 ·have:=Lib.numDigits_eq u h1 h;split at this <;> omega
 ·have:u=0:=by omega
  subst this;simp[Lib.nDigits]
def z9T:Nat→Nat→List UInt8
 |0,_=>[]
 |f+1,n=>bif Nat.blt n 10 then[UInt8.ofNat (48+n)]else z9T f (n / 10)++[UInt8.ofNat (48+n%10)]
def q50 (n:Nat):List UInt8:=z9T 20 n
theorem z8H:∀(f n:Nat),n<10^(f+1)→z9T (f+1) n=Lib.decDigits n
 |f,n,h=>by
  rw[Lib.decDigits,z9T]
  by_cases hn:n<10
  ·rw[dif_pos hn,show Nat.blt n 10=true from by simpa[Nat.blt_eq]using hn];rfl
  ·rw[dif_neg hn,show Nat.blt n 10=false from by rw[←Bool.not_eq_true,Nat.blt_eq];exact hn]
   cases f with
   |zero=>simp at h;omega
   |succ f=>
    have h':n / 10<10^(f+1):=by rw[Nat.pow_succ]at h;omega
    rw[cond_false,z8H f (n / 10) h']
theorem q7v (n:Nat) (h:n<18446744073709551616):q50 n=Lib.decDigits n:=z8H 19 n (Nat.lt_of_lt_of_le h (by decide))
theorem z9F (A:Key→Option O) (c:C):Q3 (X0 gl0) 46 [.d (.int .u64) c,.d (.int .i64) (.int 10)] A (.d .str (.str (q50 c.toInt.toNat))) []:=by
 intro A' Γ w args hA' hg hc hn hr
 obtain⟨cc,hok⟩:=hc
 have hs:args.size=2:=hn.symm
 obtain⟨e1,_,h1,h2⟩:=j8 (hr 0 _ _ rfl (Array.getElem?_eq_getElem (by omega)))
 obtain⟨e2,_,_,_⟩:=j8 (hr 1 _ _ rfl (Array.getElem?_eq_getElem (by omega)))
 have m1:u64.min=0:=by decide
 have m2:u64.max=18446744073709551615:=by decide
 have ea:args=#[.int .u64 (c.toInt.toNat:Int),.int .i64 10]:=by
  apply Array.ext
  ·simpa using hs
  ·intro i h1 h2
   match i with
   |0=>
    have:((c.toInt.toNat:Nat):Int)=c.toInt:=by omega
    simpa[this]using e1
   |1=>simpa[C.toInt]using e2
   |i+2=>omega
 rw[ea]
 refine(y2l c.toInt.toNat (by omega) w (z8b cc (by rw[hg];rfl))).mono fun e w' he=>?_
 obtain⟨he1,k,os,he2⟩:=he
 subst he2
 refine⟨_,Γ,he1,.refl Γ,(cc.ext (z6R w k os)).congr (fun _=>rfl) (fun _=>rfl) (fun _ h=>h),?_⟩
 have:=q3A c.toInt.toNat (by omega)
 rw[q7v _ (by omega)]
 exact W0 (by omega)
noncomputable def z2o (_:Nat) {R:Type}:OvG R:=fun xs _ K=>match xs with
 | [.d (.int .u64) c,.d (.int .i64) (.int b)]=>if b=10 then K (.d .str (.str (q50 c.toInt.toNat))) []else none
 |_=>none
theorem z8v (N:Nat) {R:Type}:GOk (X0 gl0) 46 (z2o N (R:=R)):=by
 intro xs A Kr r hr
 unfold z2o at hr
 split at hr
 ·rename_i c b
  by_cases hb:b=10
  ·subst hb
   exact⟨_,_,z9F A c,by simpa using hr⟩
  ·rw[if_neg hb]at hr;cases hr
 ·cases hr
open Go Go.E Go.RowKit Go.Shelf
theorem y1r:∃i z,Tryd.prog.info? 5=some i∧i.zero=some z∧i.size=1∧i.bytes=1∧z.cells.size=1:=by
 have h:((Tryd.prog.info? 5).map fun i=>(i.size,i.bytes,i.zero.map fun z=>z.cells.size))=some (1,1,some 1):=by kernel_rfl
 obtain⟨i,hi,h2⟩:=Option.map_eq_some_iff.1 h
 simp only[Prod.mk.injEq]at h2
 obtain⟨h3,h4,h5⟩:=h2
 obtain⟨z,hz,h6⟩:=Option.map_eq_some_iff.1 h5
 exact⟨i,z,hi,hz,h3,h4,h6⟩
theorem y2O:liesAt Tryd.prog Tryd.prog.depth 86 (2 / Tryd.prog.cellsOf 86) 0 86 1=true:=by kernel_rfl
theorem z7o:(Tryd.prog.info? 86).map (·.size)=some 2:=by kernel_rfl
theorem z9U (b:Nat) (w:World) (v:Value) (hw:w.heap[b]? =some (.cells #[.pointer none,v] 86 (0,0))):
  Calls Tryd.prog 42 #[.pointer (some ⟨b,0,none⟩)] w fun e w'=>e= .returned (.tuple #[])∧w'=w.setCell ⟨b,0,none⟩ (.pointer (some ⟨b,0,none⟩)):=by
 obtain⟨j,hj,hjs⟩:=Option.map_eq_some_iff.1 z7o
 have h0:w.cell? ⟨b,0,none⟩=some (.pointer none):=by rw[Lib.cell_of_heap hw];rfl
 have hsh:w.shape? b=some (86,2):=by simp[World.shape?,hw]
 have hfz:w.frozen? ⟨b,0,none⟩=false:=Lib.frozen_of_heap hw 0
 go_enter Tryd.func42,Tryd.ntmps42
 go_wp2
 rw[Lib.run_to_unsafe w ⟨b,0,none⟩ (t:=86) (by kernel_rfl) (by kernel_rfl) hj (by rw[hjs];decide) hsh (Nat.zero_lt_succ 1)]
 simp only[Result.andThen]
 rw[Oper.upon_value]
 go_wp2
 rw[run_callFunc_extern Tryd.func47 (by kernel_rfl) (by kernel_rfl) (by kernel_rfl) (e:=Extern.AbiNoEscape.same) (by kernel_rfl)]
 rw[Lib.run_noEscape]
 simp only[Result.andThen]
 rw[Oper.upon_value]
 go_wp2
 rw[Lib.run_from_unsafe w ⟨b,0,none⟩ (u:=86) (by kernel_rfl) (by kernel_rfl) hj hsh y2O]
 simp only[Result.andThen]
 rw[Oper.upon_value]
 go_wp2
 go_end0
 exact⟨rfl,rfl⟩
theorem y1l (b:Nat) (w:World) (v:Value) (hw:w.heap[b]? =some (.cells #[.pointer (some ⟨b,0,none⟩),v] 86 (0,0))):
  Calls Tryd.prog 42 #[.pointer (some ⟨b,0,none⟩)] w fun e w'=>e= .returned (.tuple #[])∧w'=w:=by
 obtain⟨j,hj,hjs⟩:=Option.map_eq_some_iff.1 z7o
 have h0:w.cell? ⟨b,0,none⟩=some (.pointer (some ⟨b,0,none⟩)):=by rw[Lib.cell_of_heap hw];rfl
 go_enter Tryd.func42,Tryd.ntmps42
 go_wp2
 rw[Lib.run_neq_ptr_same w _ (te:=86) (by kernel_rfl) hj]
 go_wp2
 go_end0
 exact⟨rfl,rfl⟩
theorem y2I (b:Nat) (w:World) (adr v:Value) (hw:w.heap[b]? =some (.cells #[adr,v] 86 (0,0))) (ha:adr= .pointer none∨adr= .pointer (some ⟨b,0,none⟩)):
  Calls Tryd.prog 42 #[.pointer (some ⟨b,0,none⟩)] w fun e w'=>e= .returned (.tuple #[])∧oof w'=oof w∧w'.heap.size=w.heap.size∧w'.heap[b]? =some (.cells #[.pointer (some ⟨b,0,none⟩),v] 86 (0,0))∧∀b2,b2≠b→w'.heap[b2]? =w.heap[b2]?:=by
 rcases ha with rfl|rfl
 ·refine(z9U b w v hw).mono ?_
  rintro e w' ⟨rfl,rfl⟩
  refine⟨rfl,rfl,by simp[World.setCell],by simp[World.setCell,Array.getElem?_modify,hw],fun b2 h=>?_⟩
  have:b≠b2:=fun e=>h e.symm
  simp[World.setCell,Array.getElem?_modify,this]
 ·refine(y1l b w v hw).mono ?_
  rintro e w' ⟨rfl,rfl⟩
  exact⟨rfl,rfl,rfl,hw,fun _ _=>rfl⟩
def z98 (w w':World) (b:Nat) (v:Value) (l l':List UInt8):Prop:=oof w'=oof w∧w.heap.size≤w'.heap.size∧∃v',w'.heap[b]? =some (.cells #[.pointer (some ⟨b,0,none⟩),v'] 86 (0,0))∧
 ((v'=v∧l'=l∧∀b2,b2<w.heap.size→b2≠b→w'.heap[b2]? =w.heap[b2]?)∨
   ∃g cap arr,v'= .slice (some ⟨g,0,none⟩) l'.length cap∧w'.heap[g]? =some (.cells arr 5 (0,0))∧arr.size=cap∧arr.toList.take l'.length=u4 l'∧l'.length≤cap∧cap≤maxLen∧0<cap∧
    (w.heap.size≤g∨v= .slice (some ⟨g,0,none⟩) l.length cap)∧∀b2,b2<w.heap.size→b2≠g→b2≠b→w'.heap[b2]? =w.heap[b2]?)
theorem z8W {w w':World} {v:Value} {l:List UInt8} {b:Nat} (h:q8h w v l) (hb:∀g n c,v= .slice (some ⟨g,0,none⟩) n c→g≠b) (hs:∀b2,b2≠b→w'.heap[b2]? =w.heap[b2]?):q8h w' v l:=by
 rcases h with h|⟨g,cap,arr,rfl,h1,h2⟩
 ·exact .inl h
 ·exact .inr ⟨g,cap,arr,rfl,by rw[hs g (hb g _ _ rfl)];exact h1,h2⟩
theorem y1A {w w1 w2 w3:World} {b:Nat} {v v':Value} {l l':List UInt8} (hlt:b<w.heap.size) (hvb:∀g n c,v= .slice (some ⟨g,0,none⟩) n c→g≠b)
  (h1:oof w1=oof w) (h2:w.heap.size≤w1.heap.size) (h3:w1.heap[b]? =some (.cells #[.pointer (some ⟨b,0,none⟩),v] 86 (0,0))) (h4:∀b2,b2<w.heap.size→b2≠b→w1.heap[b2]? =w.heap[b2]?)
  (hg:y0b w1 w2 v v' l l') (h5:w3=w2.setCell ⟨b,1,none⟩ v'):z98 w w3 b v l l':=by
 obtain⟨g1,g2,g3⟩:=hg
 have hb2:w2.heap[b]? =some (.cells #[.pointer (some ⟨b,0,none⟩),v] 86 (0,0)):=by
  rcases g3 with⟨_,_,g4⟩|⟨g,cap,arr,_,e2,_,_,_,_,_,e8,e9⟩
  ·rw[g4 b (by omega)];exact h3
  ·have hne:b≠g:=by
    rcases e8 with e8|e8
    ·omega
    ·exact(hvb _ _ _ e8).symm
   rw[e9 b (by omega) hne];exact h3
 have hoth:∀b2,b2≠b→w3.heap[b2]? =w2.heap[b2]?:=fun b2 h=>by
  have:b≠b2:=fun e=>h e.symm
  rw[h5];simp[World.setCell,Array.getElem?_modify,this]
 refine⟨by rw[h5];exact g1.trans h1,by rw[h5];simp[World.setCell];omega,v',by rw[h5];simp[World.setCell,Array.getElem?_modify,hb2],?_⟩
 rcases g3 with⟨rfl,rfl,g4⟩|⟨g,cap,arr,e1,e2,e3,e4,e5,e6,e7,e8,e9⟩
 ·exact .inl ⟨rfl,rfl,fun b2 hb hn=>by rw[hoth b2 hn,g4 b2 (by omega),h4 b2 hb hn]⟩
 ·have hne:g≠b:=by
   rcases e8 with e8|e8
   ·omega
   ·exact hvb _ _ _ e8
  refine .inr ⟨g,cap,arr,e1,by rw[hoth g hne];exact e2,e3,e4,e5,e6,e7,e8.imp (fun h=>by omega) id,fun b2 hb hn hn'=>?_⟩
  rw[hoth b2 hn',e9 b2 (by omega) hn,h4 b2 hb hn']
theorem y0k (b:Nat) (w:World) (adr v:Value) (l:List UInt8) (x:UInt8) (hw:w.heap[b]? =some (.cells #[adr,v] 86 (0,0))) (ha:adr= .pointer none∨adr= .pointer (some ⟨b,0,none⟩)) (hv:q8h w v l) (hvb:∀g n c,v= .slice (some ⟨g,0,none⟩) n c→g≠b) (hl:(l++[x]).length≤140737488355328):
  Calls Tryd.prog 38 #[.pointer (some ⟨b,0,none⟩),.int .u8 (x.toNat:Int)] w fun e w'=>e= .returned .nilIface∧z98 w w' b v l (l++[x]):=by
 obtain⟨i,z,hi,hz,i1,i2,i3⟩:=y1r
 have hlt:b<w.heap.size:=Go.E.c5 hw
 have e240:∀args w,(callFunc 42 args).run Tryd.prog w= .ok (.enter 42 args) w:=enters_of Tryd.func42 (by kernel_rfl) rfl
 go_enter Tryd.func38,Tryd.ntmps38
 go_wp2_with (go_at_fn 42;refine(y2I b w adr v hw ha).mono ?_)
 rintro e w1 ⟨rfl,h1,h2,h3,h4⟩
 have h2a:=Nat.le_of_eq h2
 have h2b:=Nat.le_of_eq h2.symm
 clear h2
 have c0:w1.cell? ⟨b,0,none⟩=some (.pointer (some ⟨b,0,none⟩)):=by rw[Lib.cell_of_heap h3];rfl
 have c1:w1.cell? ⟨b,1,none⟩=some v:=by rw[Lib.cell_of_heap h3];rfl
 have hv1:=z8W hv hvb h4
 have hv2:q8h (w1.alloc (.cells #[.int .u8 (x.toNat:Int)] 5)) v l:=by
  rcases hv1 with h|⟨g,cap,arr,rfl,q1,q2⟩
  ·exact .inl h
  ·exact .inr ⟨g,cap,arr,rfl,by rw[heap_alloc_old w1 _ (Go.E.c5 q1)];exact q1,q2⟩
 have hsrc:Src Tryd.prog 1 66 (.slice (some ⟨w1.heap.size,0,none⟩) 1 1) [x].length (u4 [x]) (w1.alloc (.cells #[.int .u8 (x.toNat:Int)] 5)):=
  Src.ofSlice (P:=Tryd.prog) (w1.alloc (.cells #[.int .u8 (x.toNat:Int)] 5)) (e':=5) (by kernel_rfl) ⟨w1.heap.size,0,none⟩ 1 1 (u4 [x]) rfl (fun j u hj=>by
   match j,hj with
   |0,hj=>
    simp[u4]at hj
    subst hj
    show(w1.alloc (.cells #[.int .u8 (x.toNat:Int)] 5)).cell? ⟨w1.heap.size,0,none⟩=_
    rw[World.cell?_alloc_new]
    rfl) (fun u hu=>by simp[u4]at hu;subst hu;rfl)
 go_wp2_with (at_builtin;refine z0h rfl _ _ 66 66 rfl (by kernel_rfl) hi hz i1 i2 i3 rfl rfl hl hsrc hv2 ?_)
 intro v' w2 hg
 have h3':(w1.alloc (.cells #[.int .u8 (x.toNat:Int)] 5)).heap[b]? =some (.cells #[.pointer (some ⟨b,0,none⟩),v] 86 (0,0)):=by rw[heap_alloc_old w1 _ (Go.E.c5 h3)];exact h3
 have hsz:(w1.alloc (.cells #[.int .u8 (x.toNat:Int)] 5)).heap.size=w1.heap.size+1:=by simp
 have hb2:w2.heap[b]? =some (.cells #[.pointer (some ⟨b,0,none⟩),v] 86 (0,0)):=by
  rcases hg.2.2 with⟨_,_,g4⟩|⟨g,cap,arr,_,e2,_,_,_,_,_,e8,e9⟩
  ·rw[g4 b (by omega)];exact h3'
  ·have hne:b≠g:=by
    rcases e8 with e8|e8
    ·omega
    ·exact(hvb _ _ _ e8).symm
   rw[e9 b (by omega) hne];exact h3'
 have d0:w2.cell? ⟨b,0,none⟩=some (.pointer (some ⟨b,0,none⟩)):=by rw[Lib.cell_of_heap hb2];rfl
 have d1:w2.cell? ⟨b,1,none⟩=some v:=by rw[Lib.cell_of_heap hb2];rfl
 have f1:w2.frozen? ⟨b,1,none⟩=false:=Lib.frozen_of_heap hb2 1
 obtain⟨ao,n',cap,rfl⟩:∃ao n' cap,v'= .slice ao n' cap:=by
  rcases hg.2.2 with⟨rfl,_⟩|⟨g,cap,arr,rfl,_⟩
  ·rcases hv with⟨rfl,_⟩|⟨_,_,_,rfl,_⟩ <;> exact⟨_,_,_,rfl⟩
  ·exact⟨_,_,_,rfl⟩
 go_wp2
 go_ret
 exact⟨rfl,y1A hlt hvb (w1:=w1.alloc (.cells #[.int .u8 (x.toNat:Int)] 5)) h1 (by omega) h3' (fun b2 hb h=>by rw[heap_alloc_old w1 _ (by omega)];exact h4 b2 h) hg rfl⟩
theorem z5w (W:World) (q:Option Addr):(Builtin.unsafeString_ #[106,3] 9 #[.pointer q,.int .i64 0]).run Tryd.prog W= .ok (.string .empty) W:=
 Lib.run_unsafeString_none W _ _ _ q
theorem y2N (b:Nat) (w:World) (adr v:Value) (l:List UInt8) (hw:w.heap[b]? =some (.cells #[adr,v] 86 (0,0))) (hv:q8h w v l) (hlen:l.length≤140737488355328):
  Calls Tryd.prog 30 #[.pointer (some ⟨b,0,none⟩)] w fun e w'=>e= .returned (.string ⟨l.toArray⟩)∧oof w'=oof w∧w'.heap.size=w.heap.size∧
   ((∀b2:Nat,w'.heap[b2]? =w.heap[b2]?)∨∃(g cap:Nat) (arr:Array Value) (fr:Nat × Nat),v= .slice (some ⟨g,0,none⟩) l.length cap∧w.heap[g]? =some (.cells arr 5 (0,0))∧w'.heap[g]? =some (.cells arr 5 fr)∧∀b2:Nat,b2≠g→w'.heap[b2]? =w.heap[b2]?):=by
 have mixed:Tryd.prog.follows Departure.mixedOrders=true:=by kernel_rfl
 rcases hv with⟨rfl,rfl⟩|⟨g,cap,arr,rfl,h1,h2,h3,h4,h5,h6⟩
 ·have hUS:=z5w
  have c1:w.drew.cell? ⟨b,1,none⟩=some (.slice none 0 0):=by
   have:w.drew.heap[b]? =some (.cells #[adr,.slice none 0 0] 86 (0,0)):=hw
   rw[Lib.cell_of_heap this];rfl
  have hSD:(Builtin.unsafeSliceData_ #[66] 106 #[.slice none 0 0]).run Tryd.prog w.drew= .ok (.pointer none) w.drew:=rfl
  go_enter Tryd.func30,Tryd.ntmps30
  go_wp2
  go_region_o
  all_goals (go_wp2;go_ret;exact⟨rfl,rfl,rfl,.inl fun _=>rfl⟩)
 ·by_cases hl:l=[]
  ·subst hl
   have hUS:=z5w
   have c1:w.drew.cell? ⟨b,1,none⟩=some (.slice (some ⟨g,0,none⟩) 0 cap):=by
    have:w.drew.heap[b]? =some (.cells #[adr,.slice (some ⟨g,0,none⟩) 0 cap] 86 (0,0)):=hw
    rw[Lib.cell_of_heap this];rfl
   have hSD:(Builtin.unsafeSliceData_ #[66] 106 #[.slice (some ⟨g,0,none⟩) 0 cap]).run Tryd.prog w.drew= .ok (.pointer (some ⟨g,0,none⟩)) w.drew:=
    Lib.run_unsafeSliceData_row _ _ _ _ _ _ (by omega)
   go_enter Tryd.func30,Tryd.ntmps30
   go_wp2
   go_region_o
   all_goals (go_wp2;go_ret;exact⟨rfl,rfl,rfl,.inl fun _=>rfl⟩)
  ·have c1:w.drew.cell? ⟨b,1,none⟩=some (.slice (some ⟨g,0,none⟩) l.length cap):=by
    have:w.drew.heap[b]? =some (.cells #[adr,.slice (some ⟨g,0,none⟩) l.length cap] 86 (0,0)):=hw
    rw[Lib.cell_of_heap this];rfl
   have hSD:(Builtin.unsafeSliceData_ #[66] 106 #[.slice (some ⟨g,0,none⟩) l.length cap]).run Tryd.prog w.drew= .ok (.pointer (some ⟨g,0,none⟩)) w.drew:=
    Lib.run_unsafeSliceData_row _ _ _ _ _ _ (by omega)
   have hUS:(Builtin.unsafeString_ #[106,3] 9 #[.pointer (some ⟨g,0,none⟩),.int .i64 l.length]).run Tryd.prog w.drew= .ok (.string ⟨l.toArray⟩) (w.drew.freeze ⟨g,0,none⟩ l.length):=by
    refine Lib.run_unsafeString_row w.drew 106 3 9 5 (by kernel_rfl) (by kernel_rfl) g arr.size (by have hg':w.drew.heap[g]? =some (.cells arr 5 (0,0)):=h1;simp[World.shape?,hg']) l hl (by omega) (by omega) ?_
    intro j x hx
    have hg':w.drew.heap[g]? =some (.cells arr 5 (0,0)):=h1
    have hb:(u4 l)[j]? =some (.int .u8 (x.toNat:Int)):=by simp[u4,hx]
    rw[←h3,List.getElem?_take]at hb
    split at hb
    ·rw[Array.getElem?_toList]at hb
     simp[World.cell?,Addr.add_lit,hg',hb]
    ·cases hb
   have hll:l.length≠0:=by simpa using hl
   have hfr:∃fr,(w.drew.freeze ⟨g,0,none⟩ l.length).heap[g]? =some (.cells arr 5 fr):=by
    have hg':w.drew.heap[g]? =some (.cells arr 5 (0,0)):=h1
    simp[World.freeze,hll,Array.getElem?_modify,hg']
   have hot:∀b2,b2≠g→(w.drew.freeze ⟨g,0,none⟩ l.length).heap[b2]? =w.heap[b2]?:=fun b2 h=>by
    have:g≠b2:=fun e=>h e.symm
    simp[World.freeze,hll,Array.getElem?_modify,this]
    rfl
   have hoo:oof (w.drew.freeze ⟨g,0,none⟩ l.length)=oof w:=by simp[World.freeze,hll,oof];exact⟨rfl,rfl⟩
   have hsz:(w.drew.freeze ⟨g,0,none⟩ l.length).heap.size=w.heap.size:=by simp[World.freeze,hll]
   go_enter Tryd.func30,Tryd.ntmps30
   go_wp2
   go_region_o
   all_goals (go_wp2;go_ret;exact⟨rfl,hoo,hsz,.inr (by obtain⟨fr,h⟩:=hfr;exact⟨g,cap,arr,fr,rfl,h1,h,hot⟩)⟩)
theorem z7n {A A':Key→Option O} {Γ:G} {w:World} {xs:List V} {k:Key} {l:List UInt8} {T:TypeId} {v0:Value} (c:z8 Γ w (S.start xs A')) (hA':∀k o,A k=some o→A' k=some o) (hA:A k=some (.it l T)) (h0:q9 Γ (.ptr (.g k) [] F5) v0):
  ∃b adr v,v0= .pointer (some ⟨b,0,none⟩)∧(S.start xs A').obj (.g k)=some (.it l T)∧Γ.ι (.g k)=some (b,F5)∧w.heap[b]? =some (.cells #[adr,v] T (0,0))∧(adr= .pointer none∨adr= .pointer (some ⟨b,0,none⟩))∧l.length≤140737488355328∧q8h w v l∧(∀g n c,v= .slice (some ⟨g,0,none⟩) n c→g≠b)∧J0 [adr,v]∧
   ((v= .slice none 0 0∧l=[])∨∃g cap,v= .slice (some ⟨g,0,none⟩) l.length cap∧Γ.H g=some (u4 l)∧Γ.κ g=some (.home (.g k) .bld,cap)∧l.length≤cap∧cap≤maxLen∧0<cap):=by
 have hobj:(S.start xs A').obj (.g k)=some (.it l T):=hA' _ _ hA
 obtain⟨b,τ0,off,h1,h2,hpv⟩:=X5 h0
 have e:(off,F5)=(0,τ0):=by simpa[Ty.walk]using h2.symm
 cases e
 obtain⟨b',adr,v,i1,i2,i3,i4,i5,i6,i7⟩:=c.own h1 hobj
 rw[h1]at i1;cases i1
 refine⟨b,adr,v,hpv,hobj,h1,i4,i5,i6,c.y4W i7,fun g n cc hv=>?_,?_,i7⟩
 ·intro e
  subst e
  rcases i7 with⟨h,_⟩|⟨g,cap,h,q,_⟩
  ·rw[hv]at h;cases h
  ·rw[hv]at h;cases h
   rw[i2]at q;cases q
 ·have ha:adr.oneCell'=true:=by rcases i5 with rfl|rfl <;> rfl
  have hv:v.oneCell'=true:=by rcases i7 with⟨rfl,_⟩|⟨g,cap,rfl,_⟩ <;> rfl
  intro u hu
  simp at hu
  rcases hu with rfl|rfl
  ·exact ha
  ·exact hv
theorem z8N {Γ:G} {w w':World} {s:S} (c:z8 Γ w s) {k:Key} {l l':List UInt8} {b:Nat} {adr v:Value} (ho:s.obj k=some (.it l 86)) (hι:Γ.ι k=some (b,F5)) (hw:w.heap[b]? =some (.cells #[adr,v] 86 (0,0)))
  (hv:(v= .slice none 0 0∧l=[])∨∃g cap,v= .slice (some ⟨g,0,none⟩) l.length cap∧Γ.H g=some (u4 l)∧Γ.κ g=some (.home k .bld,cap)∧l.length≤cap∧cap≤maxLen∧0<cap) (hlen:l'.length≤140737488355328) (hpre:∃m,l'=l++m) (h:z98 w w' b v l l'):
  ∃Γ',GLe Γ Γ'∧s8 Γ Γ'∧z8 Γ' w' {s with loc:=(k,.it l' 86)::s.loc}:=by
 obtain⟨h1,h2,v',h3,h4⟩:=h
 exact c.y5T ho hι hw hv h1 h2 h3 (.inr rfl) hlen hpre h4
noncomputable def y1x (_:Nat) {R:Type}:OvG R:=fun xs A K=>match xs with
 | [.ptr (.g k) [] τ,.d .str c]=>(match A k with
  |some (.it l T)=>if Ty.beq τ F5=true∧T=86∧(l++c.toStr).length≤140737488355328 then K (.tup [.d (.int .i64) (.int c.toStr.length),.d .iface .nil]) [(.g k,.it (l++c.toStr) 86)]else none
  |_=>none)
 |_=>none
theorem z7y {A:Key→Option O} {k:Key} {l:List UInt8} (hA:A k=some (.it l 86)) (c:C) (hl:l.length+1≤140737488355328):
  Q3 (X0 gl0) 38 [.ptr (.g k) [] F5,.d (.int .u8) c] A (.d .iface .nil) [(.g k,.it (l++[q1U c]) 86)]:=by
 intro A' Γ w args hA' hg hc hn hr
 obtain⟨cc,hok⟩:=hc
 have hs:args.size=2:=hn.symm
 obtain⟨b,adr,v,hpv,hobj,hι,hw,ha,hll,hrow,hvb,h1c,hv⟩:=z7n cc hA' hA (hr 0 _ _ rfl (Array.getElem?_eq_getElem (by omega)))
 have h1:=hr 1 _ _ rfl (Array.getElem?_eq_getElem (by omega))
 obtain⟨e1,_,_,_⟩:=j8 h1
 have e2:(([args[1]'(by omega)]):List Value)=[.int .u8 ((q1U c).toNat:Int)]:=by
  obtain⟨h2,_⟩:=Q2.1 h1
  have:=z4u h2
  rw[e1]at this ⊢
  simpa[Value.cells]using this
 have ea:args=#[.pointer (some ⟨b,0,none⟩),.int .u8 ((q1U c).toNat:Int)]:=by
  apply Array.ext
  ·simpa using hs
  ·intro i h1 h2
   match i with
   |0=>simpa using hpv
   |1=>simpa using e2
   |i+2=>omega
 have hl':(l++[q1U c]).length≤140737488355328:=by simpa using hl
 rw[ea]
 refine(y0k b w adr v l (q1U c) hw ha hrow hvb hl').mono fun e w' he=>?_
 obtain⟨he1,he2⟩:=he
 obtain⟨Γ',g1,g2,g3⟩:=z8N cc hobj hι hw hv hl' ⟨_,rfl⟩ he2
 refine⟨_,Γ',he1,g1,g3.congr (fun _=>rfl) (fun _=>rfl) (fun _ h=>h),?_⟩
 show q9 Γ' (.d .iface .nil) .nilIface
 exact Q2.2 ⟨by simp[z7,Value.cells],rfl⟩
noncomputable def q3F (_:Nat) {R:Type}:OvG R:=fun xs A K=>match xs with
 | [.ptr (.g k) [] τ,.d (.int .u8) c]=>(match A k with
  |some (.it l T)=>if Ty.beq τ F5=true∧T=86∧l.length+1≤140737488355328 then K (.d .iface .nil) [(.g k,.it (l++[q1U c]) 86)]else none
  |_=>none)
 |_=>none
theorem z1q (N:Nat) {R:Type}:GOk (X0 gl0) 38 (q3F N (R:=R)):=by
 intro xs A Kr r hr
 unfold q3F at hr
 split at hr
 ·split at hr
  ·rename_i hA
   simp only[Option.ite_none_right_eq_some]at hr
   obtain⟨⟨h1,rfl,h3⟩,hr⟩:=hr
   rw[(Ty.beq_iff _ _).1 h1]
   exact⟨_,_,z7y hA _ h3,hr⟩
  ·cases hr
 ·cases hr
theorem z92 {A:Key→Option O} {k:Key} {l:List UInt8} (hA:A k=some (.it l 86)):
  Q3 (X0 gl0) 30 [.ptr (.g k) [] F5] A (.d .str (.str l)) [(.g k,.box (.top F5))]:=by
 intro A' Γ w args hA' hg hc hn hr
 obtain⟨cc,hok⟩:=hc
 have hs:args.size=1:=hn.symm
 obtain⟨b,adr,v,hpv,hobj,hι,hw,ha,hll,hrow,hvb,h1c,hv⟩:=z7n cc hA' hA (hr 0 _ _ rfl (Array.getElem?_eq_getElem (by omega)))
 have ea:args=#[.pointer (some ⟨b,0,none⟩)]:=by
  apply Array.ext
  ·simpa using hs
  ·intro i h1 h2
   match i with
   |0=>simpa using hpv
   |i+1=>omega
 rw[ea]
 refine(y2N b w adr v l hw hrow hll).mono fun e w' he=>?_
 obtain⟨he1,he2,he3,he4⟩:=he
 have key:∃Γ',GLe Γ Γ'∧s8 Γ Γ'∧z8 Γ' w' {S.start [.ptr (.g k) [] F5] A' with loc:=(.g k,.box (.top F5))::(S.start [.ptr (.g k) [] F5] A').loc}:=by
  rcases he4 with h|⟨g,cap,arr,fr,h1,h2,h3,h4⟩
  ·exact cc.y1s hobj hι hw h1c he2 (by omega) none (fun g h=>by cases h) fun b2 _ _=>h b2
  ·refine cc.y1s hobj hι hw h1c he2 (by omega) (some g) (fun g' h=>?_) fun b2 _ h=>h4 b2 fun e=>h (by rw[e])
   cases h
   refine⟨?_,arr,5,fr,h2,h3⟩
   rcases hv with⟨q,_⟩|⟨g2,cap2,q,_,q3,_⟩
   ·rw[h1]at q;cases q
   ·rw[h1]at q;cases q
    exact⟨_,q3⟩
 obtain⟨Γ',g1,g2,g3⟩:=key
 refine⟨_,Γ',he1,g1,g3.congr (fun _=>rfl) (fun _=>rfl) (fun _ h=>h),?_⟩
 exact W0 hll
noncomputable def q53 (_:Nat) {R:Type}:OvG R:=fun xs A K=>match xs with
 | [.ptr (.g k) [] τ]=>(match A k with
  |some (.it l T)=>if Ty.beq τ F5=true∧T=86 then K (.d .str (.str l)) [(.g k,.box (.top F5))]else none
  |_=>none)
 |_=>none
theorem z4Z (N:Nat) {R:Type}:GOk (X0 gl0) 30 (q53 N (R:=R)):=by
 intro xs A Kr r hr
 unfold q53 at hr
 split at hr
 ·split at hr
  ·rename_i hA
   simp only[Option.ite_none_right_eq_some]at hr
   obtain⟨⟨h1,rfl⟩,hr⟩:=hr
   rw[(Ty.beq_iff _ _).1 h1]
   exact⟨_,_,z92 hA,hr⟩
  ·cases hr
 ·cases hr
theorem y2m (n:Int) (h0: -9223372036854775808≤n) (h1:n≤9223372036854775807) (w:World) (htab:z3N w):
  Calls Tryd.prog 45 #[.int .i64 n,.int .i64 10] w fun e w'=>e= .returned (.string ⟨(Lib.itoa n).toArray⟩)∧∃k os,w'=grow (w.drewN k) os:=by
 have e283:∀args w,(callFunc 49 args).run Tryd.prog w= .ok (.enter 49 args) w:=enters_of Tryd.func49 (by kernel_rfl) rfl
 have e284:∀args w,(callFunc 50 args).run Tryd.prog w= .ok (.enter 50 args) w:=enters_of Tryd.func50 (by kernel_rfl) rfl
 have e285:∀args w,(callFunc 51 args).run Tryd.prog w= .ok (.enter 51 args) w:=enters_of Tryd.func51 (by kernel_rfl) rfl
 by_cases hs:0≤n∧n<100
 ·
  obtain⟨i,rfl⟩:∃i:Nat,n=i:=⟨n.toNat,by omega⟩
  have hi:i<100:=by omega
  go_enter Tryd.func45,Tryd.ntmps45
  go_wp2_with (go_at_fn 49;refine(Any.internal_strconv_small (P:=Tryd.prog) (ρ:=Tryd.H3) {Tryd.q18 with} i hi _).mono ?_;rintro e w' ⟨rfl,rfl⟩)
  go_ret
  refine⟨?_,0,#[],by simp[World.drewN_zero]⟩
  rw[Lib.itoa_nonneg]
  rfl
 ·by_cases hneg:n<0
  ·obtain⟨u,rfl⟩:∃u:Nat,n= -(u:Int):=⟨n.natAbs,by omega⟩
   have hu1:1≤u:=by omega
   have hu64:u<18446744073709551616:=by omega
   have hnd20:Lib.nDigits u≤20:=by have:=Lib.numDigits_eq u hu1 hu64;split at this <;> omega
   have hwr:u64.wrap (-u64.wrap (-(u:Int)))=(u:Int):=by rw[IntKind.wrap_u64,IntKind.wrap_u64];omega
   have hb3:Lib.nDigits u≤23:=by omega
   have hal:Tryd.prog.arrayLen 111=24:=by kernel_rfl
   have hsl1:∀W,(Instr.sliceAt 111 (.pointer (some ⟨w.heap.size,0,none⟩)) (some (.int .i64 1)) (some (.int .i64 (1+(Lib.nDigits u:Int)))) none).run Tryd.prog W= .ok (.slice (some ⟨w.heap.size,1,none⟩) (Lib.nDigits u) 23) W:=fun W=>by
    rw[run_sliceAt_array_lh W 111 ⟨w.heap.size,0,none⟩ (by kernel_rfl) .i64 .i64 1 (1+(Lib.nDigits u:Int)) (by omega) (by omega) (by rw[hal];omega)]
    go_simp
    omega
   have hH0:=Lib.holds_zero w 111 (Lib.nDigits u) (by omega)
   have hfmt:=Any.internal_strconv_formatBase10 (P:=Tryd.prog) (ρ:=Tryd.H3) {Tryd.q18 with} w.heap.size 1 23 u (Array.replicate (Lib.nDigits u) 0) (w.alloc (.cells Lib.zeros24 111)) hH0 (by rw[Array.size_replicate];exact Lib.lt_pow_nDigits u) hu64 (by rw[Array.size_replicate];omega)
   rw[Array.size_replicate]at hfmt
   have HH0:=Lib.hid hH0
   clear hH0 hal
   go_enter Tryd.func45,Tryd.ntmps45
   go_wp2_with (first
    |(go_at_fn 50;refine(z09 u hu1 hu64 _ (q7A htab _)).mono ?_;rintro e w' ⟨rfl,rfl⟩))
   go_at_fn 51
   refine hfmt.mono ?_
   rintro e w' ⟨rfl,k,v',dk,rfl,hF⟩
   have hc0:((putRow (fun(b:UInt8)=>Value.int .u8 (b.toNat:Int)) (w.alloc (.cells Lib.zeros24 111)) w.heap.size 1 dk).drewN k).cell? ⟨w.heap.size,0,none⟩=some (.int .u8 0):=by
    rw[World.cell?_drewN,cell?_putRow_other _ _ _ _ _ _ (Or.inr (Or.inl (Nat.zero_lt_one))),World.cell?_alloc_new]
    exact Lib.zeros24_at 0 (by omega)
   have hf0:((putRow (fun(b:UInt8)=>Value.int .u8 (b.toNat:Int)) (w.alloc (.cells Lib.zeros24 111)) w.heap.size 1 dk).drewN k).frozen? ⟨w.heap.size,0,none⟩=false:=by
    rw[World.frozen?_drewN,frozen?_putRow]
    exact World.frozen?_alloc_new _ _ _ _
   have hal:Tryd.prog.arrayLen 111=24:=by kernel_rfl
   have hsl2:∀W,(Instr.sliceAt 111 (.pointer (some ⟨w.heap.size,0,none⟩)) none (some (.int .i64 (1+(Lib.nDigits u:Int)))) none).run Tryd.prog W= .ok (.slice (some ⟨w.heap.size,0,none⟩) (1+Lib.nDigits u) 24) W:=fun W=>by
    rw[run_sliceAt_array_h W 111 ⟨w.heap.size,0,none⟩ (by kernel_rfl) .i64 (1+(Lib.nDigits u:Int)) (by omega) (by rw[hal];omega)]
    go_simp
    omega
   clear hal
   have hcv:(convert 66 9 (.slice (some ⟨w.heap.size,0,none⟩) (1+Lib.nDigits u) 24)).run Tryd.prog (((putRow (fun(b:UInt8)=>Value.int .u8 (b.toNat:Int)) (w.alloc (.cells Lib.zeros24 111)) w.heap.size 1 dk).drewN k).setCell ⟨w.heap.size,0,none⟩ (.int .u8 45))= .ok (.string ⟨(45::Lib.decDigits u).toArray⟩) (((putRow (fun(b:UInt8)=>Value.int .u8 (b.toNat:Int)) (w.alloc (.cells Lib.zeros24 111)) w.heap.size 1 dk).drewN k).setCell ⟨w.heap.size,0,none⟩ (.int .u8 45)):=by
    have h:=run_convert_bytes_back (P:=Tryd.prog) (((putRow (fun(b:UInt8)=>Value.int .u8 (b.toNat:Int)) (w.alloc (.cells Lib.zeros24 111)) w.heap.size 1 dk).drewN k).setCell ⟨w.heap.size,0,none⟩ (.int .u8 45)) 66 9 5 ⟨w.heap.size,0,none⟩ 24 (45::Lib.decDigits u) (by kernel_rfl) (by kernel_rfl) (by kernel_rfl) (fun j hj=>by
     rw[Lib.add_plain]
     cases j with
     |zero=>exact World.cell?_setCell_same _ _ _ hc0
     |succ i=>
      have hi:i<(Lib.decDigits u).length:=by simpa using hj
      rw[World.cell?_setCell_other _ _ _ _ (by simp),List.getElem_cons_succ,Lib.row_is_numeral hF i hi,World.cell?_drewN,show 0+(i+1)=1+i by omega]
      exact cell?_putRow (fun(b:UInt8)=>Value.int .u8 (b.toNat:Int)) _ w.heap.size 1 _ dk HH0.out (by rw[hF.size,Array.size_replicate]) i (by rw[hF.size];rw[Lib.decDigits_length]at hi;exact hi))
    rw[List.length_cons,Lib.decDigits_length,Nat.add_comm]at h
    exact h
   go_wp2
   go_ret
   obtain⟨os,eo⟩:=Lib.fin_neg w (.cells Lib.zeros24 111) dk k (.int .u8 45)
   refine⟨?_,k,os,eo⟩
   rw[Lib.itoa_neg u hu1]
   rfl
  ·obtain⟨u,rfl⟩:∃u:Nat,n=u:=⟨n.toNat,by omega⟩
   have hu1:1≤u:=by omega
   have hu64:u<18446744073709551616:=by omega
   have hnd20:Lib.nDigits u≤20:=by have:=Lib.numDigits_eq u hu1 hu64;split at this <;> omega
   have hb3:Lib.nDigits u≤23:=by omega
   have hal:Tryd.prog.arrayLen 111=24:=by kernel_rfl
   have hsl1:∀W,(Instr.sliceAt 111 (.pointer (some ⟨w.heap.size,0,none⟩)) (some (.int .i64 1)) (some (.int .i64 (1+(Lib.nDigits u:Int)))) none).run Tryd.prog W= .ok (.slice (some ⟨w.heap.size,1,none⟩) (Lib.nDigits u) 23) W:=fun W=>by
    rw[run_sliceAt_array_lh W 111 ⟨w.heap.size,0,none⟩ (by kernel_rfl) .i64 .i64 1 (1+(Lib.nDigits u:Int)) (by omega) (by omega) (by rw[hal];omega)]
    go_simp
    omega
   have hH0:=Lib.holds_zero w 111 (Lib.nDigits u) (by omega)
   have hfmt:=Any.internal_strconv_formatBase10 (P:=Tryd.prog) (ρ:=Tryd.H3) {Tryd.q18 with} w.heap.size 1 23 u (Array.replicate (Lib.nDigits u) 0) (w.alloc (.cells Lib.zeros24 111)) hH0 (by rw[Array.size_replicate];exact Lib.lt_pow_nDigits u) hu64 (by rw[Array.size_replicate];omega)
   rw[Array.size_replicate]at hfmt
   have HH0:=Lib.hid hH0
   clear hH0 hal
   go_enter Tryd.func45,Tryd.ntmps45
   go_wp2_with (first
    |(go_at_fn 50;refine(z09 u hu1 hu64 _ (q7A htab _)).mono ?_;rintro e w' ⟨rfl,rfl⟩))
   go_at_fn 51
   refine hfmt.mono ?_
   rintro e w' ⟨rfl,k,v',dk,rfl,hF⟩
   have hcv:(convert 66 9 (.slice (some ⟨w.heap.size,1,none⟩) (Lib.nDigits u) 23)).run Tryd.prog ((putRow (fun(b:UInt8)=>Value.int .u8 (b.toNat:Int)) (w.alloc (.cells Lib.zeros24 111)) w.heap.size 1 dk).drewN k)= .ok (.string ⟨(Lib.decDigits u).toArray⟩) ((putRow (fun(b:UInt8)=>Value.int .u8 (b.toNat:Int)) (w.alloc (.cells Lib.zeros24 111)) w.heap.size 1 dk).drewN k):=by
    have h:=run_convert_bytes_back (P:=Tryd.prog) ((putRow (fun(b:UInt8)=>Value.int .u8 (b.toNat:Int)) (w.alloc (.cells Lib.zeros24 111)) w.heap.size 1 dk).drewN k) 66 9 5 ⟨w.heap.size,1,none⟩ 23 (Lib.decDigits u) (by kernel_rfl) (by kernel_rfl) (by kernel_rfl) (fun j hj=>by
     rw[Lib.row_is_numeral hF j hj,Lib.add_plain,World.cell?_drewN]
     exact cell?_putRow (fun(b:UInt8)=>Value.int .u8 (b.toNat:Int)) _ w.heap.size 1 _ dk HH0.out (by rw[hF.size,Array.size_replicate]) j (by rw[hF.size];rw[Lib.decDigits_length]at hj;exact hj))
    rw[Lib.decDigits_length]at h
    exact h
   go_wp2
   go_ret
   obtain⟨os,eo⟩:=Lib.fin_pos w (.cells Lib.zeros24 111) dk k
   refine⟨?_,k,os,eo⟩
   rw[Lib.itoa_nonneg]
   rfl
def j7 (n:Int):List UInt8:=bif decide (n<0)then 45::q50 n.natAbs else q50 n.toNat
theorem z6C (n:Int) (h0: -9223372036854775808≤n) (h1:n≤9223372036854775807):j7 n=Lib.itoa n:=by
 unfold j7 Lib.itoa
 by_cases h:n<0
 ·rw[decide_eq_true h,if_pos h,cond_true,q7v _ (by omega)]
 ·rw[decide_eq_false h,if_neg h,cond_false,q7v _ (by omega)]
theorem z8o (n:Int) (h0: -9223372036854775808≤n) (h1:n≤9223372036854775807):(Lib.itoa n).length≤21:=by
 unfold Lib.itoa
 split
 ·have:=q3A n.natAbs (by omega)
  simp;omega
 ·have:=q3A n.toNat (by omega)
  omega
theorem z9G (A:Key→Option O) (c:C):Q3 (X0 gl0) 45 [.d (.int .i64) c,.d (.int .i64) (.int 10)] A (.d .str (.str (j7 c.toInt))) []:=by
 intro A' Γ w args hA' hg hc hn hr
 obtain⟨cc,hok⟩:=hc
 have hs:args.size=2:=hn.symm
 obtain⟨e1,_,h1,h2⟩:=j8 (hr 0 _ _ rfl (Array.getElem?_eq_getElem (by omega)))
 obtain⟨e2,_,_,_⟩:=j8 (hr 1 _ _ rfl (Array.getElem?_eq_getElem (by omega)))
 have m1:i64.min= -9223372036854775808:=by decide
 have m2:i64.max=9223372036854775807:=by decide
 have ea:args=#[.int .i64 c.toInt,.int .i64 10]:=by
  apply Array.ext
  ·simpa using hs
  ·intro i h1 h2
   match i with
   |0=>simpa using e1
   |1=>simpa[C.toInt]using e2
   |i+2=>omega
 rw[ea]
 refine(y2m c.toInt (by omega) (by omega) w (z8b cc (by rw[hg];rfl))).mono fun e w' he=>?_
 obtain⟨he1,k,os,he2⟩:=he
 subst he2
 refine⟨_,Γ,he1,.refl Γ,(cc.ext (z6R w k os)).congr (fun _=>rfl) (fun _=>rfl) (fun _ h=>h),?_⟩
 have:=z8o c.toInt (by omega) (by omega)
 rw[z6C _ (by omega) (by omega)]
 exact W0 (by omega)
noncomputable def z2p (_:Nat) {R:Type}:OvG R:=fun xs _ K=>match xs with
 | [.d (.int .i64) c,.d (.int .i64) (.int b)]=>if b=10 then K (.d .str (.str (j7 c.toInt))) []else none
 |_=>none
theorem z8w (N:Nat) {R:Type}:GOk (X0 gl0) 45 (z2p N (R:=R)):=by
 intro xs A Kr r hr
 unfold z2p at hr
 split at hr
 ·rename_i c b
  by_cases hb:b=10
  ·subst hb
   exact⟨_,_,z9G A c,by simpa using hr⟩
  ·rw[if_neg hb]at hr;cases hr
 ·cases hr
set_option maxHeartbeats 4000000
def q1o (sep:List UInt8):List (List UInt8)→List UInt8
 | []=>[]
 |x::l=>match l with
  | []=>x
  |_::_=>x++sep++q1o sep l
theorem z1j (sep:List UInt8):∀l:List (List UInt8),q1o sep l=Lib.join l sep
 | []=>rfl
 | [x]=>by rw[Lib.join_one];rfl
 |x::y::l=>by
  have ih:=z1j sep (y::l)
  rw[Lib.join_cons]at ih ⊢
  rw[Lib.joinTail,List.map_cons,List.flatten_cons,List.append_assoc,←Lib.joinTail]
  show x++sep++q1o sep (y::l)=_
  rw[ih,List.append_assoc]
theorem z4l {w w':World} (h:Below w.heap.size w w'):Ext w w':=⟨h.size,fun b hb=>h.block b hb,by unfold oof;rw[h.os,h.output]⟩
theorem y0Q (a:Option Addr) (cap:Nat) (s:ByteArray) (w:World):Calls Tryd.prog 35 #[.slice a 0 cap,.string s] w fun e w'=>e= .returned (.string ⟨#[]⟩)∧w'=w:=by
 go_enter Tryd.func35,Tryd.ntmps35
 go_wp2
 go_ret
 exact⟨rfl,rfl⟩
theorem z9s (A:Key→Option O) (c s:C) (hl:(q1o s.toStr (c.elems.map C.toStr)).length≤140737488355328):
  Q3 (X0 gl0) 35 [.d (.slice 16 .str) c,.d .str s] A (.d .str (.str (q1o s.toStr (c.elems.map C.toStr)))) []:=by
 intro A' Γ w args hA' hg hc hn hr
 obtain⟨cc,hok⟩:=hc
 have hs:args.size=2:=hn.symm
 have r0:=hr 0 _ _ rfl (Array.getElem?_eq_getElem (by omega))
 obtain⟨e2,_,_⟩:=U3 (hr 1 _ _ rfl (Array.getElem?_eq_getElem (by omega)))
 obtain⟨r1,r2⟩:=Q2.1 r0
 rw[x5 (by simpa[Ty.isAgg]using r2)]at r1
 obtain⟨a,n,cap,e1,_,hlen,hcap,_,_,hrow⟩:=W3 r1
 by_cases h0:n=0
 ·subst h0
  have ea:args=#[.slice a 0 cap,.string ⟨s.toStr.toArray⟩]:=by
   apply Array.ext
   ·simpa using hs
   ·intro i h1 h2
    match i with
    |0=>simpa using e1
    |1=>simpa using e2
    |i+2=>omega
  have hce:c.elems=[]:=List.eq_nil_of_length_eq_zero hlen
  rw[ea]
  refine(y0Q a cap ⟨s.toStr.toArray⟩ w).mono fun e w' he=>?_
  obtain⟨he1,rfl⟩:=he
  refine⟨_,Γ,he1,.refl Γ,cc.congr (fun _=>rfl) (fun _=>rfl) (fun _ h=>h),?_⟩
  rw[hce]
  exact W0 (l:=[]) (by simp)
 rcases hrow with h|⟨b,off,l,rfl,hH,hb,hcs⟩
 ·omega
 obtain⟨arr,T,fr,r,q1,q2⟩:=cc.hH b l hH
 have ea:args=#[.slice (some ⟨b,off,none⟩) n cap,.string ⟨s.toStr.toArray⟩]:=by
  apply Array.ext
  ·simpa using hs
  ·intro i h1 h2
   match i with
   |0=>simpa using e1
   |1=>simpa using e2
   |i+2=>omega
 have hx:(c.elems.map fun x=>(⟨x.toStr.toArray⟩:ByteArray)).length=n:=by simpa using hlen
 have hm:((c.elems.map fun x=>(⟨x.toStr.toArray⟩:ByteArray)).map (·.data.toList))=c.elems.map C.toStr:=by simp[List.map_map,Function.comp_def]
 have hcells:∀(j:Nat) x,(c.elems.map fun x=>(⟨x.toStr.toArray⟩:ByteArray))[j]? =some x→w.cell? ⟨b,off+j,none⟩=some (.string x):=by
  intro j x hj
  rw[List.getElem?_map]at hj
  cases hc:c.elems[j]? with
  |none=>rw[hc]at hj;cases hj
  |some y=>
   rw[hc]at hj
   simp only[Option.map_some,Option.some.injEq]at hj
   have h1:=hcs j y hc
   have hjn:j<n:=by have:=(List.getElem?_eq_some_iff.1 hc).1;omega
   simp only[z7,Ty.size,Nat.mul_one]at h1 hb
   obtain⟨t,e3,e4,_⟩:=h1
   have h2:(chunk l (off+j) 1)[0]? =some (.string ⟨t.toArray⟩):=by first|rw[e4];rfl|rw[e3];rfl
   have h3:l[off+j]? =some (.string ⟨t.toArray⟩):=by
    simp only[chunk,List.getElem?_take,List.getElem?_drop]at h2
    simpa using h2
   have h4:y.toStr=t:=by first|(rw[e3];rfl)|(rw[e4];rfl)
   unfold World.cell?
   simp only[q1]
   have h5:arr[off+j]? =some (.string ⟨t.toArray⟩):=by
    rw[←Array.getElem?_toList,q2,List.getElem?_append_left (by omega)]
    exact h3
   rw[←hj,h4]
   simpa using h5
 have run:=Tryd.strings_Join b off cap (c.elems.map fun x=>(⟨x.toStr.toArray⟩:ByteArray)) ⟨s.toStr.toArray⟩ w hcells (c5 q1) (by rw[hx];simp only[Ty.size]at*;omega) (by rw[hx];exact hcap) (by rw[hm,←z1j];exact hl)
 rw[hx,hm]at run
 rw[ea]
 refine run.mono fun e w' he=>?_
 obtain⟨he1,he2⟩:=he
 refine⟨_,Γ,he1,.refl Γ,(cc.ext (z4l he2)).congr (fun _=>rfl) (fun _=>rfl) (fun _ h=>h),?_⟩
 rw[z1j]at hl ⊢
 exact W0 hl
noncomputable def q5j (_:Nat) {R:Type}:OvG R:=fun xs _ K=>match xs with
 | [.d (.slice 16 .str) c,.d .str s]=>if(q1o s.toStr (c.elems.map C.toStr)).length≤140737488355328 then K (.d .str (.str (q1o s.toStr (c.elems.map C.toStr)))) []else none
 |_=>none
theorem z0C (N:Nat) {R:Type}:GOk (X0 gl0) 35 (q5j N (R:=R)):=by
 intro xs A Kr r hr
 unfold q5j at hr
 split at hr
 ·simp only[Option.ite_none_right_eq_some]at hr
  obtain⟨h2,hr⟩:=hr
  exact⟨_,_,z9s A _ _ h2,hr⟩
 ·cases hr
def q6D (l:List UInt8) (n:Nat):List UInt8:=Lib.repeatL l n
theorem z5I (A:Key→Option O) (s n:C) (h0:0≤n.toInt) (hl:s.toStr.length*n.toInt.toNat≤140737488355328):
  Q3 (X0 gl0) 17 [.d .str s,.d (.int .i64) n] A (.d .str (.str (q6D s.toStr n.toInt.toNat))) []:=by
 intro A' Γ w args hA' hg hc hn hr
 obtain⟨cc,hok⟩:=hc
 have hs:args.size=2:=hn.symm
 obtain⟨e1,_,_⟩:=U3 (hr 0 _ _ rfl (Array.getElem?_eq_getElem (by omega)))
 obtain⟨e2,_,h1,h2⟩:=j8 (hr 1 _ _ rfl (Array.getElem?_eq_getElem (by omega)))
 have m2:i64.max=9223372036854775807:=by decide
 have ea:args=#[.string ⟨s.toStr.toArray⟩,.int .i64 (n.toInt.toNat:Int)]:=by
  apply Array.ext
  ·simpa using hs
  ·intro i h1 h2
   match i with
   |0=>simpa using e1
   |1=>
    have:((n.toInt.toNat:Nat):Int)=n.toInt:=by omega
    simpa[this]using e2
   |i+2=>omega
 have hsz:(⟨s.toStr.toArray⟩:ByteArray).size=s.toStr.length:=by simp[ByteArray.size]
 rw[ea]
 refine(Tryd.strings_Repeat ⟨s.toStr.toArray⟩ n.toInt.toNat w (by omega) (by rw[hsz];exact hl)).mono fun e w' he=>?_
 obtain⟨he1,he2⟩:=he
 refine⟨_,Γ,he1,.refl Γ,(cc.ext (z4l he2)).congr (fun _=>rfl) (fun _=>rfl) (fun _ h=>h),?_⟩
 exact W0 (by unfold q6D;rw[Lib.repeatL_length,Nat.mul_comm];exact hl)
noncomputable def q5R (_:Nat) {R:Type}:OvG R:=fun xs _ K=>match xs with
 | [.d .str s,.d (.int .i64) n]=>if 0≤n.toInt∧s.toStr.length*n.toInt.toNat≤140737488355328 then K (.d .str (.str (q6D s.toStr n.toInt.toNat))) []else none
 |_=>none
theorem z4Q (N:Nat) {R:Type}:GOk (X0 gl0) 17 (q5R N (R:=R)):=by
 intro xs A Kr r hr
 unfold q5R at hr
 split at hr
 ·simp only[Option.ite_none_right_eq_some]at hr
  obtain⟨⟨h1,h2⟩,hr⟩:=hr
  exact⟨_,_,z5I A _ _ h1 h2,hr⟩
 ·cases hr
open Go Ieee
def DR (d:Datum) (n:Int):Prop:=∃(s:Bool) (j:Nat),d= .number s (n.natAbs*2^j) (-(j:Int))∧(n≠0→s=decide (n<0))
theorem q7Q {m:Nat} (hm:m≠0) (j:Nat):(m*2^j).log2=m.log2+j:=by
 have hp:0<2^j:=Nat.two_pow_pos j
 have h0:m*2^j≠0:=Nat.mul_ne_zero hm (by omega)
 rw[Nat.log2_eq_iff h0]
 have h1:=Nat.log2_self_le hm
 have h2:=@Nat.lt_log2_self m
 constructor
 ·rw[Nat.pow_add];exact Nat.mul_le_mul_right _ h1
 ·rw[show m.log2+j+1=(m.log2+1)+j by omega,Nat.pow_add];exact Nat.mul_lt_mul_of_pos_right h2 hp
theorem DR.opp {d:Datum} {n:Int} (h:DR d n):DR d.opposite (-n):=by
 obtain⟨s,j,rfl,hs⟩:=h
 refine⟨!s,j,by simp[Datum.opposite],fun hn=>?_⟩
 rw[hs (by omega)]
 by_cases h:n<0
 ·simp[h];omega
 ·simp[h];omega
theorem q8W {s:Bool} {n:Int} (hs:n≠0→s=decide (n<0)) (i up:Nat):signed s (n.natAbs*2^i) up=n*2^(i+up):=by
 unfold signed
 rw[Nat.shiftLeft_eq,Nat.mul_assoc,←Nat.pow_add]
 by_cases h0:n=0
 ·subst h0;simp
 ·have hs:=hs h0
  by_cases h:n<0
  ·have:((n.natAbs:Nat):Int)= -n:=by omega
   rw[hs,decide_eq_true h,if_pos rfl]
   push_cast
   rw[this,Int.neg_mul,Int.neg_neg]
  ·have:((n.natAbs:Nat):Int)=n:=by omega
   rw[hs,decide_eq_false h,if_neg (by simp)]
   push_cast
   rw[this]
theorem DR.sum {d e:Datum} {n m:Int} (hd:DR d n) (he:DR e m):∃f,d.sum e=some f∧DR f (n+m):=by
 obtain⟨s,i,rfl,hs⟩:=hd
 obtain⟨t,j,rfl,ht⟩:=he
 refine⟨_,rfl,?_⟩
 have hb:min (-(i:Int)) (-(j:Int))= -((max i j:Nat):Int):=by omega
 have h1:(-(i:Int)-min (-(i:Int)) (-(j:Int))).toNat=max i j-i:=by omega
 have h2:(-(j:Int)-min (-(i:Int)) (-(j:Int))).toNat=max i j-j:=by omega
 rw[h1,h2,q8W hs,q8W ht,show i+(max i j-i)=max i j by omega,show j+(max i j-j)=max i j by omega,hb,←Int.add_mul]
 have hp:(0:Int)<2^(max i j):=by exact_mod_cast Nat.two_pow_pos _
 have h2n:((2:Int)^(max i j)).natAbs=2^(max i j):=by
  have:((2:Int)^(max i j))=((2^(max i j):Nat):Int):=by push_cast;rfl
  rw[this,Int.natAbs_natCast]
 refine⟨if(n+m)*2^max i j=0 then s&&t else decide ((n+m)*2^max i j<0),max i j,by rw[Int.natAbs_mul,h2n],?_⟩
 ·intro hnm
  have h3:(n+m)*2^(max i j)≠0:=by
   intro h
   rcases Int.mul_eq_zero.1 h with h|h
   ·exact hnm h
   ·omega
  rw[if_neg h3]
  by_cases h:n+m<0
  ·rw[decide_eq_true h,decide_eq_true (Int.mul_neg_of_neg_of_pos h hp)]
  ·rw[decide_eq_false h,decide_eq_false (by have:=Int.mul_nonneg (show 0≤n+m by omega) (Int.le_of_lt hp);omega)]
theorem DR.prod {d e:Datum} {n m:Int} (hd:DR d n) (he:DR e m):∃f,d.product e=some f∧DR f (n*m):=by
 obtain⟨s,i,rfl,hs⟩:=hd
 obtain⟨t,j,rfl,ht⟩:=he
 refine⟨_,rfl,s^^t,i+j,?_,fun h=>?_⟩
 ·congr 1
  ·rw[Int.natAbs_mul,Nat.pow_add,Nat.mul_assoc,Nat.mul_assoc,Nat.mul_left_comm (2^i)]
  ·push_cast;omega
 ·have hn:n≠0:=fun e=>h (by rw[e,Int.zero_mul])
  have hm:m≠0:=fun e=>h (by rw[e,Int.mul_zero])
  rw[hs hn,ht hm]
  by_cases h1:n<0 <;> by_cases h2:m<0
  ·have:=Int.mul_pos_of_neg_of_neg h1 h2
   simp[h1,h2];omega
  ·have:=Int.mul_neg_of_neg_of_pos h1 (show 0<m by omega)
   simp[h1,h2,this]
  ·have:=Int.mul_neg_of_pos_of_neg (show 0<n by omega) h2
   simp[h1,h2,this]
  ·have:=Int.mul_nonneg (show 0≤n by omega) (show 0≤m by omega)
   simp[h1,h2];omega
theorem DR.int {d:Datum} {n:Int} (hd:DR d n):d.toInt .zero=some n:=by
 obtain⟨s,j,rfl,hs⟩:=hd
 have hz:(-(j:Int)).toNat=0:=by omega
 have hj:(-(-(j:Int))).toNat=j:=by omega
 have hc:Toward.zero.cut s (n.natAbs*2^j) j=n.natAbs:=by
  unfold Toward.cut
  simp only[Bool.toNat_false,Nat.add_zero,Nat.shiftLeft_eq,Nat.one_mul]
  by_cases h0:n.natAbs=0
  ·rw[h0];simp
  ·rw[q7Q h0,show min j (n.natAbs.log2+j+2)=j by omega]
   exact Nat.mul_div_cancel _ (Nat.two_pow_pos j)
 simp only[Datum.toInt,Datum.integral,hz,hj,Nat.shiftLeft_zero,hc]
 have:=q8W hs 0 0
 simpa using this
abbrev f64:Format:=FloatKind.f64.format
theorem z6T (s:Bool) (x d:Nat) (hd:d≤(x*2^d).log2+2):Toward.even.cut s (x*2^d) d=x:=by
 unfold Toward.cut
 have hp:0<2^d:=Nat.two_pow_pos d
 simp only[Nat.shiftLeft_eq,Nat.one_mul,show min d ((x*2^d).log2+2)=d by omega,Nat.mul_div_cancel _ hp,Nat.mul_mod_left,Nat.mul_zero]
 have h1:decide (2^d<0)=false:=by simp
 have h2:(2^d==0)=false:=by simp
 simp[h1,h2]
set_option maxRecDepth 20000 in
theorem y0i (s:Bool) (L M:Nat) (hL:L≤52) (h1:4503599627370496≤M) (h2:M<9007199254740992):f64.read (f64.word s (min ((L+1022)*4503599627370496+M) f64.infRung))= .number s M (-((52-L:Nat):Int)):=by
 have e1:f64.infRung=2047*4503599627370496:=by decide
 have e2:f64.signWeight=9223372036854775808:=by decide
 have e3:f64.binade=4503599627370496:=by decide
 have e4:f64.leastPlace= -1074:=by decide
 have e5:min ((L+1022)*4503599627370496+M) (2047*4503599627370496)=(L+1022)*4503599627370496+M:=by omega
 rw[e1,e5]
 have hn:f64.word s ((L+1022)*4503599627370496+M) / f64.signWeight%2=s.toNat:=by
  unfold Format.word
  rw[e2]
  cases s <;> simp <;> omega
 have hr:f64.word s ((L+1022)*4503599627370496+M)%f64.signWeight=(L+1022)*4503599627370496+M:=by
  unfold Format.word
  rw[e2]
  cases s <;> simp <;> omega
 unfold Format.read
 simp only[hn,hr,e1,e3,e4]
 rw[if_neg (by omega),if_pos (by omega)]
 have h3:((L+1022)*4503599627370496+M)%4503599627370496=M-4503599627370496:=by omega
 have h4:((L+1022)*4503599627370496+M) / 4503599627370496=L+1023:=by omega
 have h5:4503599627370496+(M-4503599627370496)=M:=by omega
 have h6:(-1074:Int)+((L+1023-1:Nat):Int)= -((52-L:Nat):Int):=by omega
 have h7:(s.toNat==1)=s:=by cases s <;> rfl
 rw[h3,h4,h5,h6,h7]
theorem DR.write {d:Datum} {n:Int} (hd:DR d n) (hn:n.natAbs<9007199254740992):DR (f64.read (f64.write d)) n:=by
 obtain⟨s,j,rfl,hs⟩:=hd
 by_cases h0:n=0
 ·subst h0
  obtain⟨q,hq⟩:∃q:Nat,q=1074:=⟨_,rfl⟩
  refine⟨s,q,?_,fun h=>absurd rfl h⟩
  have:f64.write (.number s ((0:Int).natAbs*2^j) (-(j:Int)))=f64.word s 0:=by
   simp[Format.write,Format.nearest]
  rw[this,Int.natAbs_zero,Nat.zero_mul,hq]
  cases s <;> decide
 ·have hm:n.natAbs≠0:=by omega
  generalize hM:n.natAbs=m at hn hm
  have hL:m.log2≤52:=by
   have:=(Nat.log2_lt hm).2 (show m<2^53 by omega)
   omega
  have hp:0<2^j:=Nat.two_pow_pos j
  have h1:=Nat.log2_self_le hm
  have h2:=@Nat.lt_log2_self m
  have hw:f64.write (.number s (m*2^j) (-(j:Int)))=f64.word s (min ((m.log2+1022)*4503599627370496+m*2^(52-m.log2)) f64.infRung):=by
   have e3:f64.binade=4503599627370496:=by decide
   have e4:f64.leastPlace= -1074:=by decide
   have e5:(f64.fractionBits:Int)=52:=by decide
   unfold Format.write Format.nearest
   simp only[Nat.mul_eq_zero,hm,Nat.ne_of_gt hp,or_self,if_false,q7Q hm,e3,e4,e5]
   rw[show max (-(j:Int)+((m.log2+j:Nat):Int)-52) (-1074)=(m.log2:Int)-52 by omega]
   rw[show((m.log2:Int)-52- -1074).toNat=m.log2+1022 by omega]
   by_cases hj:j≤52-m.log2
   ·rw[show(-(j:Int)-((m.log2:Int)-52)).toNat=52-m.log2-j by omega,show((m.log2:Int)-52- -(j:Int)).toNat=0 by omega,Nat.shiftLeft_eq,Nat.mul_assoc,←Nat.pow_add,show j+(52-m.log2-j)=52-m.log2 by omega]
    have:=z6T s (m*2^(52-m.log2)) 0 (by omega)
    rw[Nat.pow_zero,Nat.mul_one]at this
    rw[this]
   ·rw[show(-(j:Int)-((m.log2:Int)-52)).toNat=0 by omega,show((m.log2:Int)-52- -(j:Int)).toNat=j-(52-m.log2) by omega,Nat.shiftLeft_zero]
    have e:m*2^j=m*2^(52-m.log2)*2^(j-(52-m.log2)):=by
     rw[Nat.mul_assoc,←Nat.pow_add,show 52-m.log2+(j-(52-m.log2))=j by omega]
    rw[e,z6T s _ _ (by rw[←e,q7Q hm];omega)]
  rw[hw]
  have hq:2^m.log2*2^(52-m.log2)=4503599627370496:=by rw[←Nat.pow_add,show m.log2+(52-m.log2)=52 by omega]
  have hq':2^(m.log2+1)*2^(52-m.log2)=9007199254740992:=by rw[←Nat.pow_add,show m.log2+1+(52-m.log2)=53 by omega]
  have hp2:0<2^(52-m.log2):=Nat.two_pow_pos _
  rw[y0i s m.log2 _ hL (by rw[←hq];exact Nat.mul_le_mul_right _ h1) (by rw[←hq'];exact Nat.mul_lt_mul_of_pos_right h2 hp2)]
  exact⟨s,52-m.log2,by rw[hM],hs⟩
def FR (b:Nat) (n:Int):Prop:=b<18446744073709551616∧DR (f64.read b) n
theorem z5i (n:Int) (h:n.natAbs<9007199254740992):FR (floatOfInt .f64 n) n:=by
 refine⟨FloatKind.f64.format.write_lt (.number (n<0) n.natAbs 0),?_⟩
 exact DR.write (d:=.number (n<0) n.natAbs 0) (n:=n) ⟨decide (n<0),0,by simp,fun _=>rfl⟩ h
theorem FR.sub {a b:Nat} {n m:Int} (ha:FR a n) (hb:FR b m) (h:(n-m).natAbs<9007199254740992):∃r,floatBits .sub .f64 a b=some r∧FR r (n-m):=by
 obtain⟨f,hf,hr⟩:=ha.2.sum hb.2.opp
 have hr:DR f (n-m):=hr
 refine⟨f64.write f,?_,f64.write_lt _,hr.write h⟩
 show f64.sub a b=_
 unfold Format.sub;rw[hf];rfl
theorem FR.add {a b:Nat} {n m:Int} (ha:FR a n) (hb:FR b m) (h:(n+m).natAbs<9007199254740992):∃r,floatBits .add .f64 a b=some r∧FR r (n+m):=by
 obtain⟨f,hf,hr⟩:=ha.2.sum hb.2
 refine⟨f64.write f,?_,f64.write_lt _,hr.write h⟩
 show f64.add a b=_
 unfold Format.add;rw[hf];rfl
theorem FR.mul {a b:Nat} {n m:Int} (ha:FR a n) (hb:FR b m) (h:(n*m).natAbs<9007199254740992):∃r,floatBits .mul .f64 a b=some r∧FR r (n*m):=by
 obtain⟨f,hf,hr⟩:=ha.2.prod hb.2
 refine⟨f64.write f,?_,f64.write_lt _,hr.write h⟩
 show f64.mul a b=_
 unfold Format.mul;rw[hf];rfl
theorem FR.neg {a:Nat} {n:Int} (ha:FR a n):FR (Op.negFloat .f64 a) (-n):=by
 obtain⟨hb,hd⟩:=ha
 have e:Op.negFloat .f64 a=a^^^2^63:=rfl
 rw[e]
 refine⟨Nat.xor_lt_two_pow (n:=64) hb (by decide),?_⟩
 have h1:(a^^^2^63)%2^63=a%2^63:=by rw[Nat.xor_mod_two_pow,Nat.mod_self,Nat.xor_zero]
 have h2:(a^^^2^63) / 2^63=a / 2^63^^^1:=by rw[Nat.xor_div_two_pow]
 have e2:f64.signWeight=2^63:=by decide
 have hq:a / 2^63<2:=by omega
 have key:f64.read (a^^^2^63)=(f64.read a).opposite:=by
  unfold Format.read
  simp only[e2,h1,h2]
  have h3:((a / 2^63^^^1)%2==1)= !(a / 2^63%2==1):=by
   generalize a / 2^63=q at hq
   have:q=0∨q=1:=by omega
   rcases this with rfl|rfl <;> rfl
  rw[h3]
  split
  ·rfl
  ·split
   ·rfl
   ·split <;> rfl
 rw[key]
 exact hd.opp
theorem FR.int {a:Nat} {n:Int} (ha:FR a n) (h:n.natAbs<9007199254740992):floatToIntVal .f64 a .i64=some n:=by
 unfold floatToIntVal
 have:(FloatKind.f64.decode a).toInt .zero=some n:=ha.2.int
 rw[this]
 have m1:i64.min= -9223372036854775808:=by decide
 have m2:i64.max=9223372036854775807:=by decide
 simp only[m1,m2]
 rw[if_pos (by omega)]
theorem y2q (a b:Int × Int) (h1:a.1.natAbs≤1000) (h2:a.2.natAbs≤1000) (h3:b.1.natAbs≤1000) (h4:b.2.natAbs≤1000):∃re im r i,
  cSumBits .sub .f64 (floatOfInt .f64 a.1) (floatOfInt .f64 a.2) (floatOfInt .f64 b.1) (floatOfInt .f64 b.2)=some (re,im)∧
  cMulBits re im re (Op.negFloat .f64 im)=some (r,i)∧floatToIntVal .f64 r .i64=some ((a.1-b.1)*(a.1-b.1)+(a.2-b.2)*(a.2-b.2)):=by
 obtain⟨re,hre,fre⟩:=(z5i a.1 (by omega)).sub (z5i b.1 (by omega)) (by omega)
 obtain⟨im,him,fim⟩:=(z5i a.2 (by omega)).sub (z5i b.2 (by omega)) (by omega)
 generalize hx:a.1-b.1=x at fre
 generalize hy:a.2-b.2=y at fim
 have bx:x.natAbs≤2000:=by omega
 have by':y.natAbs≤2000:=by omega
 have hb:∀u v:Int,u.natAbs≤2000→v.natAbs≤2000→(u*v).natAbs≤4000000:=fun u v hu hv=>by
  rw[Int.natAbs_mul];exact Nat.mul_le_mul hu hv
 have b1:=hb x x bx bx
 have b2:=hb y (-y) by' (by omega)
 have b3:=hb x (-y) bx (by omega)
 have b4:=hb y x by' bx
 obtain⟨ac,hac,fac⟩:=fre.mul fre (by omega)
 obtain⟨bd,hbd,fbd⟩:=fim.mul fim.neg (by omega)
 obtain⟨r,hr,fr⟩:=fac.sub fbd (by omega)
 obtain⟨ad,had,fad⟩:=fre.mul fim.neg (by omega)
 obtain⟨bc,hbc,fbc⟩:=fim.mul fre (by omega)
 obtain⟨i,hi,fi⟩:=fad.add fbc (by omega)
 refine⟨re,im,r,i,?_,?_,?_⟩
 ·unfold cSumBits;rw[hre,him];rfl
 ·unfold cMulBits;rw[hac,hbd];simp only[Option.bind_some];rw[hr,had,hbc];simp only[Option.bind_some];rw[hi];rfl
 ·have e:x*x-y* -y=x*x+y*y:=by rw[Int.mul_neg,Int.sub_neg]
  rw[e]at fr
  exact fr.int (by have:=hb y y by' by';omega)
open Go Go.E Go.RowKit
def inB (x y:Int):Bool:=decide (-1000≤x)&&decide (x≤1000)&&decide (-1000≤y)&&decide (y≤1000)
theorem y4P (x y:Int) (w:World):Calls Tryd.prog 44 #[.agg #[.int .i64 x,.int .i64 y]] w fun e w'=>e= .returned (.bool (inB x y))∧∃o,w'=w.alloc o:=by
 unfold inB
 go_enter Tryd.func44,Tryd.ntmps44
 go_wp2
 all_goals go_ret
 all_goals refine⟨?_,_,rfl⟩
 all_goals simp_all
 all_goals omega
theorem y4X (x y:Int) (w:World):Calls Tryd.prog 32 #[.agg #[.int .i64 x,.int .i64 y]] w fun e w'=>e= .returned (.complex .f64 (floatOfInt .f64 x) (floatOfInt .f64 y))∧∃o,w'=w.alloc o:=by
 go_enter Tryd.func32,Tryd.ntmps32
 go_wp2
 go_ret
 exact⟨rfl,_,rfl⟩
theorem cell_of {w:World} {g:Nat} {cs:Array Value} {T:TypeId} {i:Nat} {v:Value} (hg:w.heap[g]? =some (.cells cs T (0,0))) (hi:cs[i]? =some v):w.cell? ⟨g,i,none⟩=some v:=by
 simp[World.cell?,hg,hi]
theorem j9 {w:World} {g:Nat} {o x:Obj} (hg:w.heap[g]? =some x):(w.alloc o).heap[g]? =some x:=by
 rw[heap_alloc_old w o (Array.getElem?_eq_some_iff.1 hg).1];exact hg
theorem y4D (ax ay bx by':Int) (g:Nat) (T:TypeId) (w:World) (hg:w.heap[g]? =some (.cells #[.int .i64 ax,.int .i64 ay,.int .i64 bx,.int .i64 by'] T (0,0))):
  Calls Tryd.prog 31 #[.slice (some ⟨g,0,none⟩) 2 2] w fun e w'=>e= .returned (.bool (inB ax ay&&inB bx by'))∧((∃o1 o2,w'=(w.alloc o1).alloc o2)∨∃o1 o2 o3 o4,w'=(((w.alloc o1).alloc o2).alloc o3).alloc o4):=by
 have h1:=fun x y w=>y4P x y w
 have c0:w.cell? ⟨g,0,none⟩=some (.int .i64 ax):=cell_of hg rfl
 have c1:w.cell? ⟨g,1,none⟩=some (.int .i64 ay):=cell_of hg rfl
 have c2:∀o1 o2,((w.alloc o1).alloc o2).cell? ⟨g,2,none⟩=some (.int .i64 bx):=fun _ _=>cell_of (j9 (j9 hg)) rfl
 have c3:∀o1 o2,((w.alloc o1).alloc o2).cell? ⟨g,3,none⟩=some (.int .i64 by'):=fun _ _=>cell_of (j9 (j9 hg)) rfl
 clear hg
 cases hA:inB ax ay <;> cases hB:inB bx by'
 all_goals
  go_enter Tryd.func31,Tryd.ntmps31
  go_wp2_with (go_at_call 44;refine(h1 _ _ _).mono ?_;rintro e w' ⟨rfl,o,rfl⟩)
  refine wp_loop_rounds 3 ?_
  rw[rounds_succ]
  go_wp2_with (go_at_call 44;refine(h1 _ _ _).mono ?_;rintro e w' ⟨rfl,o,rfl⟩)
 ·go_ret
  exact⟨rfl,.inl ⟨_,_,rfl⟩⟩
 ·go_ret
  exact⟨rfl,.inl ⟨_,_,rfl⟩⟩
 all_goals
  rw[rounds_succ]
  go_wp2_with (go_at_call 44;refine(h1 _ _ _).mono ?_;rintro e w' ⟨rfl,o,rfl⟩)
 ·go_ret
  exact⟨rfl,.inr ⟨_,_,_,_,rfl⟩⟩
 ·rw[rounds_succ]
  go_wp2
  go_ret
  exact⟨rfl,.inr ⟨_,_,_,_,rfl⟩⟩
theorem y3b (w:World) (a b c:Obj):(((w.alloc a).alloc b).alloc c).heap[w.heap.size+1+1]? =some c:=by
 have h:((w.alloc a).alloc b).heap.size=w.heap.size+1+1:=by simp
 rw[←h];exact heap_alloc_new _ _
theorem z5d (w:World) (a b c:Obj):(((w.alloc a).alloc b).alloc c).heap[w.heap.size]? =some a:=j9 (j9 (heap_alloc_new _ _))
theorem z5c (w:World) (a b c:Obj):(((w.alloc a).alloc b).alloc c).heap[w.heap.size+1]? =some b:=by
 have h:(w.alloc a).heap.size=w.heap.size+1:=by simp
 rw[←h];exact j9 (heap_alloc_new _ _)
theorem y4e {w:World} {g i:Nat} {o:Obj} (h:g<w.heap.size):(w.alloc o).cell? ⟨g,i,none⟩=w.cell? ⟨g,i,none⟩:=by
 simp only[World.cell?,heap_alloc_old w o h]
abbrev SF (w:World) (ax ay bx by':Int) (W:World):Prop:=Ext w W∧w.heap.size<W.heap.size∧w.heap.size+1<W.heap.size∧W.cell? ⟨w.heap.size,0,none⟩=some (.int .i64 ax)∧W.cell? ⟨w.heap.size,1,none⟩=some (.int .i64 ay)∧W.cell? ⟨w.heap.size+1,0,none⟩=some (.int .i64 bx)∧W.cell? ⟨w.heap.size+1,1,none⟩=some (.int .i64 by')
theorem SF.al {w W:World} {ax ay bx by':Int} (h:SF w ax ay bx by' W) (o:Obj):SF w ax ay bx by' (W.alloc o):=by
 obtain⟨s0,s1,s2,s3,s4,s5,s6⟩:=h
 refine⟨s0.trans (Ext.alloc _ _),by simp;omega,by simp;omega,?_,?_,?_,?_⟩ <;> (rw[y4e (by assumption)];assumption)
theorem SF.dr {w W:World} {ax ay bx by':Int} (h:SF w ax ay bx by' W):SF w ax ay bx by' W.drew:=⟨h.1.trans (Ext.drew _),h.2⟩
theorem SF.da {w W:World} {ax ay bx by':Int} (h:SF w ax ay bx by' W.drew) (o:Obj):SF w ax ay bx by' (W.alloc o).drew:=
 (SF.al (W:=W) ⟨⟨h.1.size,h.1.old,h.1.oo⟩,h.2⟩ o).dr
def q35 (ax ay bx by':Int):Int:=bif inB ax ay&&inB bx by' then(ax-bx)*(ax-bx)+(ay-by')*(ay-by')else-1
theorem y3U (ax ay bx by':Int) (w:World):
  Calls Tryd.prog 18 #[.agg #[.int .i64 ax,.int .i64 ay],.agg #[.int .i64 bx,.int .i64 by']] w fun e w'=>e= .returned (.int .i64 (q35 ax ay bx by'))∧Ext w w':=by
 have h1:=y4D ax ay bx by'
 have h2:=fun x y w=>y4X x y w
 have key:(inB ax ay&&inB bx by')=true→∃re im r i,cSumBits .sub .f64 (floatOfInt .f64 ax) (floatOfInt .f64 ay) (floatOfInt .f64 bx) (floatOfInt .f64 by')=some (re,im)∧
   cMulBits re im re (Op.negFloat .f64 im)=some (r,i)∧floatToIntVal .f64 r .i64=some ((ax-bx)*(ax-bx)+(ay-by')*(ay-by')):=fun h=>by
  simp only[inB,Bool.and_eq_true,decide_eq_true_eq]at h
  exact y2q (ax,ay) (bx,by') (by dsimp only;omega) (by dsimp only;omega) (by dsimp only;omega) (by dsimp only;omega)
 unfold q35
 cases hq:(inB ax ay&&inB bx by')
 ·clear key
  rw[hq]at h1
  go_enter Tryd.func18,Tryd.ntmps18
  go_wp2_with (go_at_call 31;refine(h1 _ _ _ (y3b _ _ _ _)).mono ?_;rintro e w' ⟨rfl,hw⟩)
  go_ret
  refine⟨rfl,?_⟩
  rcases hw with⟨o1,o2,rfl⟩|⟨o1,o2,o3,o4,rfl⟩
  ·exact((((Ext.alloc _ _).trans (Ext.alloc _ _)).trans (Ext.alloc _ _)).trans (Ext.alloc _ _)).trans (Ext.alloc _ _)
  ·exact((((((Ext.alloc _ _).trans (Ext.alloc _ _)).trans (Ext.alloc _ _)).trans (Ext.alloc _ _)).trans (Ext.alloc _ _)).trans (Ext.alloc _ _)).trans (Ext.alloc _ _)
 ·obtain⟨re,im,r,i,k1,k2,k3⟩:=key hq
  rw[hq]at h1
  clear key
  have b1:∀w,(binOp .sub 95 (.complex .f64 (floatOfInt .f64 ax) (floatOfInt .f64 ay)) (.complex .f64 (floatOfInt .f64 bx) (floatOfInt .f64 by'))).run Tryd.prog w= .ok (.complex .f64 re im) w:=fun w=>run_complex_sum w .sub (.inr rfl) _ _ _ _ _ _ _ _ k1
  have b2:∀w,(binOp .mul 95 (.complex .f64 re im) (.complex .f64 re (Op.negFloat .f64 im))).run Tryd.prog w= .ok (.complex .f64 r i) w:=fun w=>run_complex_mul w _ _ _ _ _ _ _ k2
  have b3:∀w,(convert 97 3 (.float .f64 r)).run Tryd.prog w= .ok (.int .i64 ((ax-bx)*(ax-bx)+(ay-by')*(ay-by'))) w:=fun w=>run_convert_float_int w _ _ _ _ _ _ (by kernel_rfl) (by kernel_rfl) k3
  have b4:∀w,(Op.unary .neg (.float .f64 im)).run Tryd.prog w= .ok (.float .f64 (Op.negFloat .f64 im)) w:=fun w=>rfl
  clear k1 k2 k3
  generalize hd:(ax-bx)*(ax-bx)+(ay-by')*(ay-by')=d at b3
  have h3:=h2 bx by'
  replace h2:=h2 ax ay
  generalize floatOfInt .f64 ax=fa at*
  generalize floatOfInt .f64 ay=fb at*
  generalize floatOfInt .f64 bx=fc at*
  generalize floatOfInt .f64 by'=fd at*
  go_enter Tryd.func18,Tryd.ntmps18
  go_wp2_with (go_at_call 31;refine(h1 _ _ _ (y3b _ _ _ _)).mono ?_;rintro e w' ⟨rfl,hw⟩)
  have hS:Ext w w'∧w.heap.size<w'.heap.size∧w.heap.size+1<w'.heap.size∧w'.cell? ⟨w.heap.size,0,none⟩=some (.int .i64 ax)∧w'.cell? ⟨w.heap.size,1,none⟩=some (.int .i64 ay)∧w'.cell? ⟨w.heap.size+1,0,none⟩=some (.int .i64 bx)∧w'.cell? ⟨w.heap.size+1,1,none⟩=some (.int .i64 by'):=by
   rcases hw with⟨o1,o2,rfl⟩|⟨o1,o2,o3,o4,rfl⟩
   ·refine⟨((((Ext.alloc _ _).trans (Ext.alloc _ _)).trans (Ext.alloc _ _)).trans (Ext.alloc _ _)).trans (Ext.alloc _ _),by simp <;> omega,by simp <;> omega,cell_of (j9 (j9 (z5d _ _ _ _))) rfl,cell_of (j9 (j9 (z5d _ _ _ _))) rfl,cell_of (j9 (j9 (z5c _ _ _ _))) rfl,cell_of (j9 (j9 (z5c _ _ _ _))) rfl⟩
   ·refine⟨((((((Ext.alloc _ _).trans (Ext.alloc _ _)).trans (Ext.alloc _ _)).trans (Ext.alloc _ _)).trans (Ext.alloc _ _)).trans (Ext.alloc _ _)).trans (Ext.alloc _ _),by simp <;> omega,by simp <;> omega,cell_of (j9 (j9 (j9 (j9 (z5d _ _ _ _))))) rfl,cell_of (j9 (j9 (j9 (j9 (z5d _ _ _ _))))) rfl,cell_of (j9 (j9 (j9 (j9 (z5c _ _ _ _))))) rfl,cell_of (j9 (j9 (j9 (j9 (z5c _ _ _ _))))) rfl⟩
  clear hw h1
  go_region_held3 (fun W=>Ext w W∧w.heap.size<W.heap.size∧w.heap.size+1<W.heap.size∧W.cell? ⟨w.heap.size,0,none⟩=some (.int .i64 ax)∧W.cell? ⟨w.heap.size,1,none⟩=some (.int .i64 ay)∧W.cell? ⟨w.heap.size+1,0,none⟩=some (.int .i64 bx)∧W.cell? ⟨w.heap.size+1,1,none⟩=some (.int .i64 by')) (first|assumption|exact SF.dr (by assumption)|exact SF.al (by assumption) _|exact SF.da (by assumption) _)
   (first
    |(go_at_call_of 32 (Value.agg #[.int .i64 ax,.int .i64 ay]);refine(h2 _).mono ?_;rintro e w' ⟨rfl,o,rfl⟩)
    |(go_at_call_of 32 (Value.agg #[.int .i64 bx,.int .i64 by']);refine(h3 _).mono ?_;rintro e w' ⟨rfl,o,rfl⟩))
  all_goals
   rename_i hH
   replace hH:=hH.1
   go_wp2
   go_ret
   exact⟨rfl,hH⟩
theorem z3V {Γ:G} {c:C} {v:Value} (h:q9 Γ (.d j6 c) v):∃x y:Int,v= .agg #[.int .i64 x,.int .i64 y]∧c= .agg [.int x,.int y]:=by
 obtain⟨h1,h2⟩:=Q2.1 h
 have h0:z7 Γ.H (.struct 2 [0,1] [.int .i64,.int .i64]) v.cells.toList c:=h1
 simp only[z7,s7]at h0
 obtain⟨cs,rfl,hl,_,c1,cs1,rfl,_,⟨x,rfl,r1,_⟩,c2,cs2,rfl,_,⟨y,rfl,r2,_⟩,rfl⟩:=h0
 refine⟨x,y,?_,rfl⟩
 cases v with
 |agg vs=>
  obtain⟨l⟩:=vs
  match l,hl with
  | [p,q],_=>
   simp[chunk,Ty.size,Value.cells]at r1 r2
   subst r1;subst r2
   rfl
 |_=>cases h2
theorem y02 (A:Key→Option O) (a b:C):Q3 (X0 gl0) 18 [.d j6 a,.d j6 b] A (.d (.int .i64) (.int (q35 (a.get 0).toInt (a.get 1).toInt (b.get 0).toInt (b.get 1).toInt))) []:=by
 intro A' Γ w args hA' hg hc hn hr
 obtain⟨cc,hok⟩:=hc
 have hs:args.size=2:=hn.symm
 obtain⟨ax,ay,e1,rfl⟩:=z3V (hr 0 _ _ rfl (Array.getElem?_eq_getElem (by omega)))
 obtain⟨bx,by',e2,rfl⟩:=z3V (hr 1 _ _ rfl (Array.getElem?_eq_getElem (by omega)))
 have ea:args=#[.agg #[.int .i64 ax,.int .i64 ay],.agg #[.int .i64 bx,.int .i64 by']]:=by
  apply Array.ext
  ·simpa using hs
  ·intro i h1 h2
   match i with
   |0=>simpa using e1
   |1=>simpa using e2
   |i+2=>omega
 rw[ea]
 refine(y3U ax ay bx by' w).mono fun e w' he=>?_
 obtain⟨he1,he2⟩:=he
 refine⟨_,Γ,he1,.refl Γ,(cc.ext he2).congr (fun _=>rfl) (fun _=>rfl) (fun _ h=>h),?_⟩
 have hz: -9223372036854775808≤q35 ax ay bx by'∧q35 ax ay bx by'≤9223372036854775807:=by
  unfold q35
  cases hq:(inB ax ay&&inB bx by')
  ·simp
  ·simp only[inB,Bool.and_eq_true,decide_eq_true_eq]at hq
   have hb:∀u:Int,u.natAbs≤2000→0≤u*u∧u*u≤4000000:=fun u hu=>by
    have h1:(u*u).natAbs≤4000000:=by rw[Int.natAbs_mul];exact Nat.mul_le_mul hu hu
    have h2:0≤u*u:=by
     rcases Int.le_total 0 u with h|h
     ·exact Int.mul_nonneg h h
     ·exact Int.mul_nonneg_of_nonpos_of_nonpos h h
    omega
   have h1:=hb (ax-bx) (by omega)
   have h2:=hb (ay-by') (by omega)
   rw[cond_true]
   omega
 exact u6 (k:=.i64) hz.1 hz.2
noncomputable def q6P (_:Nat) {R:Type}:OvG R:=fun xs _ K=>match xs with
 | [.d t a,.d u b]=>if t=j6∧u=j6 then K (.d (.int .i64) (.int (q35 (a.get 0).toInt (a.get 1).toInt (b.get 0).toInt (b.get 1).toInt))) []else none
 |_=>none
theorem z7k (N:Nat) {R:Type}:GOk (X0 gl0) 18 (q6P N (R:=R)):=by
 intro xs A Kr r hr
 unfold q6P at hr
 split at hr
 ·simp only[Option.ite_none_right_eq_some]at hr
  obtain⟨⟨rfl,rfl⟩,hr⟩:=hr
  exact⟨_,_,y02 A _ _,hr⟩
 ·cases hr
open Go Go.E
set_option linter.unusedVariables false
noncomputable def z05:Hints:=[([0,1,1],⟨[],[(0,.d (.int .u64)),(3,.d .str)],[],[],[],[]⟩),
  ([4,0,1,1],⟨[],[(0,.d (.int .u64)),(3,.d .str)],[],[],[],[]⟩),
  ([9],⟨[],[(2,.d .str)],[],[],[],[]⟩)]
noncomputable def q5K (N:Nat):OvS (X0 gl0) where
 g R:=[]
 ok:=fun R=>fun _ h=>nomatch h
noncomputable def q1i {R:Type} (N:Nat) (k2:KD R):KD R→List C→List Es→Option R:=(fun k3 d1 m1=>(bif decide (9<C.toInt (dk d1 0))then(if 1+List.length (C.toStr (dk d1 1))≤140737488355328 then(k3 [C.int (wrap u64 (Int.tdiv (C.toInt (dk d1 0)) 10)),C.str ([{toBitVec:={toFin:=⟨Int.toNat (wrap u8 (wrap u64 (48+Int.tmod (C.toInt (dk d1 0)) 10)))%256,Nat.mod_lt (Int.toNat (C.toInt (C.int (wrap u8 (wrap u64 (48+Int.tmod (C.toInt (dk d1 0)) 10)))))) (BitVec.ofNat._proof_1 8)⟩}}]++C.toStr (dk d1 1))] [])else none)else(k2 [dk d1 0,dk d1 1] [])))
noncomputable def q1h {R:Type} (N:Nat) (a0:C) (k1:KD R):Option R:=(jn (fun d1 m1=>(if 1+List.length (C.toStr (dk d1 1))≤140737488355328 then(k1 [C.str ([{toBitVec:={toFin:=⟨Int.toNat (wrap u8 (wrap u64 (48+C.toInt (dk d1 0))))%256,Nat.mod_lt (Int.toNat (C.toInt (C.int (wrap u8 (wrap u64 (48+C.toInt (dk d1 0))))))) (BitVec.ofNat._proof_1 8)⟩}}]++C.toStr (dk d1 1))] [])else none)) (fun k2=>(Z2 N (q1i N k2) [a0,C.str []] [])))
noncomputable def F0 {R:Type} (N:Nat):C→KD R→Option R:=lid "" (q1h N)
theorem q5J {R:Type} (N:Nat) (a0:C) (k:KD R):F0 N a0 k=q1h N a0 k:=by unfold F0;rw[W1]
theorem z0j {R:Type} (N:Nat) (a0:C) (K:V→List (Key × O)→Option R):exF (X0 gl0) ((q5K N).ov R) q0Q noX (fun f=>bif Nat.beq f 36 then z05 else[]) N 400 8 36 [.d (.int .u64) a0] A0 K=
  F0 N a0 (fun d1 m1=>K (V.d Ty.str (dk d1 0)) []):=by
 rw[q5J]
 exact(show _=jn (fun d1 m1=>(K (V.d Ty.str (dk d1 0)) [])) (q1h N a0) by kernel_rfl).trans (r6 _ _)
noncomputable def q3k (N:Nat) {R:Type}:OvG R:=fun xs _ K=>match xs with
 | [.d t0 a0]=>if t0=(.int .u64)then F0 N a0 (fun d1 m1=>K (V.d Ty.str (dk d1 0)) [])else none
 |_=>none
theorem okB {R:Type} (o:OvS (X0 gl0)) {tb hs N n d f xs} {A:Key→Option O} {K:V→List (Key × O)→Option R} {r} (h:exF (X0 gl0) (o.ov R) q0Q tb hs N n d f xs A K=some r):∃v L,Q3 (X0 gl0) f xs A v L∧K v L=some r:=y03 (ok0 gl0) (mo gl0) (o.y5I _) (y3V gl0) _ _ _ _ _ _ h
theorem okA {R:Type} (o:OvS (X0 gl0)) {tb hs N n d f xs} {A:Key→Option O} {K:V→List (Key × O)→Option R} {r} (h:exF (X0 gl0) (o.ov R) q0Q tb hs N n d f xs A0 K=some r):∃v L,Q3 (X0 gl0) f xs A v L∧K v L=some r:=let ⟨v,L,h1,h2⟩:=okB o h
 ⟨v,L,h1.mono (y2c fun _=>rfl),h2⟩
theorem z04 (N:Nat) {R:Type}:GOk (X0 gl0) 36 (q3k N (R:=R)):=by
 intro xs A Kr r hr
 unfold q3k at hr
 split at hr
 ·simp only[Option.ite_none_right_eq_some]at hr
  obtain⟨hty,hr⟩:=hr
  subst hty
  rw[←z0j]at hr
  exact okA (q5K N) hr
 ·cases hr
end Go.Proofs.YtaopfcpeloodbaaDoor
namespace Go.Proofs.YtaopfcpeloodbaaDoor
open Go Go.E
open Go.IntKind (wrap u64 u32 u8 i64 i32)
set_option maxRecDepth 100000
set_option maxHeartbeats 4000000
set_option linter.unusedSimpArgs false
variable {R:Type} {N:Nat}
theorem z7a (k2:KD R) (N0:Nat):∀(f n:Nat) (s:List UInt8) (M:Nat),n<10^(f+1)→n<18446744073709551616→s.length+f≤100→
  ∃a t,a<10∧Lib.decDigits n=UInt8.ofNat (48+a)::t∧t.length≤f∧Z2 (M+f+1) (q1i N0 k2) [.int (n:Int),.str s] []=k2 [.int (a:Int),.str (t++s)] []
 |f,n,s,M,h,h2,hs=>by
  rw[q1l]
  by_cases hn:n<10
  ·refine⟨n,[],hn,Lib.decDigits_one hn,Nat.zero_le _,?_⟩
   unfold q1i
   have h9:¬((9:Int)<(n:Int)):=by omega
   simp only[go_sem,x7,Y8,h9,decide_false,cond_false,List.nil_append]
  ·cases f with
   |zero=>omega
   |succ f=>
    have h':n / 10<10^(f+1):=by rw[Nat.pow_succ]at h;omega
    obtain⟨a,t,ha,hd,ht,hl⟩:=z7a k2 N0 f (n / 10) (UInt8.ofNat (48+n%10)::s) M h' (by omega) (by simp only[List.length_cons];omega)
    refine⟨a,t++[UInt8.ofNat (48+n%10)],ha,?_,?_,?_⟩
    ·rw[Lib.decDigits,dif_neg hn,hd];rfl
    ·simp only[List.length_append,List.length_cons,List.length_nil];omega
    ·rw[List.append_assoc,List.singleton_append,←hl]
     have h9:((9:Int)<(n:Int)):=by omega
     have e1:u64.wrap (Int.tdiv (n:Int) 10)=((n / 10:Nat):Int):=by
      rw[Int.tdiv_eq_ediv_of_nonneg (by omega),IntKind.wrap_u64];omega
     have e2:(wrap u8 (wrap u64 (48+Int.tmod (n:Int) 10))).toNat=48+n%10:=by
      rw[Int.tmod_eq_emod_of_nonneg (by omega),IntKind.wrap_u64,wrap_u8];omega
     unfold q1i
     simp only[go_sem,x7,Y8,h9,decide_true,cond_true]
     rw[if_pos (by omega),e1]
     show Z2 (M+(f+1)) _ [C.int _,C.str (UInt8.ofNat ((wrap u8 (wrap u64 (48+Int.tmod (n:Int) 10))).toNat)::s)] []=_
     rw[e2]
     rfl
theorem y0d (n:Nat) (h:n<18446744073709551616) (hN:100<N) (k:KD R):F0 N (.int (n:Int)) k=k [.str (q50 n)] []:=by
 rw[q5J]
 unfold q1h
 simp only[r6]
 obtain⟨M,rfl⟩:∃M,N=M+19+1:=⟨N-20,by omega⟩
 obtain⟨a,t,ha,hd,ht,hl⟩:=z7a (R:=R) _ (M+19+1) 19 n [] M (Nat.lt_of_lt_of_le h (by decide)) h (by simp)
 rw[hl]
 simp only[go_sem,x7,Y8,List.append_nil]
 rw[if_pos (by omega),q7v n h,hd]
 have e2:(wrap u8 (wrap u64 (48+(a:Int)))).toNat=48+a:=by rw[IntKind.wrap_u64,wrap_u8];omega
 show k [C.str (UInt8.ofNat ((wrap u8 (wrap u64 (48+(a:Int)))).toNat)::t)] []=_
 rw[e2]
theorem z8G {n:Nat} (h:n<18446744073709551616):(q50 n).length≤20:=by rw[q7v n h];exact q3A n h
end Go.Proofs.YtaopfcpeloodbaaDoor
namespace Go.Proofs.YtaopfcpeloodbaaDoor
open Go Go.E
open Go.IntKind (wrap u64 u32 u8 i64 i32)
set_option maxRecDepth 100000
set_option maxHeartbeats 4000000
set_option linter.unusedVariables false
noncomputable def z4E:Hints:=[([1,0,1,1],⟨[],[(3,.sl 16 .str 5003)],[],[],[],[]⟩),
  ([4,1,0,1,1],⟨[6,7],[(3,.sl 16 .str 5003),(8,.d (.int .i64))],[],[],[],[]⟩),
  ([9],⟨[],[(2,.d .str)],[],[],[],[]⟩)]
noncomputable def q8o (N:Nat):OvS (X0 gl0) where
 g R:=[(46,z2o N),(35,q5j N)]
 ok:=fun R=>List.forall_mem_cons.2 ⟨z8v N,List.forall_mem_cons.2 ⟨z0C N,fun _ h=>nomatch h⟩⟩
noncomputable def q2O {R:Type} (N:Nat) (k2:KD R):KD R→List C→List Es→Option R:=(fun k3 d1 m1=>(bif decide (C.toInt (dk d1 3)<C.toInt (dk d1 1))then(if 0≤C.toInt (dk d1 3)∧C.toInt (dk d1 3)<(↑(List.length (C.elems (dk d1 0))):Int)then(bif Nat.beq (List.length (C.elems (dk d1 2))) (List.length (C.elems (dk d1 2)))then(if(List.length (C.elems (dk d1 2))+1)*16≤140737488355328∧List.length (C.elems (dk d1 2))+1≤9223372036854775807 then(bif Nat.beq (List.length (C.elems (dk d1 2))+1) (List.length (C.elems (dk d1 2)++[C.str (q50 (Int.toNat (C.toInt (List.getD (C.elems (dk d1 0)) (Int.toNat (C.toInt (dk d1 3))) C.nil))))]))then(k3 [dk d1 0,dk d1 1,C.slice (C.elems (dk d1 2)++[C.str (q50 (Int.toNat (C.toInt (List.getD (C.elems (dk d1 0)) (Int.toNat (C.toInt (dk d1 3))) C.nil))))]),C.int (wrap i64 (C.toInt (dk d1 3)+1))] [])else none)else none)else none)else none)else(bif Nat.beq (List.length (C.elems (dk d1 2))) (List.length (C.elems (dk d1 2)))then(k2 [C.slice (C.elems (dk d1 2))] [])else none)))
noncomputable def q2N {R:Type} (N:Nat) (a0:C) (k1:KD R):Option R:=(jn (fun d1 m1=>(if List.length (q1o [UInt8.ofNat 32] (List.map (fun x=>match x with|C.str l=>l|x=>[]) (C.elems (dk d1 0))))≤140737488355328 then(k1 [C.str (q1o [UInt8.ofNat 32] (List.map (fun x=>match x with|C.str l=>l|x=>[]) (C.elems (dk d1 0))))] [])else none)) (fun k2=>(Z2 N (q2O N k2) [a0,C.int (↑(List.length (C.elems a0)):Int),C.slice [],C.int 0] [])))
noncomputable def H0 {R:Type} (N:Nat):C→KD R→Option R:=lid "" (q2N N)
theorem q8n {R:Type} (N:Nat) (a0:C) (k:KD R):H0 N a0 k=q2N N a0 k:=by unfold H0;rw[W1]
theorem z29 {R:Type} (N:Nat) (a0:C) (K:V→List (Key × O)→Option R):exF (X0 gl0) ((q8o N).ov R) q0Q noX (fun f=>bif Nat.beq f 20 then z4E else[]) N 400 8 20 [.d (.slice 8 (.int .u64)) a0] A0 K=
  H0 N a0 (fun d1 m1=>K (V.d Ty.str (dk d1 0)) []):=by
 rw[q8n]
 exact(show _=jn (fun d1 m1=>(K (V.d Ty.str (dk d1 0)) [])) (q2N N a0) by kernel_rfl).trans (r6 _ _)
noncomputable def q5H (N:Nat) {R:Type}:OvG R:=fun xs _ K=>match xs with
 | [.d t0 a0]=>if t0=(.slice 8 (.int .u64))then H0 N a0 (fun d1 m1=>K (V.d Ty.str (dk d1 0)) [])else none
 |_=>none
theorem z4D (N:Nat) {R:Type}:GOk (X0 gl0) 20 (q5H N (R:=R)):=by
 intro xs A Kr r hr
 unfold q5H at hr
 split at hr
 ·simp only[Option.ite_none_right_eq_some]at hr
  obtain⟨hty,hr⟩:=hr
  subst hty
  rw[←z29]at hr
  exact okA (q8o N) hr
 ·cases hr
noncomputable def z5M:Hints:=[([9],⟨[],[(2,.d .str)],[],[],[],[]⟩)]
noncomputable def q82 (N:Nat):OvS (X0 gl0) where
 g R:=[(36,q3k N)]
 ok:=fun R=>List.forall_mem_cons.2 ⟨z04 N,fun _ h=>nomatch h⟩
noncomputable def q3h {R:Type} (N:Nat) (a0:C) (k1:KD R):Option R:=(F0 N a0 (fun d1 m1=>(k1 [dk d1 0] [])))
noncomputable def W9 {R:Type} (N:Nat):C→KD R→Option R:=lid "" (q3h N)
theorem q81 {R:Type} (N:Nat) (a0:C) (k:KD R):W9 N a0 k=q3h N a0 k:=by unfold W9;rw[W1]
theorem z4H {R:Type} (N:Nat) (a0:C) (K:V→List (Key × O)→Option R):exF (X0 gl0) ((q82 N).ov R) q0Q noX (fun f=>bif Nat.beq f 22 then z5M else[]) N 400 8 22 [.d (.int .u64) a0] A0 K=
  W9 N a0 (fun d1 m1=>K (V.d Ty.str (dk d1 0)) []):=by
 rw[q81]
 exact(show _=jn (fun d1 m1=>(K (V.d Ty.str (dk d1 0)) [])) (q3h N a0) by kernel_rfl).trans (r6 _ _)
noncomputable def q4l (N:Nat) {R:Type}:OvG R:=fun xs _ K=>match xs with
 | [.d t0 a0]=>if t0=(.int .u64)then W9 N a0 (fun d1 m1=>K (V.d Ty.str (dk d1 0)) [])else none
 |_=>none
theorem q83 (N:Nat) {R:Type}:GOk (X0 gl0) 22 (q4l N (R:=R)):=by
 intro xs A Kr r hr
 unfold q4l at hr
 split at hr
 ·simp only[Option.ite_none_right_eq_some]at hr
  obtain⟨hty,hr⟩:=hr
  subst hty
  rw[←z4H]at hr
  exact okA (q82 N) hr
 ·cases hr
noncomputable def z5P:Hints:=[([9],⟨[],[(2,.d .str)],[],[],[],[]⟩)]
noncomputable def q87 (N:Nat):OvS (X0 gl0) where
 g R:=[(22,q4l N)]
 ok:=fun R=>List.forall_mem_cons.2 ⟨q83 N,fun _ h=>nomatch h⟩
noncomputable def q3j {R:Type} (N:Nat) (a0:C) (k1:KD R):Option R:=(bif decide (C.toInt a0<0)then(W9 N (C.int (wrap u64 (wrap u64 (wrap i64 (0-wrap i64 (C.toInt a0+1)))+1))) (fun d1 m1=>(if 1+List.length (C.toStr (dk d1 0))≤140737488355328 then(k1 [C.str ([UInt8.ofNat 45]++C.toStr (dk d1 0))] [])else none)))else(W9 N (C.int (wrap u64 (C.toInt a0))) (fun d1 m1=>(k1 [dk d1 0] []))))
noncomputable def U0 {R:Type} (N:Nat):C→KD R→Option R:=lid "" (q3j N)
theorem q86 {R:Type} (N:Nat) (a0:C) (k:KD R):U0 N a0 k=q3j N a0 k:=by unfold U0;rw[W1]
theorem z4J {R:Type} (N:Nat) (a0:C) (K:V→List (Key × O)→Option R):exF (X0 gl0) ((q87 N).ov R) q0Q noX (fun f=>bif Nat.beq f 21 then z5P else[]) N 400 8 21 [.d (.int .i64) a0] A0 K=
  U0 N a0 (fun d1 m1=>K (V.d Ty.str (dk d1 0)) []):=by
 rw[q86]
 exact(show _=jn (fun d1 m1=>(K (V.d Ty.str (dk d1 0)) [])) (q3j N a0) by kernel_rfl).trans (r6 _ _)
noncomputable def q4m (N:Nat) {R:Type}:OvG R:=fun xs _ K=>match xs with
 | [.d t0 a0]=>if t0=(.int .i64)then U0 N a0 (fun d1 m1=>K (V.d Ty.str (dk d1 0)) [])else none
 |_=>none
theorem q88 (N:Nat) {R:Type}:GOk (X0 gl0) 21 (q4m N (R:=R)):=by
 intro xs A Kr r hr
 unfold q4m at hr
 split at hr
 ·simp only[Option.ite_none_right_eq_some]at hr
  obtain⟨hty,hr⟩:=hr
  subst hty
  rw[←z4J]at hr
  exact okA (q87 N) hr
 ·cases hr
end Go.Proofs.YtaopfcpeloodbaaDoor
namespace Go.Proofs.YtaopfcpeloodbaaDoor
open Go Go.E
open Go.IntKind (wrap u64 u32 u8 i64 i32)
set_option maxRecDepth 100000
set_option maxHeartbeats 4000000
set_option linter.unusedSimpArgs false
variable {R:Type} {N:Nat}
def W63 (a:Int):Prop:=-9223372036854775808≤a∧a<9223372036854775808
theorem q2a {n:Int} (h:W63 n):(j7 n).length≤21:=by
 rw[z6C n h.1 (by have:=h.2;omega)]
 exact z8o n h.1 (by have:=h.2;omega)
def q3V (n:Int):List UInt8:=q50 n.toNat
theorem q5r {n:Int} (h:W64 n):(q3V n).length≤20:=z8G (by have:=h.2;have:=h.1;omega)
theorem q9b (c:C) (h:W64 c.toInt) (he:c= .int c.toInt) (hN:100<N) (k:KD R):W9 N c k=k [.str (q3V c.toInt)] []:=by
 rw[q81]
 unfold q3h
 have e:c= .int ((c.toInt.toNat:Nat):Int):=by rw[Int.toNat_of_nonneg h.1];exact he
 rw[e,y0d _ (by have:=h.2;have:=h.1;omega) hN]
 rfl
theorem z1X (n:Int) (h:W64 n) (hN:100<N) (k:KD R):W9 N (.int n) k=k [.str (q3V n)] []:=q9b (.int n) h rfl hN k
theorem q4J (c:C) (h:W63 c.toInt) (hN:100<N) (k:KD R):U0 N c k=k [.str (j7 c.toInt)] []:=by
 have h1:=h.1
 have h2:=h.2
 rw[q86]
 unfold q3j j7
 by_cases h0:c.toInt<0
 ·have e:u64.wrap (u64.wrap (i64.wrap (0-i64.wrap (c.toInt+1)))+1)=(c.toInt.natAbs:Int):=by
   rw[wrap_i64 (n:=c.toInt+1) (by omega) (by omega),wrap_i64 (by omega) (by omega),wrap_u64 (n:=0-(c.toInt+1)) (by omega) (by omega),wrap_u64 (by omega) (by omega)]
   omega
  simp only[h0,decide_true,cond_true]
  rw[e,z1X _ (by unfold W64;omega) hN]
  have hl:=z8G (n:=c.toInt.natAbs) (by omega)
  simp only[x3,Y8,q3V,Int.toNat_natCast]
  exact if_pos (by omega)
 ·have e:u64.wrap c.toInt=c.toInt:=wrap_u64 (by omega) (by omega)
  simp only[h0,decide_false,cond_false]
  rw[e,z1X _ (by unfold W64;omega) hN]
  simp only[x3,Y8,q3V]
def z1v (c:C):Prop:=c= .int c.toInt
def q4h (l:List C):List C:=l.map fun c=>.str (q3V c.toInt)
def q6n (l:List C):List UInt8:=q1o [UInt8.ofNat 32] (l.map fun c=>q3V c.toInt)
theorem z6B:∀(l:List C),(∀c∈l,W64 c.toInt)→(q6n l).length≤21*l.length
 | [],_=>by simp[q6n,q1o]
 | [x],h=>by have:=q5r (h x (by simp));simp[q6n,q1o];omega
 |x::y::l,h=>by
  have h1:=q5r (h x (by simp))
  have h2:=z6B (y::l) fun c hc=>h c (List.mem_cons_of_mem _ hc)
  unfold q6n at h2 ⊢
  simp only[List.map_cons,q1o,List.length_append,List.length_cons,List.length_nil]at h2 ⊢
  omega
theorem y4J (l:List C) (h:∀c∈l,W64 c.toInt) (hl:l.length≤10) (hN:100<N) (k:KD R):H0 N (.slice l) k=k [.str (q6n l)] []:=by
 rw[q8n]
 unfold q2N
 simp only[r6,x6]
 have key:=U1 (F:=q2O N fun d1 m1=>if List.length (q1o [UInt8.ofNat 32] (List.map (fun x=>match x with|C.str l=>l|x=>[]) (C.elems (dk d1 0))))≤140737488355328 then k [C.str (q1o [UInt8.ofNat 32] (List.map (fun x=>match x with|C.str l=>l|x=>[]) (C.elems (dk d1 0))))] []else none)
  (fun i=>[.slice l,.int l.length,.slice (q4h (l.take i)),.int i]) (fun _=>[]) l.length (k [.str (q6n l)] []) ?_ ?_ (N:=N) (by omega)
 ·exact key
 ·intro i hi rec
  have h1:(i:Int)<(l.length:Int):=by omega
  have h3:(q4h (l.take i)).length=i:=by simp[q4h];omega
  have g1:(i+1)*16≤140737488355328∧i+1≤9223372036854775807:=by omega
  have e:q4h (l.take (i+1))=q4h (l.take i)++[.str (q50 (l.getD i .nil).toInt.toNat)]:=by
   unfold q4h
   rw[List.take_add_one,List.getElem?_eq_getElem hi,List.getD_eq_getElem?_getD,List.getElem?_eq_getElem hi,List.map_append];rfl
  unfold q2O
  simp only[x3,u0,u7,j4,x7,x6,h1,h3,g1,decide_true,cond_true,Int.natCast_nonneg,and_self,if_true,Nat.beq_refl,Int.toNat_natCast,List.length_append,List.length_cons,List.length_nil,Nat.zero_add,q09 (show i<4611686018427387904 by omega),e]
 ·intro rec
  have hl2:=z6B l h
  have e:List.map (fun x=>match x with|C.str l=>l|x=>[]) (q4h l)=l.map fun c=>q3V c.toInt:=by
   unfold q4h
   rw[List.map_map];rfl
  unfold q2O
  simp only[x3,u0,u7,j4,x7,x6,Int.lt_irrefl,decide_false,cond_false,List.take_length,Nat.beq_refl,cond_true]
  have e':∀f:C→List UInt8,(∀l,f (.str l)=l)→List.map f (q4h l)=l.map fun c=>q3V c.toInt:=fun f hf=>by
   unfold q4h;rw[List.map_map];exact List.map_congr_left fun c _=>hf _
  rw[e' _ fun _=>rfl]
  exact if_pos (show(q6n l).length≤_ by omega)
theorem z2X {c:C} (h:C.wf (.int .u64) c):W64 c.toInt∧z1v c:=by
 have m1:u64.min=0:=by decide
 have m2:u64.max=18446744073709551615:=by decide
 exact⟨⟨by have:=h.2.1;omega,by have:=h.2.2;omega⟩,h.1⟩
theorem q58 {c:C} (h:C.wf (.int .i64) c):W63 c.toInt∧z1v c:=by
 have m1:i64.min= -9223372036854775808:=by decide
 have m2:i64.max=9223372036854775807:=by decide
 exact⟨⟨by have:=h.2.1;omega,by have:=h.2.2;omega⟩,h.1⟩
end Go.Proofs.YtaopfcpeloodbaaDoor
namespace Go.Proofs.YtaopfcpeloodbaaDoor
open Go Go.E
open Go.IntKind (wrap u64 u32 u8 i64 i32)
set_option maxRecDepth 100000
set_option maxHeartbeats 4000000
set_option linter.unusedVariables false
noncomputable def z4S:Hints:=[([1,0,1,1],⟨[],[],[],[],[],[]⟩),
  ([4,1,0,1,1],⟨[0,1,12],[(13,.d (.int .i64))],[],[],[],[]⟩),
  ([9],⟨[],[(4,.d .bool)],[],[],[],[]⟩)]
noncomputable def q8w (N:Nat):OvS (X0 gl0) where
 g R:=[]
 ok:=fun R=>fun _ h=>nomatch h
noncomputable def q42 {R:Type} (N:Nat) (k1:KD R) (k2:KD R):KD R→List C→List Es→Option R:=(fun k3 d1 m1=>(bif decide (C.toInt (dk d1 3)<C.toInt (dk d1 2))then(if 0≤C.toInt (dk d1 3)∧C.toInt (dk d1 3)<(↑(List.length (C.elems (dk d1 0))):Int)then(if 0≤C.toInt (dk d1 3)∧C.toInt (dk d1 3)<(↑(List.length (C.elems (dk d1 1))):Int)then(bif !C.toStr (List.getD (C.elems (dk d1 0)) (Int.toNat (C.toInt (dk d1 3))) C.nil)==C.toStr (List.getD (C.elems (dk d1 1)) (Int.toNat (C.toInt (dk d1 3))) C.nil)then(k1 [C.bool false] [])else(k3 [dk d1 0,dk d1 1,dk d1 2,C.int (wrap i64 (C.toInt (dk d1 3)+1))] []))else none)else none)else(k2 [] [])))
noncomputable def q2Q {R:Type} (N:Nat) (a0 a1:C) (k1:KD R):Option R:=(bif !decide ((↑(List.length (C.elems a0)):Int)=(↑(List.length (C.elems a1)):Int))then(k1 [C.bool false] [])else(jn (fun d1 m1=>(k1 [C.bool true] [])) (fun k2=>(Z2 N (q42 N k1 k2) [a0,a1,C.int (↑(List.length (C.elems a0)):Int),C.int 0] []))))
noncomputable def H4 {R:Type} (N:Nat):C→C→KD R→Option R:=lid "" (q2Q N)
theorem q8v {R:Type} (N:Nat) (a0 a1:C) (k:KD R):H4 N a0 a1 k=q2Q N a0 a1 k:=by unfold H4;rw[W1]
theorem z3k {R:Type} (N:Nat) (a0 a1:C) (K:V→List (Key × O)→Option R):exF (X0 gl0) ((q8w N).ov R) q0Q noX (fun f=>bif Nat.beq f 10 then z4S else[]) N 400 8 10 [.d (.slice 16 .str) a0,.d (.slice 16 .str) a1] A0 K=
  H4 N a0 a1 (fun d1 m1=>K (V.d Ty.bool (C.bool (C.toBool (dk d1 0)))) []):=by
 rw[q8v]
 exact(show _=jn (fun d1 m1=>(K (V.d Ty.bool (C.bool (C.toBool (dk d1 0)))) [])) (q2Q N a0 a1) by kernel_rfl).trans (r6 _ _)
noncomputable def q5S (N:Nat) {R:Type}:OvG R:=fun xs _ K=>match xs with
 | [.d t0 a0,.d t1 a1]=>if t0=(.slice 16 .str)∧t1=(.slice 16 .str)then H4 N a0 a1 (fun d1 m1=>K (V.d Ty.bool (C.bool (C.toBool (dk d1 0)))) [])else none
 |_=>none
theorem z4R (N:Nat) {R:Type}:GOk (X0 gl0) 10 (q5S N (R:=R)):=by
 intro xs A Kr r hr
 unfold q5S at hr
 split at hr
 ·simp only[Option.ite_none_right_eq_some]at hr
  obtain⟨hty,hr⟩:=hr
  obtain⟨rfl,rfl⟩:=hty
  rw[←z3k]at hr
  exact okA (q8w N) hr
 ·cases hr
end Go.Proofs.YtaopfcpeloodbaaDoor
namespace Go.Proofs.YtaopfcpeloodbaaDoor
open Go Go.E
open Go.IntKind (wrap u64 u32 u8 i64 i32)
set_option maxRecDepth 100000
set_option maxHeartbeats 4000000
set_option linter.unusedSimpArgs false
variable {R:Type} {N:Nat}
theorem q9B {l:List C} {i:Nat} (h:i<l.length):l.drop i=l.getD i .nil::l.drop (i+1):=by
 rw[List.drop_eq_getElem_cons h,List.getD_eq_getElem?_getD,List.getElem?_eq_getElem h];rfl
theorem q9P (a b:List C) (ha:a.length≤1000) (hN:2000<N) (k:KD R):H4 N (.slice a) (.slice b) k=k [.bool (decide (a.map C.toStr=b.map C.toStr))] []:=by
 rw[q8v]
 unfold q2Q
 simp only[r6,x6]
 by_cases hl:a.length=b.length
 case neg=>
  have h1:¬((a.length:Int)=(b.length:Int)):=by omega
  have h2:¬a.map C.toStr=b.map C.toStr:=fun e=>hl (by have:=congrArg List.length e;simpa using this)
  simp only[h1,h2,decide_false,Bool.not_false,cond_true]
 have h1:((a.length:Int)=(b.length:Int)):=by omega
 simp only[h1,decide_true,Bool.not_true,cond_false]
 rw[←h1]
 refine(q4O (F:=q42 N k fun d1 m1=>k [C.bool true] []) (fun i:Nat=>[.slice a,.slice b,.int a.length,.int i]) (fun _=>[]) (fun i=>a.length-i) (fun i=>i≤a.length)
  (fun i=>k [.bool (decide ((a.drop i).map C.toStr=(b.drop i).map C.toStr))] []) ?_ N 0 (Nat.zero_le _) (by omega)).trans rfl
 intro i hi rec hrec
 unfold q42
 by_cases hlt:i<a.length
 ·have g1:(i:Int)<(a.length:Int):=by omega
  have g2:(i:Int)<(b.length:Int):=by omega
  have hx:=q9B hlt
  have hy:=q9B (show i<b.length by omega)
  simp only[x3,u0,u7,j4,x7,x6,g1,g2,decide_true,cond_true,Int.natCast_nonneg,and_self,if_true,Int.toNat_natCast]
  rw[hx,hy]
  by_cases he:(a.getD i .nil).toStr=(b.getD i .nil).toStr
  ·rw[he,beq_self_eq_true,Bool.not_true,cond_false,q09 (show i<4611686018427387904 by omega),hrec (i+1) (by omega) (by omega)]
   simp only[List.map_cons,he,List.cons.injEq,true_and]
  ·rw[show((a.getD i .nil).toStr==(b.getD i .nil).toStr)=false from by simpa using he,Bool.not_false,cond_true]
   simp only[List.map_cons,he,List.cons.injEq,false_and,decide_false]
 ·have e:i=a.length:=by omega
  subst e
  simp only[u7,j4,x7,Int.lt_irrefl,decide_false,cond_false]
  rw[List.drop_length,show b.drop a.length=[] from by rw[hl,List.drop_length]]
  simp
end Go.Proofs.YtaopfcpeloodbaaDoor
namespace Go.Proofs.YtaopfcpeloodbaaDoor
open Go Go.E
open Go.IntKind (wrap u64 u32 u8 i64 i32)
set_option maxRecDepth 100000
set_option maxHeartbeats 4000000
set_option linter.unusedVariables false
noncomputable def z3o:Hints:=[([0,1],⟨[],[(2,.d .bool)],[],[],[],[]⟩),
  ([9],⟨[],[(2,.d .bool)],[],[],[],[]⟩)]
noncomputable def q7i (N:Nat):OvS (X0 gl0) where
 g R:=[]
 ok:=fun R=>fun _ h=>nomatch h
noncomputable def q2u {R:Type} (N:Nat) (a0:C) (k1:KD R):Option R:=(jn (fun d1 m1=>(k1 [C.bool (C.toBool (dk d1 0))] [])) (fun k2=>(bif decide ((↑(List.length (C.elems (C.get a0 0))):Int)≤20)then(k2 [C.bool (decide ((↑(List.length (C.elems (C.get a0 1))):Int)≤30))] [])else(k2 [C.bool false] []))))
noncomputable def q0E {R:Type} (N:Nat):C→KD R→Option R:=lid "" (q2u N)
theorem q7h {R:Type} (N:Nat) (a0:C) (k:KD R):q0E N a0 k=q2u N a0 k:=by unfold q0E;rw[W1]
theorem z2e {R:Type} (N:Nat) (a0:C) (K:V→List (Key × O)→Option R):exF (X0 gl0) ((q7i N).ov R) q0Q (fun f r=>bif Nat.beq f 4 then(bif Nat.beq r 0 then[(1,5)]else[])else[]) (fun f=>bif Nat.beq f 4 then z3o else[]) N 400 8 4 [.d b7 a0] A0 K=
  q0E N a0 (fun d1 m1=>K (V.d Ty.bool (C.bool (C.toBool (dk d1 0)))) []):=by
 rw[q7h]
 exact(show _=jn (fun d1 m1=>(K (V.d Ty.bool (C.bool (C.toBool (dk d1 0)))) [])) (q2u N a0) by kernel_rfl).trans (r6 _ _)
noncomputable def q44 (N:Nat) {R:Type}:OvG R:=fun xs _ K=>match xs with
 | [.d t0 a0]=>if t0=b7 then q0E N a0 (fun d1 m1=>K (V.d Ty.bool (C.bool (C.toBool (dk d1 0)))) [])else none
 |_=>none
theorem z3n (N:Nat) {R:Type}:GOk (X0 gl0) 4 (q44 N (R:=R)):=by
 intro xs A Kr r hr
 unfold q44 at hr
 split at hr
 ·simp only[Option.ite_none_right_eq_some]at hr
  obtain⟨hty,hr⟩:=hr
  subst hty
  rw[←z2e]at hr
  exact okA (q7i N) hr
 ·cases hr
noncomputable def z7O:Hints:=[([9],⟨[],[(2,.as (.ptr (.l 2) [] j6))],[],[(.l 2,.box (.d j6))],[],[]⟩)]
noncomputable def z0I (N:Nat):OvS (X0 gl0) where
 g R:=[]
 ok:=fun R=>fun _ h=>nomatch h
noncomputable def q4t {R:Type} (N:Nat) (a0:C) (k1:KD R):Option R:=(k1 [C.set (C.set (C.agg [C.int 0,C.int 0]) 0 (C.get a0 0)) 1 (C.get a0 1)] [])
noncomputable def q2v {R:Type} (N:Nat):C→KD R→Option R:=lid "" (q4t N)
theorem z0H {R:Type} (N:Nat) (a0:C) (k:KD R):q2v N a0 k=q4t N a0 k:=by unfold q2v;rw[W1]
theorem z6z {R:Type} (N:Nat) (a0:C) (K:V→List (Key × O)→Option R):exF (X0 gl0) ((z0I N).ov R) q0Q (fun f r=>bif Nat.beq f 15 then(bif Nat.beq r 0 then[(1,5)]else[])else[]) (fun f=>bif Nat.beq f 15 then z7O else[]) N 400 8 15 [.d j6 a0] A0 K=
  q2v N a0 (fun d1 m1=>K (V.d j6 (dk d1 0)) []):=by
 rw[z0H]
 exact(show _=jn (fun d1 m1=>(K (V.d j6 (dk d1 0)) [])) (q4t N a0) by kernel_rfl).trans (r6 _ _)
noncomputable def q7U (N:Nat) {R:Type}:OvG R:=fun xs _ K=>match xs with
 | [.d t0 a0]=>if t0=j6 then q2v N a0 (fun d1 m1=>K (V.d j6 (dk d1 0)) [])else none
 |_=>none
theorem z7N (N:Nat) {R:Type}:GOk (X0 gl0) 15 (q7U N (R:=R)):=by
 intro xs A Kr r hr
 unfold q7U at hr
 split at hr
 ·simp only[Option.ite_none_right_eq_some]at hr
  obtain⟨hty,hr⟩:=hr
  subst hty
  rw[←z6z]at hr
  exact okA (z0I N) hr
 ·cases hr
noncomputable def z7M:Hints:=[([1,0,1,1],⟨[1,2,3],[],[],[(.l 3,.box (.agg b7 [(.ts 16 j6),(.ts 64 Y7)]))],[],[]⟩),
  ([4,1,0,1,1],⟨[1,2,3,9,10],[(11,.d (.int .i64))],[],[(.l 3,.box (.agg b7 [(.ts 16 j6),(.ts 64 Y7)]))],[],[]⟩),
  ([1,0,1,1,1],⟨[2,3],[],[],[(.l 3,.box (.agg b7 [(.ts 16 j6),(.ts 64 Y7)]))],[],[]⟩),
  ([4,1,0,1,1,1],⟨[2,3,24,25],[(26,.d (.int .i64))],[],[(.l 3,.box (.agg b7 [(.ts 16 j6),(.ts 64 Y7)]))],[],[]⟩),
  ([9],⟨[],[(2,.as (.ptr (.l 2) [] b7))],[],[(.l 2,.box (.d b7))],[],[]⟩)]
noncomputable def z0G (N:Nat):OvS (X0 gl0) where
 g R:=[(15,q7U N)]
 ok:=fun R=>List.forall_mem_cons.2 ⟨z7N N,fun _ h=>nomatch h⟩
noncomputable def q2I {R:Type} (N:Nat) (k2:KD R):KD R→List C→List Es→Option R:=(fun k3 d2 m2=>(bif decide (C.toInt (dk d2 2)<C.toInt (dk d2 1))then(if 0≤C.toInt (dk d2 2)∧C.toInt (dk d2 2)<(↑(List.length (C.elems (dk d2 0))):Int)then(bif Nat.beq (List.length (C.elems (dk d2 4))) (List.length (C.elems (dk d2 4)))then(if(List.length (C.elems (dk d2 4))+1)*64≤140737488355328∧List.length (C.elems (dk d2 4))+1≤9223372036854775807 then(bif Nat.beq (List.length (C.elems (dk d2 4))+1) (List.length (C.elems (dk d2 4)++[C.set (C.set (C.set (C.agg [C.agg [C.int 0,C.int 0],C.agg [C.int 0,C.int 0],C.agg [C.agg [C.int 0,C.int 0],C.agg [C.int 0,C.int 0]]]) 0 (C.get (List.getD (C.elems (dk d2 0)) (Int.toNat (C.toInt (dk d2 2))) C.nil) 0)) 1 (C.get (List.getD (C.elems (dk d2 0)) (Int.toNat (C.toInt (dk d2 2))) C.nil) 1)) 2 (C.set (C.set (b5 (Ty.arr 2 F4)) 0 (C.set (C.set (C.agg [C.int 0,C.int 0]) 0 (C.get (C.get (C.get (List.getD (C.elems (dk d2 0)) (Int.toNat (C.toInt (dk d2 2))) C.nil) 2) (Int.toNat 0)) 0)) 1 (C.get (C.get (C.get (List.getD (C.elems (dk d2 0)) (Int.toNat (C.toInt (dk d2 2))) C.nil) 2) (Int.toNat 0)) 1))) 1 (C.set (C.set (C.agg [C.int 0,C.int 0]) 0 (C.get (C.get (C.get (List.getD (C.elems (dk d2 0)) (Int.toNat (C.toInt (dk d2 2))) C.nil) 2) (Int.toNat 1)) 0)) 1 (C.get (C.get (C.get (List.getD (C.elems (dk d2 0)) (Int.toNat (C.toInt (dk d2 2))) C.nil) 2) (Int.toNat 1)) 1)))]))then(k3 [dk d2 0,dk d2 1,C.int (wrap i64 (C.toInt (dk d2 2)+1)),C.slice (C.elems (dk d2 3)),C.slice (C.elems (dk d2 4)++[C.set (C.set (C.set (C.agg [C.agg [C.int 0,C.int 0],C.agg [C.int 0,C.int 0],C.agg [C.agg [C.int 0,C.int 0],C.agg [C.int 0,C.int 0]]]) 0 (C.get (List.getD (C.elems (dk d2 0)) (Int.toNat (C.toInt (dk d2 2))) C.nil) 0)) 1 (C.get (List.getD (C.elems (dk d2 0)) (Int.toNat (C.toInt (dk d2 2))) C.nil) 1)) 2 (C.set (C.set (b5 (Ty.arr 2 F4)) 0 (C.set (C.set (C.agg [C.int 0,C.int 0]) 0 (C.get (C.get (C.get (List.getD (C.elems (dk d2 0)) (Int.toNat (C.toInt (dk d2 2))) C.nil) 2) (Int.toNat 0)) 0)) 1 (C.get (C.get (C.get (List.getD (C.elems (dk d2 0)) (Int.toNat (C.toInt (dk d2 2))) C.nil) 2) (Int.toNat 0)) 1))) 1 (C.set (C.set (C.agg [C.int 0,C.int 0]) 0 (C.get (C.get (C.get (List.getD (C.elems (dk d2 0)) (Int.toNat (C.toInt (dk d2 2))) C.nil) 2) (Int.toNat 1)) 0)) 1 (C.get (C.get (C.get (List.getD (C.elems (dk d2 0)) (Int.toNat (C.toInt (dk d2 2))) C.nil) 2) (Int.toNat 1)) 1)))]),dk d2 5] [])else none)else none)else none)else none)else(k2 [C.slice (C.elems (dk d2 3)),C.slice (C.elems (dk d2 4)),dk d2 5] [])))
noncomputable def q4s {R:Type} (N:Nat) (k2:KD R):KD R→List C→List Es→Option R:=(fun k3 d1 m1=>(bif decide (C.toInt (dk d1 3)<C.toInt (dk d1 2))then(if 0≤C.toInt (dk d1 3)∧C.toInt (dk d1 3)<(↑(List.length (C.elems (dk d1 1))):Int)then(q2v N (List.getD (C.elems (dk d1 1)) (Int.toNat (C.toInt (dk d1 3))) C.nil) (fun d2 m2=>(bif Nat.beq (List.length (C.elems (dk d1 4))) (List.length (C.elems (dk d1 4)))then(if(List.length (C.elems (dk d1 4))+1)*16≤140737488355328∧List.length (C.elems (dk d1 4))+1≤9223372036854775807 then(bif Nat.beq (List.length (C.elems (dk d1 4))+1) (List.length (C.elems (dk d1 4)++[dk d2 0]))then(k3 [dk d1 0,dk d1 1,dk d1 2,C.int (wrap i64 (C.toInt (dk d1 3)+1)),C.slice (C.elems (dk d1 4)++[dk d2 0]),C.slice (C.elems (dk d1 5)),dk d1 6] [])else none)else none)else none)))else none)else(k2 [dk d1 0,C.slice (C.elems (dk d1 4)),C.slice (C.elems (dk d1 5)),dk d1 6] [])))
noncomputable def q4r {R:Type} (N:Nat) (a0:C) (k1:KD R):Option R:=(jn (fun d1 m1=>(jn (fun d2 m2=>(k1 [C.agg [C.slice (C.elems (dk d2 0)),C.slice (C.elems (dk d2 1))]] [])) (fun k2=>(Z2 N (q2I N k2) [C.get (dk d1 0) 1,C.int (↑(List.length (C.elems (C.get (dk d1 0) 1))):Int),C.int 0,C.slice (C.elems (dk d1 1)),C.slice (C.elems (dk d1 2)),dk d1 3] [])))) (fun k2=>(Z2 N (q4s N k2) [a0,C.get a0 0,C.int (↑(List.length (C.elems (C.get a0 0))):Int),C.int 0,C.slice [],C.slice [],C.agg [C.slice [],C.slice []]] [])))
noncomputable def q2t {R:Type} (N:Nat):C→KD R→Option R:=lid "" (q4r N)
theorem z0F {R:Type} (N:Nat) (a0:C) (k:KD R):q2t N a0 k=q4r N a0 k:=by unfold q2t;rw[W1]
theorem z6y {R:Type} (N:Nat) (a0:C) (K:V→List (Key × O)→Option R):exF (X0 gl0) ((z0G N).ov R) q0Q (fun f r=>bif Nat.beq f 6 then(bif Nat.beq r 0 then[(1,5)]else bif Nat.beq r 5 then[(18,7),(5,6)]else[])else[]) (fun f=>bif Nat.beq f 6 then z7M else[]) N 400 8 6 [.d b7 a0] A0 K=
  q2t N a0 (fun d1 m1=>K (V.d b7 (dk d1 0)) []):=by
 rw[z0F]
 exact(show _=jn (fun d1 m1=>(K (V.d b7 (dk d1 0)) [])) (q4r N a0) by kernel_rfl).trans (r6 _ _)
noncomputable def q7T (N:Nat) {R:Type}:OvG R:=fun xs _ K=>match xs with
 | [.d t0 a0]=>if t0=b7 then q2t N a0 (fun d1 m1=>K (V.d b7 (dk d1 0)) [])else none
 |_=>none
theorem z7L (N:Nat) {R:Type}:GOk (X0 gl0) 6 (q7T N (R:=R)):=by
 intro xs A Kr r hr
 unfold q7T at hr
 split at hr
 ·simp only[Option.ite_none_right_eq_some]at hr
  obtain⟨hty,hr⟩:=hr
  subst hty
  rw[←z6y]at hr
  exact okA (z0G N) hr
 ·cases hr
noncomputable def z0V:Hints:=[([0,0,1],⟨[1],[(16,.d .bool)],[],[],[],[]⟩),
  ([1,0,1,1],⟨[],[],[],[],[],[]⟩),
  ([4,1,0,1,1],⟨[1,18,19],[(20,.d (.int .i64))],[],[],[],[]⟩),
  ([1,0,1,4,0,1,1,5,4,1,0,1,1],⟨[1,4,18,19,20],[],[],[],[],[]⟩),
  ([4,1,0,1,4,0,1,1,5,4,1,0,1,1],⟨[1,4,18,19,20,25],[(26,.d (.int .i64))],[],[],[],[]⟩),
  ([0,1,4,0,1,1,5,4,1,0,1,4,0,1,1,5,4,1,0,1,1],⟨[1,4,18,19,20,25,26],[(37,.d .bool)],[],[],[],[]⟩),
  ([9],⟨[],[(2,.d (.int .i64))],[],[],[],[]⟩)]
noncomputable def q5y (N:Nat):OvS (X0 gl0) where
 g R:=[]
 ok:=fun R=>fun _ h=>nomatch h
noncomputable def q1f {R:Type} (N:Nat) (k1:KD R) (k4:KD R):KD R→List C→List Es→Option R:=(fun k5 d3 m3=>(bif decide (C.toInt (dk d3 5)<2)then(if 0≤C.toInt (dk d3 5)∧C.toInt (dk d3 5)<2 then(jn (fun d4 m4=>(bif C.toBool (dk d4 6)then(k1 [C.int 1] [])else(k5 [dk d4 0,dk d4 1,dk d4 2,dk d4 3,dk d4 4,C.int (wrap i64 (C.toInt (dk d4 5)+1)),dk d4 7] []))) (fun k6=>(bif decide (C.toInt (C.get (dk d3 4) (Int.toNat (C.toInt (dk d3 5))))<0)then(k6 [dk d3 0,dk d3 1,dk d3 2,dk d3 3,dk d3 4,dk d3 5,C.bool true,dk d3 6] [])else(k6 [dk d3 0,dk d3 1,dk d3 2,dk d3 3,dk d3 4,dk d3 5,C.bool (decide ((↑(List.length (C.elems (C.get (dk d3 0) 0))):Int)≤C.toInt (C.get (dk d3 4) (Int.toNat (C.toInt (dk d3 5)))))),dk d3 6] []))))else none)else(k4 [dk d3 0,dk d3 1,dk d3 2,dk d3 3,dk d3 6] [])))
noncomputable def q1e {R:Type} (N:Nat) (k1:KD R) (k2:KD R):KD R→List C→List Es→Option R:=(fun k3 d2 m2=>(bif decide (C.toInt (dk d2 3)<C.toInt (dk d2 2))then(if 0≤C.toInt (dk d2 3)∧C.toInt (dk d2 3)<(↑(List.length (C.elems (dk d2 1))):Int)then(jn (fun d3 m3=>(bif decide (C.toInt (C.get (C.get (dk d3 4) 0) (Int.toNat 0))=C.toInt (C.get (C.get (dk d3 4) 0) (Int.toNat 1)))then(k1 [C.int 1] [])else(k3 [dk d3 0,dk d3 1,dk d3 2,C.int (wrap i64 (C.toInt (dk d3 3)+1))] []))) (fun k4=>(Z2 N (q1f N k1 k4) [dk d2 0,dk d2 1,dk d2 2,dk d2 3,C.get (List.getD (C.elems (dk d2 1)) (Int.toNat (C.toInt (dk d2 3))) C.nil) 0,C.int 0,List.getD (C.elems (dk d2 1)) (Int.toNat (C.toInt (dk d2 3))) C.nil] [])))else none)else(k2 [] [])))
noncomputable def q1d {R:Type} (N:Nat) (a0:C) (k1:KD R):Option R:=(jn (fun d1 m1=>(bif C.toBool (dk d1 1)then(k1 [C.int 8] [])else(jn (fun d2 m2=>(k1 [C.int 0] [])) (fun k2=>(Z2 N (q1e N k1 k2) [dk d1 0,C.get (dk d1 0) 1,C.int (↑(List.length (C.elems (C.get (dk d1 0) 1))):Int),C.int 0] []))))) (fun k2=>(bif decide (8<(↑(List.length (C.elems (C.get a0 0))):Int))then(k2 [a0,C.bool true] [])else(k2 [a0,C.bool (decide (16<(↑(List.length (C.elems (C.get a0 1))):Int)))] []))))
noncomputable def U2 {R:Type} (N:Nat):C→KD R→Option R:=lid "" (q1d N)
theorem q5x {R:Type} (N:Nat) (a0:C) (k:KD R):U2 N a0 k=q1d N a0 k:=by unfold U2;rw[W1]
theorem z0i {R:Type} (N:Nat) (a0:C) (K:V→List (Key × O)→Option R):exF (X0 gl0) ((q5y N).ov R) q0Q (fun f r=>bif Nat.beq f 16 then(bif Nat.beq r 0 then[(1,5)]else[])else[]) (fun f=>bif Nat.beq f 16 then z0V else[]) N 400 8 16 [.d b7 a0] A0 K=
  U2 N a0 (fun d1 m1=>K (V.d (Ty.int i64) (dk d1 0)) []):=by
 rw[q5x]
 exact(show _=jn (fun d1 m1=>(K (V.d (Ty.int i64) (dk d1 0)) [])) (q1d N a0) by kernel_rfl).trans (r6 _ _)
noncomputable def q1P (N:Nat) {R:Type}:OvG R:=fun xs _ K=>match xs with
 | [.d t0 a0]=>if t0=b7 then U2 N a0 (fun d1 m1=>K (V.d (Ty.int i64) (dk d1 0)) [])else none
 |_=>none
theorem q5z (N:Nat) {R:Type}:GOk (X0 gl0) 16 (q1P N (R:=R)):=by
 intro xs A Kr r hr
 unfold q1P at hr
 split at hr
 ·simp only[Option.ite_none_right_eq_some]at hr
  obtain⟨hty,hr⟩:=hr
  subst hty
  rw[←z0i]at hr
  exact okA (q5y N) hr
 ·cases hr
noncomputable def z3e:Hints:=[([0,0,1],⟨[1],[(15,.d .bool)],[],[],[],[]⟩),
  ([1,0,1,1],⟨[],[],[],[],[],[]⟩),
  ([4,1,0,1,1],⟨[1],[(3,.d (.int .i64))],[],[],[],[]⟩),
  ([0,1,4,0,1,5,4,1,0,1,1],⟨[1,3],[(61,.d .bool)],[],[],[],[]⟩),
  ([9],⟨[],[(2,.d (.int .i64))],[],[],[],[]⟩)]
noncomputable def q65 (N:Nat):OvS (X0 gl0) where
 g R:=[]
 ok:=fun R=>fun _ h=>nomatch h
noncomputable def q2n {R:Type} (N:Nat) (k1:KD R) (k2:KD R):KD R→List C→List Es→Option R:=(fun k3 d2 m2=>(bif decide (C.toInt (dk d2 1)<(↑(List.length (C.elems (C.get (dk d2 0) 1))):Int))then(if 0≤C.toInt (dk d2 1)∧C.toInt (dk d2 1)<(↑(List.length (C.elems (C.get (dk d2 0) 1))):Int)then(if 0≤C.toInt (dk d2 1)∧C.toInt (dk d2 1)<(↑(List.length (C.elems (C.get (dk d2 0) 1))):Int)then(jn (fun d3 m3=>(bif C.toBool (dk d3 2)then(k1 [C.int 1] [])else(k3 [dk d3 0,C.int (wrap i64 (C.toInt (dk d3 1)+1))] []))) (fun k4=>(bif decide (C.toInt (C.get (C.get (List.getD (C.elems (C.get (dk d2 0) 1)) (Int.toNat (C.toInt (dk d2 1))) C.nil) 0) (Int.toNat 0))<0)then(k4 [dk d2 0,dk d2 1,C.bool true] [])else(bif decide (C.toInt (C.get (C.get (List.getD (C.elems (C.get (dk d2 0) 1)) (Int.toNat (C.toInt (dk d2 1))) C.nil) 0) (Int.toNat 1))<0)then(k4 [dk d2 0,dk d2 1,C.bool true] [])else(bif decide ((↑(List.length (C.elems (C.get (dk d2 0) 0))):Int)≤C.toInt (C.get (C.get (List.getD (C.elems (C.get (dk d2 0) 1)) (Int.toNat (C.toInt (dk d2 1))) C.nil) 0) (Int.toNat 0)))then(k4 [dk d2 0,dk d2 1,C.bool true] [])else(bif decide ((↑(List.length (C.elems (C.get (dk d2 0) 0))):Int)≤C.toInt (C.get (C.get (List.getD (C.elems (C.get (dk d2 0) 1)) (Int.toNat (C.toInt (dk d2 1))) C.nil) 0) (Int.toNat 1)))then(k4 [dk d2 0,dk d2 1,C.bool true] [])else(k4 [dk d2 0,dk d2 1,C.bool (decide (C.toInt (C.get (C.get (List.getD (C.elems (C.get (dk d2 0) 1)) (Int.toNat (C.toInt (dk d2 1))) C.nil) 0) (Int.toNat 0))=C.toInt (C.get (C.get (List.getD (C.elems (C.get (dk d2 0) 1)) (Int.toNat (C.toInt (dk d2 1))) C.nil) 0) (Int.toNat 1))))] [])))))))else none)else none)else(k2 [] [])))
noncomputable def q2m {R:Type} (N:Nat) (a0:C) (k1:KD R):Option R:=(jn (fun d1 m1=>(bif C.toBool (dk d1 1)then(k1 [C.int 8] [])else(jn (fun d2 m2=>(k1 [C.int 0] [])) (fun k2=>(Z2 N (q2n N k1 k2) [dk d1 0,C.int 0] []))))) (fun k2=>(bif decide (8<(↑(List.length (C.elems (C.get a0 0))):Int))then(k2 [a0,C.bool true] [])else(k2 [a0,C.bool (decide (16<(↑(List.length (C.elems (C.get a0 1))):Int)))] []))))
noncomputable def q0C {R:Type} (N:Nat):C→KD R→Option R:=lid "" (q2m N)
theorem q64 {R:Type} (N:Nat) (a0:C) (k:KD R):q0C N a0 k=q2m N a0 k:=by unfold q0C;rw[W1]
theorem z1T {R:Type} (N:Nat) (a0:C) (K:V→List (Key × O)→Option R):exF (X0 gl0) ((q65 N).ov R) q0Q (fun f r=>bif Nat.beq f 9 then(bif Nat.beq r 0 then[(1,5)]else[])else[]) (fun f=>bif Nat.beq f 9 then z3e else[]) N 400 8 9 [.d b7 a0] A0 K=
  q0C N a0 (fun d1 m1=>K (V.d (Ty.int i64) (dk d1 0)) []):=by
 rw[q64]
 exact(show _=jn (fun d1 m1=>(K (V.d (Ty.int i64) (dk d1 0)) [])) (q2m N a0) by kernel_rfl).trans (r6 _ _)
noncomputable def q4Y (N:Nat) {R:Type}:OvG R:=fun xs _ K=>match xs with
 | [.d t0 a0]=>if t0=b7 then q0C N a0 (fun d1 m1=>K (V.d (Ty.int i64) (dk d1 0)) [])else none
 |_=>none
theorem z3d (N:Nat) {R:Type}:GOk (X0 gl0) 9 (q4Y N (R:=R)):=by
 intro xs A Kr r hr
 unfold q4Y at hr
 split at hr
 ·simp only[Option.ite_none_right_eq_some]at hr
  obtain⟨hty,hr⟩:=hr
  subst hty
  rw[←z1T]at hr
  exact okA (q65 N) hr
 ·cases hr
end Go.Proofs.YtaopfcpeloodbaaDoor
namespace Go.Proofs.YtaopfcpeloodbaaDoor
open Go Go.E
open Go.IntKind (wrap u64 u32 u8 i64 i32)
set_option maxRecDepth 100000
set_option maxHeartbeats 4000000
set_option linter.unusedSimpArgs false
variable {R:Type} {N:Nat}
structure q8g (c:C):Prop where
 eta:c= .agg [c.get 0,c.get 1]
 x:W63 (c.get 0).toInt
 x':z1v (c.get 0)
 y:W63 (c.get 1).toInt
 y':z1v (c.get 1)
structure q8i (c:C):Prop where
 eta:c= .agg [c.get 0,c.get 1,c.get 2]
 ends:q8g (c.get 0)
 can:W64 ((c.get 1).get 0).toInt∧W64 ((c.get 1).get 1).toInt∧z1v ((c.get 1).get 0)∧z1v ((c.get 1).get 1)
 fees:c.get 2= .agg [.agg [((c.get 2).get 0).get 0,((c.get 2).get 0).get 1],.agg [((c.get 2).get 1).get 0,((c.get 2).get 1).get 1]]
structure q57 (w:C):Prop where
 eta:w= .agg [.slice (w.get 0).elems,.slice (w.get 1).elems]
 sp:∀c∈(w.get 0).elems,q8g c
 ed:∀c∈(w.get 1).elems,q8i c
theorem z3K {t:Ty} {c:C} (h:C.wf (.arr 2 t) c):c= .agg [c.get 0,c.get 1]∧C.wf t (c.get 0)∧C.wf t (c.get 1):=by
 simp only[C.wf]at h
 obtain⟨h1,h2,h3⟩:=h
 have e:∀i,c.get i=c.elems.getD i .nil:=fun i=>by rw[h1];rfl
 refine⟨?_,by rw[e];exact h3 _ (F9 (by omega)),by rw[e];exact h3 _ (F9 (by omega))⟩
 rw[e,e]
 generalize hl:c.elems=l at*
 rw[h1]
 match l,h2 with
 | [x,y],_=>rfl
theorem y3u {c:C} (h:C.wf j6 c):q8g c:=by
 have a:=q58 (C.q2U (i:=0) h rfl)
 have b:=q58 (C.q2U (i:=1) h rfl)
 exact⟨(C.q8G h).symm,a.1,a.2,b.1,b.2⟩
theorem y32 {c:C} (h:C.wf Y7 c):q8i c:=by
 obtain⟨a1,a2,a3⟩:=z3K (C.q2U (i:=0) (f:=.arr 2 (.int .i64)) h rfl)
 obtain⟨b1,b2,b3⟩:=z3K (C.q2U (i:=1) (f:=.arr 2 (.int .u64)) h rfl)
 obtain⟨d1,d2,d3⟩:=z3K (C.q2U (i:=2) (f:=.arr 2 F4) h rfl)
 refine⟨(C.q8G h).symm,⟨a1,(q58 a2).1,(q58 a2).2,(q58 a3).1,(q58 a3).2⟩,⟨(z2X b2).1,(z2X b3).1,(z2X b2).2,(z2X b3).2⟩,?_⟩
 have e0:=(C.q8G d2).symm
 have e1:=(C.q8G d3).symm
 have e0:(c.get 2).get 0= .agg [((c.get 2).get 0).get 0,((c.get 2).get 0).get 1]:=e0
 have e1:(c.get 2).get 1= .agg [((c.get 2).get 1).get 0,((c.get 2).get 1).get 1]:=e1
 rw[←e0,←e1]
 exact d1
theorem y4l {w:C} (h:C.wf b7 w):q57 w:=by
 have s:=C.q2U (i:=0) (f:=.slice 16 j6) h rfl
 have t:=C.q2U (i:=1) (f:=.slice 64 Y7) h rfl
 simp only[C.wf]at s t
 obtain⟨s1,_,_,s2⟩:=s
 obtain⟨t1,_,_,t2⟩:=t
 exact⟨by rw[←s1,←t1];exact(C.q8G h).symm,fun x hx=>y3u (s2 x hx),fun x hx=>y32 (t2 x hx)⟩
def okE (n:Nat) (e:C):Bool:=decide (0≤((e.get 0).get 0).toInt)&&decide (((e.get 0).get 0).toInt<n)&&(decide (0≤((e.get 0).get 1).toInt)&&decide (((e.get 0).get 1).toInt<n))&&decide (((e.get 0).get 0).toInt≠((e.get 0).get 1).toInt)
def chk (w:C):Int:=if 8<(w.get 0).elems.length∨16<(w.get 1).elems.length then 8 else if(w.get 1).elems.all (okE (w.get 0).elems.length)=true then 0 else 1
theorem y2V (w:C) (k:KD R):q0E N w k=k [.bool (decide ((w.get 0).elems.length≤20∧(w.get 1).elems.length≤30))] []:=by
 rw[q7h]
 unfold q2u
 rw[r6]
 by_cases h1:(w.get 0).elems.length≤20
 ·have h1':((w.get 0).elems.length:Int)≤20:=by omega
  simp only[h1,h1',decide_true,cond_true,x3,w9,true_and]
  congr 3
  exact decide_eq_decide.2 (by omega)
 ·have h1':¬((w.get 0).elems.length:Int)≤20:=by omega
  simp only[h1,h1',decide_false,cond_false,x3,w9,false_and]
theorem z45 {l:List C} {i:Nat} (hi:i<l.length):l.take (i+1)=l.take i++[l.getD i .nil]:=by
 rw[List.take_add_one,List.getElem?_eq_getElem hi,List.getD_eq_getElem?_getD,List.getElem?_eq_getElem hi];rfl
theorem y0F (s:C) (h:q8g s) (k:KD R):q2v N s k=k [s] []:=by
 rw[z0H]
 unfold q4t
 have:C.set (C.set (C.agg [C.int 0,C.int 0]) 0 (C.get s 0)) 1 (C.get s 1)=s:=by
  rw[h.eta];rfl
 rw[this]
theorem y5U (w:C) (h:q57 w) (hs:(w.get 0).elems.length≤20) (he:(w.get 1).elems.length≤30) (hN:2000<N) (k:KD R):q2t N w k=k [w] []:=by
 rw[z0F]
 unfold q4r
 rw[r6]
 generalize hS:(w.get 0).elems=S at*
 generalize hE:(w.get 1).elems=E at*
 have e0:w.get 0= .slice S:=by rw[h.eta,←hS];rfl
 have e1:w.get 1= .slice E:=by rw[h.eta,←hE];rfl
 have hw:w= .agg [.slice S,.slice E]:=by rw[h.eta,hS,hE]
 have w0:w.get 0= .slice S:=e0
 rw[e0]
 have key:=U1 (F:=q4s N fun d1 m1=>jn (fun d2 m2=>k [C.agg [C.slice (C.elems (dk d2 0)),C.slice (C.elems (dk d2 1))]] []) fun k2=>Z2 N (q2I N k2) [C.get (dk d1 0) 1,C.int (↑(List.length (C.elems (C.get (dk d1 0) 1))):Int),C.int 0,C.slice (C.elems (dk d1 1)),C.slice (C.elems (dk d1 2)),dk d1 3] [])
  (fun i=>[w,.slice S,.int S.length,.int i,.slice (S.take i),.slice [],.agg [.slice [],.slice []]]) (fun _=>[]) S.length (k [w] []) ?_ ?_ (N:=N) (by omega)
 ·exact key
 ·intro i hi rec
  have h1:(i:Int)<(S.length:Int):=by omega
  have h3:(S.take i).length=i:=by rw[List.length_take];omega
  have g1:(i+1)*16≤140737488355328∧i+1≤9223372036854775807:=by omega
  have hm:q8g (S.getD i .nil):=h.sp _ (by rw[hS];exact F9 hi)
  unfold q4s
  simp only[x3,u0,u7,j4,Q1,Z0,Z8,x7,x6,h1,h3,decide_true,cond_true,Int.natCast_nonneg,and_self,if_true,Nat.beq_refl,Int.toNat_natCast]
  rw[y0F _ hm]
  simp only[x3,h3,g1,and_self,if_true,Nat.beq_refl,cond_true,List.length_append,List.length_cons,List.length_nil,Nat.zero_add,q09 (show i<4611686018427387904 by omega),z45 hi]
 ·intro rec
  unfold q4s
  simp only[x3,u0,u7,j4,Q1,Z0,Z8,x7,x6,Int.lt_irrefl,decide_false,cond_false,List.take_length,e1]
  rw[r6]
  refine U1 (F:=q2I N fun d2 m2=>k [C.agg [C.slice (C.elems (dk d2 0)),C.slice (C.elems (dk d2 1))]] [])
   (fun i=>[.slice E,.int E.length,.int i,.slice S,.slice (E.take i),.agg [.slice [],.slice []]]) (fun _=>[]) E.length (k [w] []) ?_ ?_ (N:=N) (by omega)
  ·intro i hi rec
   have h1:(i:Int)<(E.length:Int):=by omega
   have h3:(E.take i).length=i:=by rw[List.length_take];omega
   have g1:(i+1)*64≤140737488355328∧i+1≤9223372036854775807:=by omega
   have hm:q8i (E.getD i .nil):=h.ed _ (by rw[hE];exact F9 hi)
   unfold q2I
   simp only[x3,u0,u7,j4,Q1,Z0,x7,x6,h1,h3,decide_true,cond_true,Int.natCast_nonneg,and_self,if_true,Nat.beq_refl,Int.toNat_natCast,show Int.toNat 0=0 from rfl,show Int.toNat 1=1 from rfl]
   generalize hx:E.getD i .nil=x at hm
   have ex:C.set (C.set (C.set (C.agg [C.agg [C.int 0,C.int 0],C.agg [C.int 0,C.int 0],C.agg [C.agg [C.int 0,C.int 0],C.agg [C.int 0,C.int 0]]]) 0 (C.get x 0)) 1 (C.get x 1)) 2
     (C.set (C.set (b5 (Ty.arr 2 F4)) 0 (C.set (C.set (C.agg [C.int 0,C.int 0]) 0 (C.get (C.get (C.get x 2) 0) 0)) 1 (C.get (C.get (C.get x 2) 0) 1))) 1
      (C.set (C.set (C.agg [C.int 0,C.int 0]) 0 (C.get (C.get (C.get x 2) 1) 0)) 1 (C.get (C.get (C.get x 2) 1) 1)))=x:=by
    have:C.set (C.set (b5 (Ty.arr 2 F4)) 0 (C.set (C.set (C.agg [C.int 0,C.int 0]) 0 (C.get (C.get (C.get x 2) 0) 0)) 1 (C.get (C.get (C.get x 2) 0) 1))) 1
      (C.set (C.set (C.agg [C.int 0,C.int 0]) 0 (C.get (C.get (C.get x 2) 1) 0)) 1 (C.get (C.get (C.get x 2) 1) 1))=x.get 2:=hm.fees.symm
    rw[this]
    exact hm.eta.symm
   rw[ex,z45 hi,hx]
   simp only[g1,and_self,if_true,Nat.beq_refl,cond_true,List.length_append,List.length_cons,List.length_nil,Nat.zero_add,h3,q09 (show i<4611686018427387904 by omega)]
  ·intro rec
   unfold q2I
   simp only[x3,u0,u7,j4,Q1,Z0,x7,x6,Int.lt_irrefl,decide_false,cond_false,List.take_length]
   rw[hw]
theorem z7q {p:C→Bool} {l:List C} {i:Nat} (hi:i<l.length):(l.drop i).all p=(p (l.getD i .nil)&&(l.drop (i+1)).all p):=by rw[q9B hi];rfl
theorem q9d (w:C) (h:q57 w) (hN:2000<N) (k:KD R):q0C N w k=k [.int (chk w)] []:=by
 rw[q64]
 unfold q2m
 rw[r6]
 have e1:w.get 1= .slice (w.get 1).elems:=by rw[h.eta];rfl
 have fin:∀b:Bool,b=decide (8<(w.get 0).elems.length∨16<(w.get 1).elems.length)→(bif b then k [C.int 8] []else jn (fun d2 m2=>k [C.int 0] []) fun k2=>Z2 N (q2n N k k2) [w,C.int 0] [])=k [.int (chk w)] []:=by
  intro b hb
  subst hb
  unfold chk
  by_cases hc:8<(w.get 0).elems.length∨16<(w.get 1).elems.length
  ·rw[decide_eq_true hc,if_pos hc];rfl
  rw[decide_eq_false hc,if_neg hc,cond_false,r6]
  generalize hE:(w.get 1).elems=E at*
  generalize hn:(w.get 0).elems.length=n at*
  refine(q4O (F:=q2n N k fun d2 m2=>k [C.int 0] []) (fun i:Nat=>[w,.int i]) (fun _=>[]) (fun i=>E.length-i) (fun i=>i≤E.length)
   (fun i=>k [.int (if(E.drop i).all (okE n)=true then 0 else 1)] []) ?_ N 0 (Nat.zero_le _) (by omega)).trans rfl
  intro i hi rec hrec
  unfold q2n
  by_cases hlt:i<E.length
  ·have g1:(i:Int)<(E.length:Int):=by omega
   have hm:q8i (E.getD i .nil):=h.ed _ (by rw[hE];exact F9 hlt)
   simp only[x3,u0,x7,hE,hn,g1,decide_true,cond_true,Int.natCast_nonneg,and_self,if_true,Int.toNat_natCast,show Int.toNat 0=0 from rfl,show Int.toNat 1=1 from rfl]
   rw[r6,z7q hlt]
   generalize hx:E.getD i .nil=x at hm
   have key:∀b:Bool,b= !okE n x→(bif b then k [C.int 1] []else rec [w,.int (i64.wrap ((i:Int)+1))] [])=k [.int (if(okE n x&&(E.drop (i+1)).all (okE n))=true then 0 else 1)] []:=by
    intro b hb
    subst hb
    cases okE n x
    ·rfl
    ·rw[Bool.not_true,cond_false,q09 (show i<4611686018427387904 by omega),hrec (i+1) (by omega) (by omega),Bool.true_and]
   have hk:okE n x=(decide (0≤((x.get 0).get 0).toInt)&&decide (((x.get 0).get 0).toInt<n)&&(decide (0≤((x.get 0).get 1).toInt)&&decide (((x.get 0).get 1).toInt<n))&&decide (((x.get 0).get 0).toInt≠((x.get 0).get 1).toInt)):=rfl
   generalize ((x.get 0).get 0).toInt=a at*
   generalize ((x.get 0).get 1).toInt=b at*
   by_cases h1:a<0
   ·simp only[h1,decide_true,cond_true,x3,u0,u7,w9]
    exact key true (by rw[hk];simp;omega)
   by_cases h2:b<0
   ·simp only[h1,h2,decide_true,decide_false,cond_true,cond_false,x3,u0,u7,w9]
    exact key true (by rw[hk];simp;omega)
   by_cases h3:(n:Int)≤a
   ·simp only[h1,h2,h3,decide_true,decide_false,cond_true,cond_false,x3,u0,u7,w9]
    exact key true (by rw[hk];simp;omega)
   by_cases h4:(n:Int)≤b
   ·simp only[h1,h2,h3,h4,decide_true,decide_false,cond_true,cond_false,x3,u0,u7,w9]
    exact key true (by rw[hk];simp;omega)
   ·simp only[h1,h2,h3,h4,decide_true,decide_false,cond_true,cond_false,x3,u0,u7,w9]
    exact key (decide (a=b)) (by rw[hk];by_cases e:a=b <;> simp[e] <;> omega)
  ·have e:i=E.length:=by omega
   subst e
   simp only[x3,u0,x7,hE,Int.lt_irrefl,decide_false,cond_false,List.drop_length,List.all_nil,if_true]
 by_cases h1:8<(w.get 0).elems.length
 ·have h1':(8:Int)<((w.get 0).elems.length:Int):=by omega
  simp only[h1',decide_true,cond_true,x3,u0,w9]
  exact fin true (by simp[h1])
 ·have h1':¬(8:Int)<((w.get 0).elems.length:Int):=by omega
  simp only[h1',decide_false,cond_false,x3,u0,w9]
  exact fin _ (decide_eq_decide.2 (by omega))
theorem z7w (w:C) (h:q57 w) (hN:2000<N) (k:KD R):U2 N w k=k [.int (chk w)] []:=by
 rw[q5x]
 unfold q1d
 rw[r6]
 have e1:w.get 1= .slice (w.get 1).elems:=by rw[h.eta];rfl
 have fin:∀b:Bool,b=decide (8<(w.get 0).elems.length∨16<(w.get 1).elems.length)→(bif b then k [C.int 8] []else jn (fun d2 m2=>k [C.int 0] []) fun k2=>Z2 N (q1e N k k2) [w,C.get w 1,C.int (↑(List.length (C.elems (C.get w 1))):Int),C.int 0] [])=k [.int (chk w)] []:=by
  intro b hb
  subst hb
  unfold chk
  by_cases hc:8<(w.get 0).elems.length∨16<(w.get 1).elems.length
  ·rw[decide_eq_true hc,if_pos hc];rfl
  rw[decide_eq_false hc,if_neg hc,cond_false,r6]
  generalize hE:(w.get 1).elems=E at*
  generalize hn:(w.get 0).elems.length=n at*
  rw[e1]
  refine(q4O (F:=q1e N k fun d2 m2=>k [C.int 0] []) (fun i:Nat=>[w,.slice E,.int E.length,.int i]) (fun _=>[]) (fun i=>E.length-i) (fun i=>i≤E.length)
   (fun i=>k [.int (if(E.drop i).all (okE n)=true then 0 else 1)] []) ?_ N 0 (Nat.zero_le _) (by omega)).trans rfl
  intro i hi rec hrec
  unfold q1e
  by_cases hlt:i<E.length
  ·have g1:(i:Int)<(E.length:Int):=by omega
   have hm:q8i (E.getD i .nil):=h.ed _ (by rw[hE];exact F9 hlt)
   simp only[x3,u0,u7,j4,x7,x6,g1,decide_true,cond_true,Int.natCast_nonneg,and_self,if_true,Int.toNat_natCast,show Int.toNat 0=0 from rfl,show Int.toNat 1=1 from rfl]
   rw[r6,z7q hlt]
   generalize hx:E.getD i .nil=x at hm
   have key:∀b:Bool,b= !okE n x→(bif b then k [C.int 1] []else rec [w,.slice E,.int E.length,.int (i64.wrap ((i:Int)+1))] [])=k [.int (if(okE n x&&(E.drop (i+1)).all (okE n))=true then 0 else 1)] []:=by
    intro b hb
    subst hb
    cases okE n x
    ·rfl
    ·rw[Bool.not_true,cond_false,q09 (show i<4611686018427387904 by omega),hrec (i+1) (by omega) (by omega),Bool.true_and]
   have hk:okE n x=(decide (0≤((x.get 0).get 0).toInt)&&decide (((x.get 0).get 0).toInt<n)&&(decide (0≤((x.get 0).get 1).toInt)&&decide (((x.get 0).get 1).toInt<n))&&decide (((x.get 0).get 0).toInt≠((x.get 0).get 1).toInt)):=rfl
   obtain⟨N',rfl⟩:∃N',N=N'+3:=⟨N-3,by omega⟩
   rw[q1l]
   conv=>lhs;unfold q1f
   simp only[x3,u0,u7,j4,Q1,Z0,Z8,x7,hn,show(0:Int)<2 from by decide,Int.le_refl,and_self,if_true,decide_true,cond_true,r6,show Int.toNat 0=0 from rfl,show Int.toNat 1=1 from rfl]
   by_cases h1:((x.get 0).get 0).toInt<0
   ·simp only[h1,decide_true,cond_true,x3,u0,u7,j4,Q1,Z0,Z8,q2C,w9]
    exact key true (by rw[hk];simp;omega)
   by_cases h3:(n:Int)≤((x.get 0).get 0).toInt
   ·simp only[h1,h3,decide_true,decide_false,cond_true,cond_false,x3,u0,u7,j4,Q1,Z0,Z8,q2C,w9]
    exact key true (by rw[hk];simp;omega)
   simp only[h1,h3,decide_false,cond_false,x3,u0,u7,j4,Q1,Z0,Z8,q2C,w9,x7]
   rw[show i64.wrap ((0:Int)+1)=1 from rfl,q1l]
   conv=>lhs;unfold q1f
   simp only[x3,u0,u7,j4,Q1,Z0,Z8,x7,hn,show(1:Int)<2 from by decide,show(0:Int)≤1 from by decide,and_self,if_true,decide_true,cond_true,r6,show Int.toNat 0=0 from rfl,show Int.toNat 1=1 from rfl]
   by_cases h2:((x.get 0).get 1).toInt<0
   ·simp only[h2,decide_true,cond_true,x3,u0,u7,j4,Q1,Z0,Z8,q2C,w9]
    exact key true (by rw[hk];simp;omega)
   by_cases h4:(n:Int)≤((x.get 0).get 1).toInt
   ·simp only[h2,h4,decide_true,decide_false,cond_true,cond_false,x3,u0,u7,j4,Q1,Z0,Z8,q2C,w9]
    exact key true (by rw[hk];simp;omega)
   simp only[h2,h4,decide_false,cond_false,x3,u0,u7,j4,Q1,Z0,Z8,q2C,w9,x7]
   rw[show i64.wrap ((1:Int)+1)=2 from rfl,q1l]
   conv=>lhs;unfold q1f
   simp only[x3,u0,u7,j4,Q1,Z0,Z8,x7,Int.lt_irrefl,decide_false,cond_false,show Int.toNat 0=0 from rfl,show Int.toNat 1=1 from rfl]
   exact key (decide (((x.get 0).get 0).toInt=((x.get 0).get 1).toInt)) (by rw[hk];by_cases e:((x.get 0).get 0).toInt=((x.get 0).get 1).toInt <;> simp[e] <;> omega)
  ·have e:i=E.length:=by omega
   subst e
   simp only[x3,u0,u7,j4,x7,Int.lt_irrefl,decide_false,cond_false,List.drop_length,List.all_nil,if_true]
 by_cases h1:8<(w.get 0).elems.length
 ·have h1':(8:Int)<((w.get 0).elems.length:Int):=by omega
  simp only[h1',decide_true,cond_true,x3,u0,w9]
  exact fin true (by simp[h1])
 ·have h1':¬(8:Int)<((w.get 0).elems.length:Int):=by omega
  simp only[h1',decide_false,cond_false,x3,u0,w9]
  exact fin _ (decide_eq_decide.2 (by omega))
end Go.Proofs.YtaopfcpeloodbaaDoor
