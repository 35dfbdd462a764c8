/-
  The facts of this program: its types, by their numbers.
  Conditions: none.
-/
import Derived.Test.YtgkdfggnlpojoaaDoorEd
import Derived.Test.YtgkdfggnlpojoaaDoorRows
set_option linter.all false
namespace Go.Proofs.YtgkdfggnlpojoaaDoor
open Go Go.E
set_option maxRecDepth 100000
noncomputable def X0 (gl : Nat → Option (Ty × C)) : Cx := ⟨Tryd.prog, gl⟩
@[go_sem] theorem X0_gl (gl : Nat → Option (Ty × C)) : (X0 gl).gl = gl := rfl
theorem ok0 (gl : Nat → Option (Ty × C)) : allOk (X0 gl).P = true := by
  show allOk Tryd.prog = true
  kernel_rfl
theorem mo (gl : Nat → Option (Ty × C)) : (X0 gl).P.follows .mixedOrders = true := by
  show Tryd.prog.follows .mixedOrders = true
  kernel_rfl
@[go_sem] theorem ty0 (gl : Nat → Option (Ty × C)) : ty (X0 gl).P 0 = (.opq 1) := by
  show ty Tryd.prog 0 = _
  kernel_rfl
@[go_sem] theorem ty1 (gl : Nat → Option (Ty × C)) : ty (X0 gl).P 1 = .func := by
  show ty Tryd.prog 1 = _
  kernel_rfl
@[go_sem] theorem ty2 (gl : Nat → Option (Ty × C)) : ty (X0 gl).P 2 = (.int .i64) := by
  show ty Tryd.prog 2 = _
  kernel_rfl
@[go_sem] theorem ty3 (gl : Nat → Option (Ty × C)) : ty (X0 gl).P 3 = (.int .i64) := by
  show ty Tryd.prog 3 = _
  kernel_rfl
@[go_sem] theorem ty4 (gl : Nat → Option (Ty × C)) : ty (X0 gl).P 4 = .bool := by
  show ty Tryd.prog 4 = _
  kernel_rfl
@[go_sem] theorem ty5 (gl : Nat → Option (Ty × C)) : ty (X0 gl).P 5 = (.int .u8) := by
  show ty Tryd.prog 5 = _
  kernel_rfl
@[go_sem] theorem ty6 (gl : Nat → Option (Ty × C)) : ty (X0 gl).P 6 = (.int .u8) := by
  show ty Tryd.prog 6 = _
  kernel_rfl
@[go_sem] theorem ty7 (gl : Nat → Option (Ty × C)) : ty (X0 gl).P 7 = tBoundsError := by
  show ty Tryd.prog 7 = _
  kernel_rfl
@[go_sem] theorem ty8 (gl : Nat → Option (Ty × C)) : ty (X0 gl).P 8 = tBoundsError := by
  show ty Tryd.prog 8 = _
  kernel_rfl
@[go_sem] theorem ty9 (gl : Nat → Option (Ty × C)) : ty (X0 gl).P 9 = .str := by
  show ty Tryd.prog 9 = _
  kernel_rfl
@[go_sem] theorem ty10 (gl : Nat → Option (Ty × C)) : ty (X0 gl).P 10 = .str := by
  show ty Tryd.prog 10 = _
  kernel_rfl
@[go_sem] theorem ty11 (gl : Nat → Option (Ty × C)) : ty (X0 gl).P 11 = .str := by
  show ty Tryd.prog 11 = _
  kernel_rfl
@[go_sem] theorem ty12 (gl : Nat → Option (Ty × C)) : ty (X0 gl).P 12 = (.int .u64) := by
  show ty Tryd.prog 12 = _
  kernel_rfl
@[go_sem] theorem ty13 (gl : Nat → Option (Ty × C)) : ty (X0 gl).P 13 = tErrorAddressString := by
  show ty Tryd.prog 13 = _
  kernel_rfl
@[go_sem] theorem ty14 (gl : Nat → Option (Ty × C)) : ty (X0 gl).P 14 = tErrorAddressString := by
  show ty Tryd.prog 14 = _
  kernel_rfl
@[go_sem] theorem ty15 (gl : Nat → Option (Ty × C)) : ty (X0 gl).P 15 = .ptr := by
  show ty Tryd.prog 15 = _
  kernel_rfl
@[go_sem] theorem ty16 (gl : Nat → Option (Ty × C)) : ty (X0 gl).P 16 = .ptr := by
  show ty Tryd.prog 16 = _
  kernel_rfl
@[go_sem] theorem ty17 (gl : Nat → Option (Ty × C)) : ty (X0 gl).P 17 = .ptr := by
  show ty Tryd.prog 17 = _
  kernel_rfl
@[go_sem] theorem ty18 (gl : Nat → Option (Ty × C)) : ty (X0 gl).P 18 = tUnhashableTypeError := by
  show ty Tryd.prog 18 = _
  kernel_rfl
@[go_sem] theorem ty19 (gl : Nat → Option (Ty × C)) : ty (X0 gl).P 19 = tUnhashableTypeError := by
  show ty Tryd.prog 19 = _
  kernel_rfl
@[go_sem] theorem ty20 (gl : Nat → Option (Ty × C)) : ty (X0 gl).P 20 = .iface := by
  show ty Tryd.prog 20 = _
  kernel_rfl
@[go_sem] theorem ty21 (gl : Nat → Option (Ty × C)) : ty (X0 gl).P 21 = (.int .i32) := by
  show ty Tryd.prog 21 = _
  kernel_rfl
@[go_sem] theorem ty22 (gl : Nat → Option (Ty × C)) : ty (X0 gl).P 22 = (.int .u32) := by
  show ty Tryd.prog 22 = _
  kernel_rfl
@[go_sem] theorem ty23 (gl : Nat → Option (Ty × C)) : ty (X0 gl).P 23 = (.arr 2 (.int .i64)) := by
  show ty Tryd.prog 23 = _
  kernel_rfl
@[go_sem] theorem ty24 (gl : Nat → Option (Ty × C)) : ty (X0 gl).P 24 = (.slice 1 (.int .u8)) := by
  show ty Tryd.prog 24 = _
  kernel_rfl
@[go_sem] theorem ty25 (gl : Nat → Option (Ty × C)) : ty (X0 gl).P 25 = (.arr 32 (.int .u8)) := by
  show ty Tryd.prog 25 = _
  kernel_rfl
@[go_sem] theorem ty26 (gl : Nat → Option (Ty × C)) : ty (X0 gl).P 26 = (.arr 2 (.arr 32 (.int .u8))) := by
  show ty Tryd.prog 26 = _
  kernel_rfl
@[go_sem] theorem ty27 (gl : Nat → Option (Ty × C)) : ty (X0 gl).P 27 = tRoots := by
  show ty Tryd.prog 27 = _
  kernel_rfl
@[go_sem] theorem ty28 (gl : Nat → Option (Ty × C)) : ty (X0 gl).P 28 = tRoots := by
  show ty Tryd.prog 28 = _
  kernel_rfl
@[go_sem] theorem ty29 (gl : Nat → Option (Ty × C)) : ty (X0 gl).P 29 = (.arr 32 (.int .u8)) := by
  show ty Tryd.prog 29 = _
  kernel_rfl
@[go_sem] theorem ty30 (gl : Nat → Option (Ty × C)) : ty (X0 gl).P 30 = (.arr 2 (.arr 32 (.int .u8))) := by
  show ty Tryd.prog 30 = _
  kernel_rfl
@[go_sem] theorem ty31 (gl : Nat → Option (Ty × C)) : ty (X0 gl).P 31 = tRoots := by
  show ty Tryd.prog 31 = _
  kernel_rfl
@[go_sem] theorem ty32 (gl : Nat → Option (Ty × C)) : ty (X0 gl).P 32 = tRoots := by
  show ty Tryd.prog 32 = _
  kernel_rfl
@[go_sem] theorem ty33 (gl : Nat → Option (Ty × C)) : ty (X0 gl).P 33 = (.int .u64) := by
  show ty Tryd.prog 33 = _
  kernel_rfl
@[go_sem] theorem ty34 (gl : Nat → Option (Ty × C)) : ty (X0 gl).P 34 = (.arr 2 (.int .u64)) := by
  show ty Tryd.prog 34 = _
  kernel_rfl
@[go_sem] theorem ty35 (gl : Nat → Option (Ty × C)) : ty (X0 gl).P 35 = (.slice 64 tCond) := by
  show ty Tryd.prog 35 = _
  kernel_rfl
@[go_sem] theorem ty36 (gl : Nat → Option (Ty × C)) : ty (X0 gl).P 36 = tState := by
  show ty Tryd.prog 36 = _
  kernel_rfl
@[go_sem] theorem ty37 (gl : Nat → Option (Ty × C)) : ty (X0 gl).P 37 = tState := by
  show ty Tryd.prog 37 = _
  kernel_rfl
@[go_sem] theorem ty38 (gl : Nat → Option (Ty × C)) : ty (X0 gl).P 38 = tBond := by
  show ty Tryd.prog 38 = _
  kernel_rfl
@[go_sem] theorem ty39 (gl : Nat → Option (Ty × C)) : ty (X0 gl).P 39 = tBond := by
  show ty Tryd.prog 39 = _
  kernel_rfl
@[go_sem] theorem ty40 (gl : Nat → Option (Ty × C)) : ty (X0 gl).P 40 = (.int .i64) := by
  show ty Tryd.prog 40 = _
  kernel_rfl
@[go_sem] theorem ty41 (gl : Nat → Option (Ty × C)) : ty (X0 gl).P 41 = (.opq 1) := by
  show ty Tryd.prog 41 = _
  kernel_rfl
@[go_sem] theorem ty42 (gl : Nat → Option (Ty × C)) : ty (X0 gl).P 42 = .func := by
  show ty Tryd.prog 42 = _
  kernel_rfl
@[go_sem] theorem ty43 (gl : Nat → Option (Ty × C)) : ty (X0 gl).P 43 = .func := by
  show ty Tryd.prog 43 = _
  kernel_rfl
@[go_sem] theorem ty44 (gl : Nat → Option (Ty × C)) : ty (X0 gl).P 44 = (.slice 64 tCond) := by
  show ty Tryd.prog 44 = _
  kernel_rfl
@[go_sem] theorem ty45 (gl : Nat → Option (Ty × C)) : ty (X0 gl).P 45 = tState := by
  show ty Tryd.prog 45 = _
  kernel_rfl
@[go_sem] theorem ty46 (gl : Nat → Option (Ty × C)) : ty (X0 gl).P 46 = tState := by
  show ty Tryd.prog 46 = _
  kernel_rfl
@[go_sem] theorem ty47 (gl : Nat → Option (Ty × C)) : ty (X0 gl).P 47 = tBond := by
  show ty Tryd.prog 47 = _
  kernel_rfl
@[go_sem] theorem ty48 (gl : Nat → Option (Ty × C)) : ty (X0 gl).P 48 = tBond := by
  show ty Tryd.prog 48 = _
  kernel_rfl
@[go_sem] theorem ty49 (gl : Nat → Option (Ty × C)) : ty (X0 gl).P 49 = (.opq 1) := by
  show ty Tryd.prog 49 = _
  kernel_rfl
@[go_sem] theorem ty50 (gl : Nat → Option (Ty × C)) : ty (X0 gl).P 50 = .func := by
  show ty Tryd.prog 50 = _
  kernel_rfl
@[go_sem] theorem ty51 (gl : Nat → Option (Ty × C)) : ty (X0 gl).P 51 = .func := by
  show ty Tryd.prog 51 = _
  kernel_rfl
@[go_sem] theorem ty52 (gl : Nat → Option (Ty × C)) : ty (X0 gl).P 52 = .func := by
  show ty Tryd.prog 52 = _
  kernel_rfl
@[go_sem] theorem ty53 (gl : Nat → Option (Ty × C)) : ty (X0 gl).P 53 = .func := by
  show ty Tryd.prog 53 = _
  kernel_rfl
@[go_sem] theorem ty54 (gl : Nat → Option (Ty × C)) : ty (X0 gl).P 54 = (.int .i64) := by
  show ty Tryd.prog 54 = _
  kernel_rfl
@[go_sem] theorem ty55 (gl : Nat → Option (Ty × C)) : ty (X0 gl).P 55 = (.opq 1) := by
  show ty Tryd.prog 55 = _
  kernel_rfl
@[go_sem] theorem ty56 (gl : Nat → Option (Ty × C)) : ty (X0 gl).P 56 = .func := by
  show ty Tryd.prog 56 = _
  kernel_rfl
@[go_sem] theorem ty57 (gl : Nat → Option (Ty × C)) : ty (X0 gl).P 57 = .func := by
  show ty Tryd.prog 57 = _
  kernel_rfl
@[go_sem] theorem ty58 (gl : Nat → Option (Ty × C)) : ty (X0 gl).P 58 = .func := by
  show ty Tryd.prog 58 = _
  kernel_rfl
@[go_sem] theorem ty59 (gl : Nat → Option (Ty × C)) : ty (X0 gl).P 59 = .func := by
  show ty Tryd.prog 59 = _
  kernel_rfl
@[go_sem] theorem ty60 (gl : Nat → Option (Ty × C)) : ty (X0 gl).P 60 = .func := by
  show ty Tryd.prog 60 = _
  kernel_rfl
@[go_sem] theorem ty61 (gl : Nat → Option (Ty × C)) : ty (X0 gl).P 61 = .func := by
  show ty Tryd.prog 61 = _
  kernel_rfl
@[go_sem] theorem ty62 (gl : Nat → Option (Ty × C)) : ty (X0 gl).P 62 = .func := by
  show ty Tryd.prog 62 = _
  kernel_rfl
@[go_sem] theorem ty63 (gl : Nat → Option (Ty × C)) : ty (X0 gl).P 63 = .func := by
  show ty Tryd.prog 63 = _
  kernel_rfl
@[go_sem] theorem ty64 (gl : Nat → Option (Ty × C)) : ty (X0 gl).P 64 = .func := by
  show ty Tryd.prog 64 = _
  kernel_rfl
@[go_sem] theorem ty65 (gl : Nat → Option (Ty × C)) : ty (X0 gl).P 65 = .func := by
  show ty Tryd.prog 65 = _
  kernel_rfl
@[go_sem] theorem ty66 (gl : Nat → Option (Ty × C)) : ty (X0 gl).P 66 = .func := by
  show ty Tryd.prog 66 = _
  kernel_rfl
@[go_sem] theorem ty67 (gl : Nat → Option (Ty × C)) : ty (X0 gl).P 67 = (.slice 8 (.int .i64)) := by
  show ty Tryd.prog 67 = _
  kernel_rfl
@[go_sem] theorem ty68 (gl : Nat → Option (Ty × C)) : ty (X0 gl).P 68 = .func := by
  show ty Tryd.prog 68 = _
  kernel_rfl
@[go_sem] theorem ty69 (gl : Nat → Option (Ty × C)) : ty (X0 gl).P 69 = .func := by
  show ty Tryd.prog 69 = _
  kernel_rfl
@[go_sem] theorem ty70 (gl : Nat → Option (Ty × C)) : ty (X0 gl).P 70 = (.arr 16 (.int .u8)) := by
  show ty Tryd.prog 70 = _
  kernel_rfl
@[go_sem] theorem ty71 (gl : Nat → Option (Ty × C)) : ty (X0 gl).P 71 = (.arr 16 (.int .u8)) := by
  show ty Tryd.prog 71 = _
  kernel_rfl
@[go_sem] theorem ty72 (gl : Nat → Option (Ty × C)) : ty (X0 gl).P 72 = (.arr 32 (.arr 16 (.int .u8))) := by
  show ty Tryd.prog 72 = _
  kernel_rfl
@[go_sem] theorem ty73 (gl : Nat → Option (Ty × C)) : ty (X0 gl).P 73 = tSig := by
  show ty Tryd.prog 73 = _
  kernel_rfl
@[go_sem] theorem ty74 (gl : Nat → Option (Ty × C)) : ty (X0 gl).P 74 = tSig := by
  show ty Tryd.prog 74 = _
  kernel_rfl
@[go_sem] theorem ty75 (gl : Nat → Option (Ty × C)) : ty (X0 gl).P 75 = (.slice 32 (.arr 32 (.int .u8))) := by
  show ty Tryd.prog 75 = _
  kernel_rfl
@[go_sem] theorem ty76 (gl : Nat → Option (Ty × C)) : ty (X0 gl).P 76 = tSig2 := by
  show ty Tryd.prog 76 = _
  kernel_rfl
@[go_sem] theorem ty77 (gl : Nat → Option (Ty × C)) : ty (X0 gl).P 77 = tSig2 := by
  show ty Tryd.prog 77 = _
  kernel_rfl
@[go_sem] theorem ty78 (gl : Nat → Option (Ty × C)) : ty (X0 gl).P 78 = (.arr 2 tSig2) := by
  show ty Tryd.prog 78 = _
  kernel_rfl
@[go_sem] theorem ty79 (gl : Nat → Option (Ty × C)) : ty (X0 gl).P 79 = tDeed := by
  show ty Tryd.prog 79 = _
  kernel_rfl
@[go_sem] theorem ty80 (gl : Nat → Option (Ty × C)) : ty (X0 gl).P 80 = tDeed := by
  show ty Tryd.prog 80 = _
  kernel_rfl
@[go_sem] theorem ty81 (gl : Nat → Option (Ty × C)) : ty (X0 gl).P 81 = .func := by
  show ty Tryd.prog 81 = _
  kernel_rfl
@[go_sem] theorem ty82 (gl : Nat → Option (Ty × C)) : ty (X0 gl).P 82 = (.opq 1) := by
  show ty Tryd.prog 82 = _
  kernel_rfl
@[go_sem] theorem ty83 (gl : Nat → Option (Ty × C)) : ty (X0 gl).P 83 = .func := by
  show ty Tryd.prog 83 = _
  kernel_rfl
@[go_sem] theorem ty84 (gl : Nat → Option (Ty × C)) : ty (X0 gl).P 84 = .ptr := by
  show ty Tryd.prog 84 = _
  kernel_rfl
@[go_sem] theorem ty85 (gl : Nat → Option (Ty × C)) : ty (X0 gl).P 85 = .func := by
  show ty Tryd.prog 85 = _
  kernel_rfl
@[go_sem] theorem ty86 (gl : Nat → Option (Ty × C)) : ty (X0 gl).P 86 = .map := by
  show ty Tryd.prog 86 = _
  kernel_rfl
@[go_sem] theorem ty87 (gl : Nat → Option (Ty × C)) : ty (X0 gl).P 87 = (.slice 8 (.int .u64)) := by
  show ty Tryd.prog 87 = _
  kernel_rfl
@[go_sem] theorem ty88 (gl : Nat → Option (Ty × C)) : ty (X0 gl).P 88 = (.opq 1) := by
  show ty Tryd.prog 88 = _
  kernel_rfl
@[go_sem] theorem ty89 (gl : Nat → Option (Ty × C)) : ty (X0 gl).P 89 = .func := by
  show ty Tryd.prog 89 = _
  kernel_rfl
@[go_sem] theorem ty90 (gl : Nat → Option (Ty × C)) : ty (X0 gl).P 90 = (.slice 1 .bool) := by
  show ty Tryd.prog 90 = _
  kernel_rfl
@[go_sem] theorem ty91 (gl : Nat → Option (Ty × C)) : ty (X0 gl).P 91 = (.opq 1) := by
  show ty Tryd.prog 91 = _
  kernel_rfl
@[go_sem] theorem ty92 (gl : Nat → Option (Ty × C)) : ty (X0 gl).P 92 = .func := by
  show ty Tryd.prog 92 = _
  kernel_rfl
@[go_sem] theorem ty93 (gl : Nat → Option (Ty × C)) : ty (X0 gl).P 93 = .func := by
  show ty Tryd.prog 93 = _
  kernel_rfl
@[go_sem] theorem ty94 (gl : Nat → Option (Ty × C)) : ty (X0 gl).P 94 = tCond := by
  show ty Tryd.prog 94 = _
  kernel_rfl
@[go_sem] theorem ty95 (gl : Nat → Option (Ty × C)) : ty (X0 gl).P 95 = tCond := by
  show ty Tryd.prog 95 = _
  kernel_rfl
@[go_sem] theorem ty96 (gl : Nat → Option (Ty × C)) : ty (X0 gl).P 96 = (.arr 32 (.int .u8)) := by
  show ty Tryd.prog 96 = _
  kernel_rfl
@[go_sem] theorem ty97 (gl : Nat → Option (Ty × C)) : ty (X0 gl).P 97 = tCond := by
  show ty Tryd.prog 97 = _
  kernel_rfl
@[go_sem] theorem ty98 (gl : Nat → Option (Ty × C)) : ty (X0 gl).P 98 = tCond := by
  show ty Tryd.prog 98 = _
  kernel_rfl
@[go_sem] theorem ty99 (gl : Nat → Option (Ty × C)) : ty (X0 gl).P 99 = .func := by
  show ty Tryd.prog 99 = _
  kernel_rfl
@[go_sem] theorem ty100 (gl : Nat → Option (Ty × C)) : ty (X0 gl).P 100 = .func := by
  show ty Tryd.prog 100 = _
  kernel_rfl
@[go_sem] theorem ty101 (gl : Nat → Option (Ty × C)) : ty (X0 gl).P 101 = (.opq 1) := by
  show ty Tryd.prog 101 = _
  kernel_rfl
@[go_sem] theorem ty102 (gl : Nat → Option (Ty × C)) : ty (X0 gl).P 102 = .func := by
  show ty Tryd.prog 102 = _
  kernel_rfl
@[go_sem] theorem ty103 (gl : Nat → Option (Ty × C)) : ty (X0 gl).P 103 = .func := by
  show ty Tryd.prog 103 = _
  kernel_rfl
@[go_sem] theorem ty104 (gl : Nat → Option (Ty × C)) : ty (X0 gl).P 104 = .func := by
  show ty Tryd.prog 104 = _
  kernel_rfl
@[go_sem] theorem ty105 (gl : Nat → Option (Ty × C)) : ty (X0 gl).P 105 = .func := by
  show ty Tryd.prog 105 = _
  kernel_rfl
@[go_sem] theorem ty106 (gl : Nat → Option (Ty × C)) : ty (X0 gl).P 106 = .func := by
  show ty Tryd.prog 106 = _
  kernel_rfl
@[go_sem] theorem ty107 (gl : Nat → Option (Ty × C)) : ty (X0 gl).P 107 = (.slice 8 (.int .i64)) := by
  show ty Tryd.prog 107 = _
  kernel_rfl
@[go_sem] theorem ty108 (gl : Nat → Option (Ty × C)) : ty (X0 gl).P 108 = .func := by
  show ty Tryd.prog 108 = _
  kernel_rfl
@[go_sem] theorem ty109 (gl : Nat → Option (Ty × C)) : ty (X0 gl).P 109 = (.int .i64) := by
  show ty Tryd.prog 109 = _
  kernel_rfl
@[go_sem] theorem ty110 (gl : Nat → Option (Ty × C)) : ty (X0 gl).P 110 = (.opq 1) := by
  show ty Tryd.prog 110 = _
  kernel_rfl
@[go_sem] theorem ty111 (gl : Nat → Option (Ty × C)) : ty (X0 gl).P 111 = .func := by
  show ty Tryd.prog 111 = _
  kernel_rfl
@[go_sem] theorem ty112 (gl : Nat → Option (Ty × C)) : ty (X0 gl).P 112 = .map := by
  show ty Tryd.prog 112 = _
  kernel_rfl
@[go_sem] theorem ty113 (gl : Nat → Option (Ty × C)) : ty (X0 gl).P 113 = tNotary2 := by
  show ty Tryd.prog 113 = _
  kernel_rfl
@[go_sem] theorem ty114 (gl : Nat → Option (Ty × C)) : ty (X0 gl).P 114 = tNotary2 := by
  show ty Tryd.prog 114 = _
  kernel_rfl
@[go_sem] theorem ty115 (gl : Nat → Option (Ty × C)) : ty (X0 gl).P 115 = tForm := by
  show ty Tryd.prog 115 = _
  kernel_rfl
@[go_sem] theorem ty116 (gl : Nat → Option (Ty × C)) : ty (X0 gl).P 116 = tForm := by
  show ty Tryd.prog 116 = _
  kernel_rfl
@[go_sem] theorem ty117 (gl : Nat → Option (Ty × C)) : ty (X0 gl).P 117 = (.arr 18 tForm) := by
  show ty Tryd.prog 117 = _
  kernel_rfl
@[go_sem] theorem ty118 (gl : Nat → Option (Ty × C)) : ty (X0 gl).P 118 = (.int .u64) := by
  show ty Tryd.prog 118 = _
  kernel_rfl
@[go_sem] theorem ty119 (gl : Nat → Option (Ty × C)) : ty (X0 gl).P 119 = (.opq 1) := by
  show ty Tryd.prog 119 = _
  kernel_rfl
@[go_sem] theorem ty120 (gl : Nat → Option (Ty × C)) : ty (X0 gl).P 120 = .func := by
  show ty Tryd.prog 120 = _
  kernel_rfl
@[go_sem] theorem ty121 (gl : Nat → Option (Ty × C)) : ty (X0 gl).P 121 = .func := by
  show ty Tryd.prog 121 = _
  kernel_rfl
@[go_sem] theorem ty122 (gl : Nat → Option (Ty × C)) : ty (X0 gl).P 122 = .func := by
  show ty Tryd.prog 122 = _
  kernel_rfl
@[go_sem] theorem ty123 (gl : Nat → Option (Ty × C)) : ty (X0 gl).P 123 = (.opq 1) := by
  show ty Tryd.prog 123 = _
  kernel_rfl
@[go_sem] theorem ty124 (gl : Nat → Option (Ty × C)) : ty (X0 gl).P 124 = .func := by
  show ty Tryd.prog 124 = _
  kernel_rfl
@[go_sem] theorem ty125 (gl : Nat → Option (Ty × C)) : ty (X0 gl).P 125 = tWorld := by
  show ty Tryd.prog 125 = _
  kernel_rfl
@[go_sem] theorem ty126 (gl : Nat → Option (Ty × C)) : ty (X0 gl).P 126 = tWorld := by
  show ty Tryd.prog 126 = _
  kernel_rfl
@[go_sem] theorem ty127 (gl : Nat → Option (Ty × C)) : ty (X0 gl).P 127 = .func := by
  show ty Tryd.prog 127 = _
  kernel_rfl
@[go_sem] theorem ty128 (gl : Nat → Option (Ty × C)) : ty (X0 gl).P 128 = .func := by
  show ty Tryd.prog 128 = _
  kernel_rfl
@[go_sem] theorem ty129 (gl : Nat → Option (Ty × C)) : ty (X0 gl).P 129 = .func := by
  show ty Tryd.prog 129 = _
  kernel_rfl
@[go_sem] theorem ty130 (gl : Nat → Option (Ty × C)) : ty (X0 gl).P 130 = .func := by
  show ty Tryd.prog 130 = _
  kernel_rfl
@[go_sem] theorem ty131 (gl : Nat → Option (Ty × C)) : ty (X0 gl).P 131 = .func := by
  show ty Tryd.prog 131 = _
  kernel_rfl
@[go_sem] theorem ty132 (gl : Nat → Option (Ty × C)) : ty (X0 gl).P 132 = .func := by
  show ty Tryd.prog 132 = _
  kernel_rfl
@[go_sem] theorem ty133 (gl : Nat → Option (Ty × C)) : ty (X0 gl).P 133 = (.arr 2 (.int .i64)) := by
  show ty Tryd.prog 133 = _
  kernel_rfl
@[go_sem] theorem ty134 (gl : Nat → Option (Ty × C)) : ty (X0 gl).P 134 = .ptr := by
  show ty Tryd.prog 134 = _
  kernel_rfl
@[go_sem] theorem ty135 (gl : Nat → Option (Ty × C)) : ty (X0 gl).P 135 = tStack := by
  show ty Tryd.prog 135 = _
  kernel_rfl
@[go_sem] theorem ty136 (gl : Nat → Option (Ty × C)) : ty (X0 gl).P 136 = tStack := by
  show ty Tryd.prog 136 = _
  kernel_rfl
@[go_sem] theorem ty137 (gl : Nat → Option (Ty × C)) : ty (X0 gl).P 137 = .func := by
  show ty Tryd.prog 137 = _
  kernel_rfl
@[go_sem] theorem ty138 (gl : Nat → Option (Ty × C)) : ty (X0 gl).P 138 = .func := by
  show ty Tryd.prog 138 = _
  kernel_rfl
@[go_sem] theorem ty139 (gl : Nat → Option (Ty × C)) : ty (X0 gl).P 139 = .func := by
  show ty Tryd.prog 139 = _
  kernel_rfl
@[go_sem] theorem ty140 (gl : Nat → Option (Ty × C)) : ty (X0 gl).P 140 = .func := by
  show ty Tryd.prog 140 = _
  kernel_rfl
@[go_sem] theorem ty141 (gl : Nat → Option (Ty × C)) : ty (X0 gl).P 141 = .func := by
  show ty Tryd.prog 141 = _
  kernel_rfl
@[go_sem] theorem ty142 (gl : Nat → Option (Ty × C)) : ty (X0 gl).P 142 = .func := by
  show ty Tryd.prog 142 = _
  kernel_rfl
@[go_sem] theorem ty143 (gl : Nat → Option (Ty × C)) : ty (X0 gl).P 143 = .func := by
  show ty Tryd.prog 143 = _
  kernel_rfl
@[go_sem] theorem ty144 (gl : Nat → Option (Ty × C)) : ty (X0 gl).P 144 = .func := by
  show ty Tryd.prog 144 = _
  kernel_rfl
@[go_sem] theorem ty145 (gl : Nat → Option (Ty × C)) : ty (X0 gl).P 145 = .func := by
  show ty Tryd.prog 145 = _
  kernel_rfl
@[go_sem] theorem ty146 (gl : Nat → Option (Ty × C)) : ty (X0 gl).P 146 = .func := by
  show ty Tryd.prog 146 = _
  kernel_rfl
@[go_sem] theorem ty147 (gl : Nat → Option (Ty × C)) : ty (X0 gl).P 147 = .func := by
  show ty Tryd.prog 147 = _
  kernel_rfl
@[go_sem] theorem ty148 (gl : Nat → Option (Ty × C)) : ty (X0 gl).P 148 = .func := by
  show ty Tryd.prog 148 = _
  kernel_rfl
@[go_sem] theorem ty149 (gl : Nat → Option (Ty × C)) : ty (X0 gl).P 149 = .func := by
  show ty Tryd.prog 149 = _
  kernel_rfl
@[go_sem] theorem ty150 (gl : Nat → Option (Ty × C)) : ty (X0 gl).P 150 = .func := by
  show ty Tryd.prog 150 = _
  kernel_rfl
@[go_sem] theorem ty151 (gl : Nat → Option (Ty × C)) : ty (X0 gl).P 151 = (.opq 1) := by
  show ty Tryd.prog 151 = _
  kernel_rfl
@[go_sem] theorem ty152 (gl : Nat → Option (Ty × C)) : ty (X0 gl).P 152 = .func := by
  show ty Tryd.prog 152 = _
  kernel_rfl
@[go_sem] theorem ty153 (gl : Nat → Option (Ty × C)) : ty (X0 gl).P 153 = .func := by
  show ty Tryd.prog 153 = _
  kernel_rfl
@[go_sem] theorem ty154 (gl : Nat → Option (Ty × C)) : ty (X0 gl).P 154 = .func := by
  show ty Tryd.prog 154 = _
  kernel_rfl
@[go_sem] theorem ty155 (gl : Nat → Option (Ty × C)) : ty (X0 gl).P 155 = .func := by
  show ty Tryd.prog 155 = _
  kernel_rfl
@[go_sem] theorem ty156 (gl : Nat → Option (Ty × C)) : ty (X0 gl).P 156 = (.slice 1 (.int .u8)) := by
  show ty Tryd.prog 156 = _
  kernel_rfl
@[go_sem] theorem ty157 (gl : Nat → Option (Ty × C)) : ty (X0 gl).P 157 = .func := by
  show ty Tryd.prog 157 = _
  kernel_rfl
@[go_sem] theorem ty158 (gl : Nat → Option (Ty × C)) : ty (X0 gl).P 158 = .func := by
  show ty Tryd.prog 158 = _
  kernel_rfl
@[go_sem] theorem ty159 (gl : Nat → Option (Ty × C)) : ty (X0 gl).P 159 = .func := by
  show ty Tryd.prog 159 = _
  kernel_rfl
@[go_sem] theorem ty160 (gl : Nat → Option (Ty × C)) : ty (X0 gl).P 160 = (.arr 32 (.int .u8)) := by
  show ty Tryd.prog 160 = _
  kernel_rfl
@[go_sem] theorem ty161 (gl : Nat → Option (Ty × C)) : ty (X0 gl).P 161 = tEntry2 := by
  show ty Tryd.prog 161 = _
  kernel_rfl
@[go_sem] theorem ty162 (gl : Nat → Option (Ty × C)) : ty (X0 gl).P 162 = tEntry2 := by
  show ty Tryd.prog 162 = _
  kernel_rfl
@[go_sem] theorem ty163 (gl : Nat → Option (Ty × C)) : ty (X0 gl).P 163 = (.opq 1) := by
  show ty Tryd.prog 163 = _
  kernel_rfl
@[go_sem] theorem ty164 (gl : Nat → Option (Ty × C)) : ty (X0 gl).P 164 = (.arr 2 (.arr 16 (.int .u8))) := by
  show ty Tryd.prog 164 = _
  kernel_rfl
@[go_sem] theorem ty165 (gl : Nat → Option (Ty × C)) : ty (X0 gl).P 165 = (.arr 32 (.arr 2 (.arr 16 (.int .u8)))) := by
  show ty Tryd.prog 165 = _
  kernel_rfl
@[go_sem] theorem ty166 (gl : Nat → Option (Ty × C)) : ty (X0 gl).P 166 = .func := by
  show ty Tryd.prog 166 = _
  kernel_rfl
@[go_sem] theorem ty167 (gl : Nat → Option (Ty × C)) : ty (X0 gl).P 167 = .func := by
  show ty Tryd.prog 167 = _
  kernel_rfl
@[go_sem] theorem ty168 (gl : Nat → Option (Ty × C)) : ty (X0 gl).P 168 = .func := by
  show ty Tryd.prog 168 = _
  kernel_rfl
@[go_sem] theorem ty169 (gl : Nat → Option (Ty × C)) : ty (X0 gl).P 169 = (.slice 24 (.slice 1 (.int .u8))) := by
  show ty Tryd.prog 169 = _
  kernel_rfl
@[go_sem] theorem ty170 (gl : Nat → Option (Ty × C)) : ty (X0 gl).P 170 = .ptr := by
  show ty Tryd.prog 170 = _
  kernel_rfl
@[go_sem] theorem ty171 (gl : Nat → Option (Ty × C)) : ty (X0 gl).P 171 = .func := by
  show ty Tryd.prog 171 = _
  kernel_rfl
@[go_sem] theorem ty172 (gl : Nat → Option (Ty × C)) : ty (X0 gl).P 172 = .func := by
  show ty Tryd.prog 172 = _
  kernel_rfl
@[go_sem] theorem ty173 (gl : Nat → Option (Ty × C)) : ty (X0 gl).P 173 = .func := by
  show ty Tryd.prog 173 = _
  kernel_rfl
@[go_sem] theorem ty174 (gl : Nat → Option (Ty × C)) : ty (X0 gl).P 174 = .func := by
  show ty Tryd.prog 174 = _
  kernel_rfl
@[go_sem] theorem ty175 (gl : Nat → Option (Ty × C)) : ty (X0 gl).P 175 = (.slice 4 (.int .u32)) := by
  show ty Tryd.prog 175 = _
  kernel_rfl
@[go_sem] theorem ty176 (gl : Nat → Option (Ty × C)) : ty (X0 gl).P 176 = .func := by
  show ty Tryd.prog 176 = _
  kernel_rfl
@[go_sem] theorem ty177 (gl : Nat → Option (Ty × C)) : ty (X0 gl).P 177 = .func := by
  show ty Tryd.prog 177 = _
  kernel_rfl
@[go_sem] theorem ty178 (gl : Nat → Option (Ty × C)) : ty (X0 gl).P 178 = .func := by
  show ty Tryd.prog 178 = _
  kernel_rfl
@[go_sem] theorem ty179 (gl : Nat → Option (Ty × C)) : ty (X0 gl).P 179 = .func := by
  show ty Tryd.prog 179 = _
  kernel_rfl
@[go_sem] theorem ty180 (gl : Nat → Option (Ty × C)) : ty (X0 gl).P 180 = (.arr 8 (.int .u32)) := by
  show ty Tryd.prog 180 = _
  kernel_rfl
@[go_sem] theorem ty181 (gl : Nat → Option (Ty × C)) : ty (X0 gl).P 181 = (.arr 64 (.int .u8)) := by
  show ty Tryd.prog 181 = _
  kernel_rfl
@[go_sem] theorem ty182 (gl : Nat → Option (Ty × C)) : ty (X0 gl).P 182 = tMill := by
  show ty Tryd.prog 182 = _
  kernel_rfl
@[go_sem] theorem ty183 (gl : Nat → Option (Ty × C)) : ty (X0 gl).P 183 = tMill := by
  show ty Tryd.prog 183 = _
  kernel_rfl
@[go_sem] theorem ty184 (gl : Nat → Option (Ty × C)) : ty (X0 gl).P 184 = .func := by
  show ty Tryd.prog 184 = _
  kernel_rfl
@[go_sem] theorem ty185 (gl : Nat → Option (Ty × C)) : ty (X0 gl).P 185 = .func := by
  show ty Tryd.prog 185 = _
  kernel_rfl
@[go_sem] theorem ty186 (gl : Nat → Option (Ty × C)) : ty (X0 gl).P 186 = (.arr 16 (.int .u32)) := by
  show ty Tryd.prog 186 = _
  kernel_rfl
@[go_sem] theorem ty187 (gl : Nat → Option (Ty × C)) : ty (X0 gl).P 187 = .func := by
  show ty Tryd.prog 187 = _
  kernel_rfl
@[go_sem] theorem ty188 (gl : Nat → Option (Ty × C)) : ty (X0 gl).P 188 = (.arr 64 (.int .u32)) := by
  show ty Tryd.prog 188 = _
  kernel_rfl
@[go_sem] theorem ty189 (gl : Nat → Option (Ty × C)) : ty (X0 gl).P 189 = .func := by
  show ty Tryd.prog 189 = _
  kernel_rfl
@[go_sem] theorem ty190 (gl : Nat → Option (Ty × C)) : ty (X0 gl).P 190 = .func := by
  show ty Tryd.prog 190 = _
  kernel_rfl
@[go_sem] theorem ty191 (gl : Nat → Option (Ty × C)) : ty (X0 gl).P 191 = .func := by
  show ty Tryd.prog 191 = _
  kernel_rfl
@[go_sem] theorem ty192 (gl : Nat → Option (Ty × C)) : ty (X0 gl).P 192 = .func := by
  show ty Tryd.prog 192 = _
  kernel_rfl
@[go_sem] theorem ty193 (gl : Nat → Option (Ty × C)) : ty (X0 gl).P 193 = tTypeAssertionError := by
  show ty Tryd.prog 193 = _
  kernel_rfl
@[go_sem] theorem ty194 (gl : Nat → Option (Ty × C)) : ty (X0 gl).P 194 = tTypeAssertionError := by
  show ty Tryd.prog 194 = _
  kernel_rfl
@[go_sem] theorem ty195 (gl : Nat → Option (Ty × C)) : ty (X0 gl).P 195 = (.arr 0 .ptr) := by
  show ty Tryd.prog 195 = _
  kernel_rfl
@[go_sem] theorem ty196 (gl : Nat → Option (Ty × C)) : ty (X0 gl).P 196 = tPanicNilError := by
  show ty Tryd.prog 196 = _
  kernel_rfl
@[go_sem] theorem ty197 (gl : Nat → Option (Ty × C)) : ty (X0 gl).P 197 = tPanicNilError := by
  show ty Tryd.prog 197 = _
  kernel_rfl
@[go_sem] theorem ty198 (gl : Nat → Option (Ty × C)) : ty (X0 gl).P 198 = .func := by
  show ty Tryd.prog 198 = _
  kernel_rfl
@[go_sem] theorem ty199 (gl : Nat → Option (Ty × C)) : ty (X0 gl).P 199 = (.int .u8) := by
  show ty Tryd.prog 199 = _
  kernel_rfl
@[go_sem] theorem ty200 (gl : Nat → Option (Ty × C)) : ty (X0 gl).P 200 = (.int .u8) := by
  show ty Tryd.prog 200 = _
  kernel_rfl
@[go_sem] theorem ty201 (gl : Nat → Option (Ty × C)) : ty (X0 gl).P 201 = .func := by
  show ty Tryd.prog 201 = _
  kernel_rfl
@[go_sem] theorem ty202 (gl : Nat → Option (Ty × C)) : ty (X0 gl).P 202 = .ptr := by
  show ty Tryd.prog 202 = _
  kernel_rfl
@[go_sem] theorem ty203 (gl : Nat → Option (Ty × C)) : ty (X0 gl).P 203 = (.int .i32) := by
  show ty Tryd.prog 203 = _
  kernel_rfl
@[go_sem] theorem ty204 (gl : Nat → Option (Ty × C)) : ty (X0 gl).P 204 = (.int .i32) := by
  show ty Tryd.prog 204 = _
  kernel_rfl
@[go_sem] theorem ty205 (gl : Nat → Option (Ty × C)) : ty (X0 gl).P 205 = tType := by
  show ty Tryd.prog 205 = _
  kernel_rfl
@[go_sem] theorem ty206 (gl : Nat → Option (Ty × C)) : ty (X0 gl).P 206 = tType := by
  show ty Tryd.prog 206 = _
  kernel_rfl
@[go_sem] theorem ty207 (gl : Nat → Option (Ty × C)) : ty (X0 gl).P 207 = .func := by
  show ty Tryd.prog 207 = _
  kernel_rfl
@[go_sem] theorem ty208 (gl : Nat → Option (Ty × C)) : ty (X0 gl).P 208 = (.opq 1) := by
  show ty Tryd.prog 208 = _
  kernel_rfl
@[go_sem] theorem zb2 (gl : Nat → Option (Ty × C)) : zeroB (X0 gl).P 2 = true := by
  show zeroB Tryd.prog 2 = _
  kernel_rfl
@[go_sem] theorem eq2 (gl : Nat → Option (Ty × C)) : eqOk (X0 gl).P 2 = true := by
  show eqOk Tryd.prog 2 = _
  kernel_rfl
@[go_sem] theorem zb3 (gl : Nat → Option (Ty × C)) : zeroB (X0 gl).P 3 = true := by
  show zeroB Tryd.prog 3 = _
  kernel_rfl
@[go_sem] theorem eq3 (gl : Nat → Option (Ty × C)) : eqOk (X0 gl).P 3 = true := by
  show eqOk Tryd.prog 3 = _
  kernel_rfl
@[go_sem] theorem zb4 (gl : Nat → Option (Ty × C)) : zeroB (X0 gl).P 4 = true := by
  show zeroB Tryd.prog 4 = _
  kernel_rfl
@[go_sem] theorem eq4 (gl : Nat → Option (Ty × C)) : eqOk (X0 gl).P 4 = true := by
  show eqOk Tryd.prog 4 = _
  kernel_rfl
@[go_sem] theorem zb5 (gl : Nat → Option (Ty × C)) : zeroB (X0 gl).P 5 = true := by
  show zeroB Tryd.prog 5 = _
  kernel_rfl
@[go_sem] theorem eq5 (gl : Nat → Option (Ty × C)) : eqOk (X0 gl).P 5 = true := by
  show eqOk Tryd.prog 5 = _
  kernel_rfl
@[go_sem] theorem zb6 (gl : Nat → Option (Ty × C)) : zeroB (X0 gl).P 6 = true := by
  show zeroB Tryd.prog 6 = _
  kernel_rfl
@[go_sem] theorem eq6 (gl : Nat → Option (Ty × C)) : eqOk (X0 gl).P 6 = true := by
  show eqOk Tryd.prog 6 = _
  kernel_rfl
@[go_sem] theorem zb7 (gl : Nat → Option (Ty × C)) : zeroB (X0 gl).P 7 = true := by
  show zeroB Tryd.prog 7 = _
  kernel_rfl
@[go_sem] theorem eq7 (gl : Nat → Option (Ty × C)) : eqOk (X0 gl).P 7 = true := by
  show eqOk Tryd.prog 7 = _
  kernel_rfl
@[go_sem] theorem zb8 (gl : Nat → Option (Ty × C)) : zeroB (X0 gl).P 8 = true := by
  show zeroB Tryd.prog 8 = _
  kernel_rfl
@[go_sem] theorem eq8 (gl : Nat → Option (Ty × C)) : eqOk (X0 gl).P 8 = true := by
  show eqOk Tryd.prog 8 = _
  kernel_rfl
@[go_sem] theorem zb9 (gl : Nat → Option (Ty × C)) : zeroB (X0 gl).P 9 = true := by
  show zeroB Tryd.prog 9 = _
  kernel_rfl
@[go_sem] theorem eq9 (gl : Nat → Option (Ty × C)) : eqOk (X0 gl).P 9 = true := by
  show eqOk Tryd.prog 9 = _
  kernel_rfl
@[go_sem] theorem zb10 (gl : Nat → Option (Ty × C)) : zeroB (X0 gl).P 10 = true := by
  show zeroB Tryd.prog 10 = _
  kernel_rfl
@[go_sem] theorem eq10 (gl : Nat → Option (Ty × C)) : eqOk (X0 gl).P 10 = true := by
  show eqOk Tryd.prog 10 = _
  kernel_rfl
@[go_sem] theorem zb11 (gl : Nat → Option (Ty × C)) : zeroB (X0 gl).P 11 = true := by
  show zeroB Tryd.prog 11 = _
  kernel_rfl
@[go_sem] theorem eq11 (gl : Nat → Option (Ty × C)) : eqOk (X0 gl).P 11 = true := by
  show eqOk Tryd.prog 11 = _
  kernel_rfl
@[go_sem] theorem zb12 (gl : Nat → Option (Ty × C)) : zeroB (X0 gl).P 12 = true := by
  show zeroB Tryd.prog 12 = _
  kernel_rfl
@[go_sem] theorem eq12 (gl : Nat → Option (Ty × C)) : eqOk (X0 gl).P 12 = true := by
  show eqOk Tryd.prog 12 = _
  kernel_rfl
@[go_sem] theorem zb13 (gl : Nat → Option (Ty × C)) : zeroB (X0 gl).P 13 = true := by
  show zeroB Tryd.prog 13 = _
  kernel_rfl
@[go_sem] theorem zb14 (gl : Nat → Option (Ty × C)) : zeroB (X0 gl).P 14 = true := by
  show zeroB Tryd.prog 14 = _
  kernel_rfl
@[go_sem] theorem zb15 (gl : Nat → Option (Ty × C)) : zeroB (X0 gl).P 15 = true := by
  show zeroB Tryd.prog 15 = _
  kernel_rfl
@[go_sem] theorem zb16 (gl : Nat → Option (Ty × C)) : zeroB (X0 gl).P 16 = true := by
  show zeroB Tryd.prog 16 = _
  kernel_rfl
@[go_sem] theorem zb17 (gl : Nat → Option (Ty × C)) : zeroB (X0 gl).P 17 = true := by
  show zeroB Tryd.prog 17 = _
  kernel_rfl
@[go_sem] theorem zb18 (gl : Nat → Option (Ty × C)) : zeroB (X0 gl).P 18 = true := by
  show zeroB Tryd.prog 18 = _
  kernel_rfl
@[go_sem] theorem zb19 (gl : Nat → Option (Ty × C)) : zeroB (X0 gl).P 19 = true := by
  show zeroB Tryd.prog 19 = _
  kernel_rfl
@[go_sem] theorem zb20 (gl : Nat → Option (Ty × C)) : zeroB (X0 gl).P 20 = true := by
  show zeroB Tryd.prog 20 = _
  kernel_rfl
@[go_sem] theorem zb21 (gl : Nat → Option (Ty × C)) : zeroB (X0 gl).P 21 = true := by
  show zeroB Tryd.prog 21 = _
  kernel_rfl
@[go_sem] theorem eq21 (gl : Nat → Option (Ty × C)) : eqOk (X0 gl).P 21 = true := by
  show eqOk Tryd.prog 21 = _
  kernel_rfl
@[go_sem] theorem zb22 (gl : Nat → Option (Ty × C)) : zeroB (X0 gl).P 22 = true := by
  show zeroB Tryd.prog 22 = _
  kernel_rfl
@[go_sem] theorem eq22 (gl : Nat → Option (Ty × C)) : eqOk (X0 gl).P 22 = true := by
  show eqOk Tryd.prog 22 = _
  kernel_rfl
@[go_sem] theorem zb23 (gl : Nat → Option (Ty × C)) : zeroB (X0 gl).P 23 = true := by
  show zeroB Tryd.prog 23 = _
  kernel_rfl
@[go_sem] theorem eq23 (gl : Nat → Option (Ty × C)) : eqOk (X0 gl).P 23 = true := by
  show eqOk Tryd.prog 23 = _
  kernel_rfl
@[go_sem] theorem pa23 (gl : Nat → Option (Ty × C)) : ptrArr (X0 gl).P 23 = some (2, 8, (.int .i64)) := by
  show ptrArr Tryd.prog 23 = _
  kernel_rfl
@[go_sem] theorem zb24 (gl : Nat → Option (Ty × C)) : zeroB (X0 gl).P 24 = true := by
  show zeroB Tryd.prog 24 = _
  kernel_rfl
@[go_sem] theorem el24 (gl : Nat → Option (Ty × C)) : elemT (X0 gl).P 24 = 5 := by
  show elemT Tryd.prog 24 = _
  kernel_rfl
@[go_sem] theorem zb25 (gl : Nat → Option (Ty × C)) : zeroB (X0 gl).P 25 = true := by
  show zeroB Tryd.prog 25 = _
  kernel_rfl
@[go_sem] theorem eq25 (gl : Nat → Option (Ty × C)) : eqOk (X0 gl).P 25 = true := by
  show eqOk Tryd.prog 25 = _
  kernel_rfl
@[go_sem] theorem pa25 (gl : Nat → Option (Ty × C)) : ptrArr (X0 gl).P 25 = some (32, 1, (.int .u8)) := by
  show ptrArr Tryd.prog 25 = _
  kernel_rfl
@[go_sem] theorem zb26 (gl : Nat → Option (Ty × C)) : zeroB (X0 gl).P 26 = true := by
  show zeroB Tryd.prog 26 = _
  kernel_rfl
@[go_sem] theorem eq26 (gl : Nat → Option (Ty × C)) : eqOk (X0 gl).P 26 = true := by
  show eqOk Tryd.prog 26 = _
  kernel_rfl
@[go_sem] theorem pa26 (gl : Nat → Option (Ty × C)) : ptrArr (X0 gl).P 26 = some (2, 32, (.arr 32 (.int .u8))) := by
  show ptrArr Tryd.prog 26 = _
  kernel_rfl
@[go_sem] theorem zb27 (gl : Nat → Option (Ty × C)) : zeroB (X0 gl).P 27 = true := by
  show zeroB Tryd.prog 27 = _
  kernel_rfl
@[go_sem] theorem eq27 (gl : Nat → Option (Ty × C)) : eqOk (X0 gl).P 27 = true := by
  show eqOk Tryd.prog 27 = _
  kernel_rfl
@[go_sem] theorem zb28 (gl : Nat → Option (Ty × C)) : zeroB (X0 gl).P 28 = true := by
  show zeroB Tryd.prog 28 = _
  kernel_rfl
@[go_sem] theorem eq28 (gl : Nat → Option (Ty × C)) : eqOk (X0 gl).P 28 = true := by
  show eqOk Tryd.prog 28 = _
  kernel_rfl
@[go_sem] theorem zb29 (gl : Nat → Option (Ty × C)) : zeroB (X0 gl).P 29 = true := by
  show zeroB Tryd.prog 29 = _
  kernel_rfl
@[go_sem] theorem eq29 (gl : Nat → Option (Ty × C)) : eqOk (X0 gl).P 29 = true := by
  show eqOk Tryd.prog 29 = _
  kernel_rfl
@[go_sem] theorem pa29 (gl : Nat → Option (Ty × C)) : ptrArr (X0 gl).P 29 = some (32, 1, (.int .u8)) := by
  show ptrArr Tryd.prog 29 = _
  kernel_rfl
@[go_sem] theorem zb30 (gl : Nat → Option (Ty × C)) : zeroB (X0 gl).P 30 = true := by
  show zeroB Tryd.prog 30 = _
  kernel_rfl
@[go_sem] theorem eq30 (gl : Nat → Option (Ty × C)) : eqOk (X0 gl).P 30 = true := by
  show eqOk Tryd.prog 30 = _
  kernel_rfl
@[go_sem] theorem pa30 (gl : Nat → Option (Ty × C)) : ptrArr (X0 gl).P 30 = some (2, 32, (.arr 32 (.int .u8))) := by
  show ptrArr Tryd.prog 30 = _
  kernel_rfl
@[go_sem] theorem zb31 (gl : Nat → Option (Ty × C)) : zeroB (X0 gl).P 31 = true := by
  show zeroB Tryd.prog 31 = _
  kernel_rfl
@[go_sem] theorem eq31 (gl : Nat → Option (Ty × C)) : eqOk (X0 gl).P 31 = true := by
  show eqOk Tryd.prog 31 = _
  kernel_rfl
@[go_sem] theorem zb32 (gl : Nat → Option (Ty × C)) : zeroB (X0 gl).P 32 = true := by
  show zeroB Tryd.prog 32 = _
  kernel_rfl
@[go_sem] theorem eq32 (gl : Nat → Option (Ty × C)) : eqOk (X0 gl).P 32 = true := by
  show eqOk Tryd.prog 32 = _
  kernel_rfl
@[go_sem] theorem zb33 (gl : Nat → Option (Ty × C)) : zeroB (X0 gl).P 33 = true := by
  show zeroB Tryd.prog 33 = _
  kernel_rfl
@[go_sem] theorem eq33 (gl : Nat → Option (Ty × C)) : eqOk (X0 gl).P 33 = true := by
  show eqOk Tryd.prog 33 = _
  kernel_rfl
@[go_sem] theorem zb34 (gl : Nat → Option (Ty × C)) : zeroB (X0 gl).P 34 = true := by
  show zeroB Tryd.prog 34 = _
  kernel_rfl
@[go_sem] theorem eq34 (gl : Nat → Option (Ty × C)) : eqOk (X0 gl).P 34 = true := by
  show eqOk Tryd.prog 34 = _
  kernel_rfl
@[go_sem] theorem pa34 (gl : Nat → Option (Ty × C)) : ptrArr (X0 gl).P 34 = some (2, 8, (.int .u64)) := by
  show ptrArr Tryd.prog 34 = _
  kernel_rfl
@[go_sem] theorem zb35 (gl : Nat → Option (Ty × C)) : zeroB (X0 gl).P 35 = true := by
  show zeroB Tryd.prog 35 = _
  kernel_rfl
@[go_sem] theorem el35 (gl : Nat → Option (Ty × C)) : elemT (X0 gl).P 35 = 98 := by
  show elemT Tryd.prog 35 = _
  kernel_rfl
@[go_sem] theorem zb36 (gl : Nat → Option (Ty × C)) : zeroB (X0 gl).P 36 = true := by
  show zeroB Tryd.prog 36 = _
  kernel_rfl
@[go_sem] theorem zb37 (gl : Nat → Option (Ty × C)) : zeroB (X0 gl).P 37 = true := by
  show zeroB Tryd.prog 37 = _
  kernel_rfl
@[go_sem] theorem zb38 (gl : Nat → Option (Ty × C)) : zeroB (X0 gl).P 38 = true := by
  show zeroB Tryd.prog 38 = _
  kernel_rfl
@[go_sem] theorem zb39 (gl : Nat → Option (Ty × C)) : zeroB (X0 gl).P 39 = true := by
  show zeroB Tryd.prog 39 = _
  kernel_rfl
@[go_sem] theorem zb40 (gl : Nat → Option (Ty × C)) : zeroB (X0 gl).P 40 = true := by
  show zeroB Tryd.prog 40 = _
  kernel_rfl
@[go_sem] theorem eq40 (gl : Nat → Option (Ty × C)) : eqOk (X0 gl).P 40 = true := by
  show eqOk Tryd.prog 40 = _
  kernel_rfl
@[go_sem] theorem zb44 (gl : Nat → Option (Ty × C)) : zeroB (X0 gl).P 44 = true := by
  show zeroB Tryd.prog 44 = _
  kernel_rfl
@[go_sem] theorem el44 (gl : Nat → Option (Ty × C)) : elemT (X0 gl).P 44 = 95 := by
  show elemT Tryd.prog 44 = _
  kernel_rfl
@[go_sem] theorem zb45 (gl : Nat → Option (Ty × C)) : zeroB (X0 gl).P 45 = true := by
  show zeroB Tryd.prog 45 = _
  kernel_rfl
@[go_sem] theorem zb46 (gl : Nat → Option (Ty × C)) : zeroB (X0 gl).P 46 = true := by
  show zeroB Tryd.prog 46 = _
  kernel_rfl
@[go_sem] theorem zb47 (gl : Nat → Option (Ty × C)) : zeroB (X0 gl).P 47 = true := by
  show zeroB Tryd.prog 47 = _
  kernel_rfl
@[go_sem] theorem zb48 (gl : Nat → Option (Ty × C)) : zeroB (X0 gl).P 48 = true := by
  show zeroB Tryd.prog 48 = _
  kernel_rfl
@[go_sem] theorem zb54 (gl : Nat → Option (Ty × C)) : zeroB (X0 gl).P 54 = true := by
  show zeroB Tryd.prog 54 = _
  kernel_rfl
@[go_sem] theorem eq54 (gl : Nat → Option (Ty × C)) : eqOk (X0 gl).P 54 = true := by
  show eqOk Tryd.prog 54 = _
  kernel_rfl
@[go_sem] theorem zb67 (gl : Nat → Option (Ty × C)) : zeroB (X0 gl).P 67 = true := by
  show zeroB Tryd.prog 67 = _
  kernel_rfl
@[go_sem] theorem el67 (gl : Nat → Option (Ty × C)) : elemT (X0 gl).P 67 = 3 := by
  show elemT Tryd.prog 67 = _
  kernel_rfl
@[go_sem] theorem zb70 (gl : Nat → Option (Ty × C)) : zeroB (X0 gl).P 70 = true := by
  show zeroB Tryd.prog 70 = _
  kernel_rfl
@[go_sem] theorem eq70 (gl : Nat → Option (Ty × C)) : eqOk (X0 gl).P 70 = true := by
  show eqOk Tryd.prog 70 = _
  kernel_rfl
@[go_sem] theorem pa70 (gl : Nat → Option (Ty × C)) : ptrArr (X0 gl).P 70 = some (16, 1, (.int .u8)) := by
  show ptrArr Tryd.prog 70 = _
  kernel_rfl
@[go_sem] theorem zb71 (gl : Nat → Option (Ty × C)) : zeroB (X0 gl).P 71 = true := by
  show zeroB Tryd.prog 71 = _
  kernel_rfl
@[go_sem] theorem eq71 (gl : Nat → Option (Ty × C)) : eqOk (X0 gl).P 71 = true := by
  show eqOk Tryd.prog 71 = _
  kernel_rfl
@[go_sem] theorem pa71 (gl : Nat → Option (Ty × C)) : ptrArr (X0 gl).P 71 = some (16, 1, (.int .u8)) := by
  show ptrArr Tryd.prog 71 = _
  kernel_rfl
@[go_sem] theorem zb72 (gl : Nat → Option (Ty × C)) : zeroB (X0 gl).P 72 = true := by
  show zeroB Tryd.prog 72 = _
  kernel_rfl
@[go_sem] theorem eq72 (gl : Nat → Option (Ty × C)) : eqOk (X0 gl).P 72 = true := by
  show eqOk Tryd.prog 72 = _
  kernel_rfl
@[go_sem] theorem pa72 (gl : Nat → Option (Ty × C)) : ptrArr (X0 gl).P 72 = some (32, 16, (.arr 16 (.int .u8))) := by
  show ptrArr Tryd.prog 72 = _
  kernel_rfl
@[go_sem] theorem zb73 (gl : Nat → Option (Ty × C)) : zeroB (X0 gl).P 73 = true := by
  show zeroB Tryd.prog 73 = _
  kernel_rfl
@[go_sem] theorem eq73 (gl : Nat → Option (Ty × C)) : eqOk (X0 gl).P 73 = true := by
  show eqOk Tryd.prog 73 = _
  kernel_rfl
@[go_sem] theorem zb74 (gl : Nat → Option (Ty × C)) : zeroB (X0 gl).P 74 = true := by
  show zeroB Tryd.prog 74 = _
  kernel_rfl
@[go_sem] theorem eq74 (gl : Nat → Option (Ty × C)) : eqOk (X0 gl).P 74 = true := by
  show eqOk Tryd.prog 74 = _
  kernel_rfl
@[go_sem] theorem zb75 (gl : Nat → Option (Ty × C)) : zeroB (X0 gl).P 75 = true := by
  show zeroB Tryd.prog 75 = _
  kernel_rfl
@[go_sem] theorem el75 (gl : Nat → Option (Ty × C)) : elemT (X0 gl).P 75 = 29 := by
  show elemT Tryd.prog 75 = _
  kernel_rfl
@[go_sem] theorem zb76 (gl : Nat → Option (Ty × C)) : zeroB (X0 gl).P 76 = true := by
  show zeroB Tryd.prog 76 = _
  kernel_rfl
@[go_sem] theorem zb77 (gl : Nat → Option (Ty × C)) : zeroB (X0 gl).P 77 = true := by
  show zeroB Tryd.prog 77 = _
  kernel_rfl
@[go_sem] theorem zb78 (gl : Nat → Option (Ty × C)) : zeroB (X0 gl).P 78 = true := by
  show zeroB Tryd.prog 78 = _
  kernel_rfl
@[go_sem] theorem pa78 (gl : Nat → Option (Ty × C)) : ptrArr (X0 gl).P 78 = some (2, 1056, tSig2) := by
  show ptrArr Tryd.prog 78 = _
  kernel_rfl
@[go_sem] theorem zb79 (gl : Nat → Option (Ty × C)) : zeroB (X0 gl).P 79 = true := by
  show zeroB Tryd.prog 79 = _
  kernel_rfl
@[go_sem] theorem zb80 (gl : Nat → Option (Ty × C)) : zeroB (X0 gl).P 80 = true := by
  show zeroB Tryd.prog 80 = _
  kernel_rfl
@[go_sem] theorem zb84 (gl : Nat → Option (Ty × C)) : zeroB (X0 gl).P 84 = true := by
  show zeroB Tryd.prog 84 = _
  kernel_rfl
@[go_sem] theorem zb86 (gl : Nat → Option (Ty × C)) : zeroB (X0 gl).P 86 = true := by
  show zeroB Tryd.prog 86 = _
  kernel_rfl
@[go_sem] theorem zb87 (gl : Nat → Option (Ty × C)) : zeroB (X0 gl).P 87 = true := by
  show zeroB Tryd.prog 87 = _
  kernel_rfl
@[go_sem] theorem el87 (gl : Nat → Option (Ty × C)) : elemT (X0 gl).P 87 = 33 := by
  show elemT Tryd.prog 87 = _
  kernel_rfl
@[go_sem] theorem zb90 (gl : Nat → Option (Ty × C)) : zeroB (X0 gl).P 90 = true := by
  show zeroB Tryd.prog 90 = _
  kernel_rfl
@[go_sem] theorem el90 (gl : Nat → Option (Ty × C)) : elemT (X0 gl).P 90 = 4 := by
  show elemT Tryd.prog 90 = _
  kernel_rfl
@[go_sem] theorem zb94 (gl : Nat → Option (Ty × C)) : zeroB (X0 gl).P 94 = true := by
  show zeroB Tryd.prog 94 = _
  kernel_rfl
@[go_sem] theorem eq94 (gl : Nat → Option (Ty × C)) : eqOk (X0 gl).P 94 = true := by
  show eqOk Tryd.prog 94 = _
  kernel_rfl
@[go_sem] theorem zb95 (gl : Nat → Option (Ty × C)) : zeroB (X0 gl).P 95 = true := by
  show zeroB Tryd.prog 95 = _
  kernel_rfl
@[go_sem] theorem eq95 (gl : Nat → Option (Ty × C)) : eqOk (X0 gl).P 95 = true := by
  show eqOk Tryd.prog 95 = _
  kernel_rfl
@[go_sem] theorem zb96 (gl : Nat → Option (Ty × C)) : zeroB (X0 gl).P 96 = true := by
  show zeroB Tryd.prog 96 = _
  kernel_rfl
@[go_sem] theorem eq96 (gl : Nat → Option (Ty × C)) : eqOk (X0 gl).P 96 = true := by
  show eqOk Tryd.prog 96 = _
  kernel_rfl
@[go_sem] theorem pa96 (gl : Nat → Option (Ty × C)) : ptrArr (X0 gl).P 96 = some (32, 1, (.int .u8)) := by
  show ptrArr Tryd.prog 96 = _
  kernel_rfl
@[go_sem] theorem zb97 (gl : Nat → Option (Ty × C)) : zeroB (X0 gl).P 97 = true := by
  show zeroB Tryd.prog 97 = _
  kernel_rfl
@[go_sem] theorem eq97 (gl : Nat → Option (Ty × C)) : eqOk (X0 gl).P 97 = true := by
  show eqOk Tryd.prog 97 = _
  kernel_rfl
@[go_sem] theorem zb98 (gl : Nat → Option (Ty × C)) : zeroB (X0 gl).P 98 = true := by
  show zeroB Tryd.prog 98 = _
  kernel_rfl
@[go_sem] theorem eq98 (gl : Nat → Option (Ty × C)) : eqOk (X0 gl).P 98 = true := by
  show eqOk Tryd.prog 98 = _
  kernel_rfl
@[go_sem] theorem zb107 (gl : Nat → Option (Ty × C)) : zeroB (X0 gl).P 107 = true := by
  show zeroB Tryd.prog 107 = _
  kernel_rfl
@[go_sem] theorem el107 (gl : Nat → Option (Ty × C)) : elemT (X0 gl).P 107 = 109 := by
  show elemT Tryd.prog 107 = _
  kernel_rfl
@[go_sem] theorem zb109 (gl : Nat → Option (Ty × C)) : zeroB (X0 gl).P 109 = true := by
  show zeroB Tryd.prog 109 = _
  kernel_rfl
@[go_sem] theorem eq109 (gl : Nat → Option (Ty × C)) : eqOk (X0 gl).P 109 = true := by
  show eqOk Tryd.prog 109 = _
  kernel_rfl
@[go_sem] theorem zb112 (gl : Nat → Option (Ty × C)) : zeroB (X0 gl).P 112 = true := by
  show zeroB Tryd.prog 112 = _
  kernel_rfl
@[go_sem] theorem zb113 (gl : Nat → Option (Ty × C)) : zeroB (X0 gl).P 113 = true := by
  show zeroB Tryd.prog 113 = _
  kernel_rfl
@[go_sem] theorem zb114 (gl : Nat → Option (Ty × C)) : zeroB (X0 gl).P 114 = true := by
  show zeroB Tryd.prog 114 = _
  kernel_rfl
@[go_sem] theorem zb115 (gl : Nat → Option (Ty × C)) : zeroB (X0 gl).P 115 = true := by
  show zeroB Tryd.prog 115 = _
  kernel_rfl
@[go_sem] theorem eq115 (gl : Nat → Option (Ty × C)) : eqOk (X0 gl).P 115 = true := by
  show eqOk Tryd.prog 115 = _
  kernel_rfl
@[go_sem] theorem zb116 (gl : Nat → Option (Ty × C)) : zeroB (X0 gl).P 116 = true := by
  show zeroB Tryd.prog 116 = _
  kernel_rfl
@[go_sem] theorem eq116 (gl : Nat → Option (Ty × C)) : eqOk (X0 gl).P 116 = true := by
  show eqOk Tryd.prog 116 = _
  kernel_rfl
@[go_sem] theorem zb117 (gl : Nat → Option (Ty × C)) : zeroB (X0 gl).P 117 = true := by
  show zeroB Tryd.prog 117 = _
  kernel_rfl
@[go_sem] theorem eq117 (gl : Nat → Option (Ty × C)) : eqOk (X0 gl).P 117 = true := by
  show eqOk Tryd.prog 117 = _
  kernel_rfl
@[go_sem] theorem pa117 (gl : Nat → Option (Ty × C)) : ptrArr (X0 gl).P 117 = some (18, 32, tForm) := by
  show ptrArr Tryd.prog 117 = _
  kernel_rfl
@[go_sem] theorem zb118 (gl : Nat → Option (Ty × C)) : zeroB (X0 gl).P 118 = true := by
  show zeroB Tryd.prog 118 = _
  kernel_rfl
@[go_sem] theorem eq118 (gl : Nat → Option (Ty × C)) : eqOk (X0 gl).P 118 = true := by
  show eqOk Tryd.prog 118 = _
  kernel_rfl
@[go_sem] theorem zb125 (gl : Nat → Option (Ty × C)) : zeroB (X0 gl).P 125 = true := by
  show zeroB Tryd.prog 125 = _
  kernel_rfl
@[go_sem] theorem zb126 (gl : Nat → Option (Ty × C)) : zeroB (X0 gl).P 126 = true := by
  show zeroB Tryd.prog 126 = _
  kernel_rfl
@[go_sem] theorem zb133 (gl : Nat → Option (Ty × C)) : zeroB (X0 gl).P 133 = true := by
  show zeroB Tryd.prog 133 = _
  kernel_rfl
@[go_sem] theorem eq133 (gl : Nat → Option (Ty × C)) : eqOk (X0 gl).P 133 = true := by
  show eqOk Tryd.prog 133 = _
  kernel_rfl
@[go_sem] theorem pa133 (gl : Nat → Option (Ty × C)) : ptrArr (X0 gl).P 133 = some (2, 8, (.int .i64)) := by
  show ptrArr Tryd.prog 133 = _
  kernel_rfl
@[go_sem] theorem zb134 (gl : Nat → Option (Ty × C)) : zeroB (X0 gl).P 134 = true := by
  show zeroB Tryd.prog 134 = _
  kernel_rfl
@[go_sem] theorem zb135 (gl : Nat → Option (Ty × C)) : zeroB (X0 gl).P 135 = true := by
  show zeroB Tryd.prog 135 = _
  kernel_rfl
@[go_sem] theorem zb136 (gl : Nat → Option (Ty × C)) : zeroB (X0 gl).P 136 = true := by
  show zeroB Tryd.prog 136 = _
  kernel_rfl
@[go_sem] theorem zb156 (gl : Nat → Option (Ty × C)) : zeroB (X0 gl).P 156 = true := by
  show zeroB Tryd.prog 156 = _
  kernel_rfl
@[go_sem] theorem el156 (gl : Nat → Option (Ty × C)) : elemT (X0 gl).P 156 = 5 := by
  show elemT Tryd.prog 156 = _
  kernel_rfl
@[go_sem] theorem zb160 (gl : Nat → Option (Ty × C)) : zeroB (X0 gl).P 160 = true := by
  show zeroB Tryd.prog 160 = _
  kernel_rfl
@[go_sem] theorem eq160 (gl : Nat → Option (Ty × C)) : eqOk (X0 gl).P 160 = true := by
  show eqOk Tryd.prog 160 = _
  kernel_rfl
@[go_sem] theorem pa160 (gl : Nat → Option (Ty × C)) : ptrArr (X0 gl).P 160 = some (32, 1, (.int .u8)) := by
  show ptrArr Tryd.prog 160 = _
  kernel_rfl
@[go_sem] theorem zb161 (gl : Nat → Option (Ty × C)) : zeroB (X0 gl).P 161 = true := by
  show zeroB Tryd.prog 161 = _
  kernel_rfl
@[go_sem] theorem eq161 (gl : Nat → Option (Ty × C)) : eqOk (X0 gl).P 161 = true := by
  show eqOk Tryd.prog 161 = _
  kernel_rfl
@[go_sem] theorem zb162 (gl : Nat → Option (Ty × C)) : zeroB (X0 gl).P 162 = true := by
  show zeroB Tryd.prog 162 = _
  kernel_rfl
@[go_sem] theorem eq162 (gl : Nat → Option (Ty × C)) : eqOk (X0 gl).P 162 = true := by
  show eqOk Tryd.prog 162 = _
  kernel_rfl
@[go_sem] theorem zb164 (gl : Nat → Option (Ty × C)) : zeroB (X0 gl).P 164 = true := by
  show zeroB Tryd.prog 164 = _
  kernel_rfl
@[go_sem] theorem eq164 (gl : Nat → Option (Ty × C)) : eqOk (X0 gl).P 164 = true := by
  show eqOk Tryd.prog 164 = _
  kernel_rfl
@[go_sem] theorem pa164 (gl : Nat → Option (Ty × C)) : ptrArr (X0 gl).P 164 = some (2, 16, (.arr 16 (.int .u8))) := by
  show ptrArr Tryd.prog 164 = _
  kernel_rfl
@[go_sem] theorem zb165 (gl : Nat → Option (Ty × C)) : zeroB (X0 gl).P 165 = true := by
  show zeroB Tryd.prog 165 = _
  kernel_rfl
@[go_sem] theorem eq165 (gl : Nat → Option (Ty × C)) : eqOk (X0 gl).P 165 = true := by
  show eqOk Tryd.prog 165 = _
  kernel_rfl
@[go_sem] theorem pa165 (gl : Nat → Option (Ty × C)) : ptrArr (X0 gl).P 165 = some (32, 32, (.arr 2 (.arr 16 (.int .u8)))) := by
  show ptrArr Tryd.prog 165 = _
  kernel_rfl
@[go_sem] theorem zb169 (gl : Nat → Option (Ty × C)) : zeroB (X0 gl).P 169 = true := by
  show zeroB Tryd.prog 169 = _
  kernel_rfl
@[go_sem] theorem el169 (gl : Nat → Option (Ty × C)) : elemT (X0 gl).P 169 = 24 := by
  show elemT Tryd.prog 169 = _
  kernel_rfl
@[go_sem] theorem zb170 (gl : Nat → Option (Ty × C)) : zeroB (X0 gl).P 170 = true := by
  show zeroB Tryd.prog 170 = _
  kernel_rfl
@[go_sem] theorem zb175 (gl : Nat → Option (Ty × C)) : zeroB (X0 gl).P 175 = true := by
  show zeroB Tryd.prog 175 = _
  kernel_rfl
@[go_sem] theorem el175 (gl : Nat → Option (Ty × C)) : elemT (X0 gl).P 175 = 22 := by
  show elemT Tryd.prog 175 = _
  kernel_rfl
@[go_sem] theorem zb180 (gl : Nat → Option (Ty × C)) : zeroB (X0 gl).P 180 = true := by
  show zeroB Tryd.prog 180 = _
  kernel_rfl
@[go_sem] theorem eq180 (gl : Nat → Option (Ty × C)) : eqOk (X0 gl).P 180 = true := by
  show eqOk Tryd.prog 180 = _
  kernel_rfl
@[go_sem] theorem pa180 (gl : Nat → Option (Ty × C)) : ptrArr (X0 gl).P 180 = some (8, 4, (.int .u32)) := by
  show ptrArr Tryd.prog 180 = _
  kernel_rfl
@[go_sem] theorem zb181 (gl : Nat → Option (Ty × C)) : zeroB (X0 gl).P 181 = true := by
  show zeroB Tryd.prog 181 = _
  kernel_rfl
@[go_sem] theorem eq181 (gl : Nat → Option (Ty × C)) : eqOk (X0 gl).P 181 = true := by
  show eqOk Tryd.prog 181 = _
  kernel_rfl
@[go_sem] theorem pa181 (gl : Nat → Option (Ty × C)) : ptrArr (X0 gl).P 181 = some (64, 1, (.int .u8)) := by
  show ptrArr Tryd.prog 181 = _
  kernel_rfl
@[go_sem] theorem zb182 (gl : Nat → Option (Ty × C)) : zeroB (X0 gl).P 182 = true := by
  show zeroB Tryd.prog 182 = _
  kernel_rfl
@[go_sem] theorem eq182 (gl : Nat → Option (Ty × C)) : eqOk (X0 gl).P 182 = true := by
  show eqOk Tryd.prog 182 = _
  kernel_rfl
@[go_sem] theorem zb183 (gl : Nat → Option (Ty × C)) : zeroB (X0 gl).P 183 = true := by
  show zeroB Tryd.prog 183 = _
  kernel_rfl
@[go_sem] theorem eq183 (gl : Nat → Option (Ty × C)) : eqOk (X0 gl).P 183 = true := by
  show eqOk Tryd.prog 183 = _
  kernel_rfl
@[go_sem] theorem zb186 (gl : Nat → Option (Ty × C)) : zeroB (X0 gl).P 186 = true := by
  show zeroB Tryd.prog 186 = _
  kernel_rfl
@[go_sem] theorem eq186 (gl : Nat → Option (Ty × C)) : eqOk (X0 gl).P 186 = true := by
  show eqOk Tryd.prog 186 = _
  kernel_rfl
@[go_sem] theorem pa186 (gl : Nat → Option (Ty × C)) : ptrArr (X0 gl).P 186 = some (16, 4, (.int .u32)) := by
  show ptrArr Tryd.prog 186 = _
  kernel_rfl
@[go_sem] theorem zb188 (gl : Nat → Option (Ty × C)) : zeroB (X0 gl).P 188 = true := by
  show zeroB Tryd.prog 188 = _
  kernel_rfl
@[go_sem] theorem eq188 (gl : Nat → Option (Ty × C)) : eqOk (X0 gl).P 188 = true := by
  show eqOk Tryd.prog 188 = _
  kernel_rfl
@[go_sem] theorem pa188 (gl : Nat → Option (Ty × C)) : ptrArr (X0 gl).P 188 = some (64, 4, (.int .u32)) := by
  show ptrArr Tryd.prog 188 = _
  kernel_rfl
@[go_sem] theorem zb193 (gl : Nat → Option (Ty × C)) : zeroB (X0 gl).P 193 = true := by
  show zeroB Tryd.prog 193 = _
  kernel_rfl
@[go_sem] theorem zb194 (gl : Nat → Option (Ty × C)) : zeroB (X0 gl).P 194 = true := by
  show zeroB Tryd.prog 194 = _
  kernel_rfl
@[go_sem] theorem zb195 (gl : Nat → Option (Ty × C)) : zeroB (X0 gl).P 195 = true := by
  show zeroB Tryd.prog 195 = _
  kernel_rfl
@[go_sem] theorem pa195 (gl : Nat → Option (Ty × C)) : ptrArr (X0 gl).P 195 = some (0, 8, .ptr) := by
  show ptrArr Tryd.prog 195 = _
  kernel_rfl
@[go_sem] theorem zb196 (gl : Nat → Option (Ty × C)) : zeroB (X0 gl).P 196 = true := by
  show zeroB Tryd.prog 196 = _
  kernel_rfl
@[go_sem] theorem zb197 (gl : Nat → Option (Ty × C)) : zeroB (X0 gl).P 197 = true := by
  show zeroB Tryd.prog 197 = _
  kernel_rfl
@[go_sem] theorem zb199 (gl : Nat → Option (Ty × C)) : zeroB (X0 gl).P 199 = true := by
  show zeroB Tryd.prog 199 = _
  kernel_rfl
@[go_sem] theorem eq199 (gl : Nat → Option (Ty × C)) : eqOk (X0 gl).P 199 = true := by
  show eqOk Tryd.prog 199 = _
  kernel_rfl
@[go_sem] theorem zb200 (gl : Nat → Option (Ty × C)) : zeroB (X0 gl).P 200 = true := by
  show zeroB Tryd.prog 200 = _
  kernel_rfl
@[go_sem] theorem eq200 (gl : Nat → Option (Ty × C)) : eqOk (X0 gl).P 200 = true := by
  show eqOk Tryd.prog 200 = _
  kernel_rfl
@[go_sem] theorem zb202 (gl : Nat → Option (Ty × C)) : zeroB (X0 gl).P 202 = true := by
  show zeroB Tryd.prog 202 = _
  kernel_rfl
@[go_sem] theorem zb203 (gl : Nat → Option (Ty × C)) : zeroB (X0 gl).P 203 = true := by
  show zeroB Tryd.prog 203 = _
  kernel_rfl
@[go_sem] theorem eq203 (gl : Nat → Option (Ty × C)) : eqOk (X0 gl).P 203 = true := by
  show eqOk Tryd.prog 203 = _
  kernel_rfl
@[go_sem] theorem zb204 (gl : Nat → Option (Ty × C)) : zeroB (X0 gl).P 204 = true := by
  show zeroB Tryd.prog 204 = _
  kernel_rfl
@[go_sem] theorem eq204 (gl : Nat → Option (Ty × C)) : eqOk (X0 gl).P 204 = true := by
  show eqOk Tryd.prog 204 = _
  kernel_rfl
@[go_sem] theorem zb205 (gl : Nat → Option (Ty × C)) : zeroB (X0 gl).P 205 = true := by
  show zeroB Tryd.prog 205 = _
  kernel_rfl
@[go_sem] theorem zb206 (gl : Nat → Option (Ty × C)) : zeroB (X0 gl).P 206 = true := by
  show zeroB Tryd.prog 206 = _
  kernel_rfl
@[go_sem] theorem mt86 (gl : Nat → Option (Ty × C)) : mapT (X0 gl).P 86 = some (33, 4) := by
  show mapT Tryd.prog 86 = _
  kernel_rfl
@[go_sem] theorem mt112 (gl : Nat → Option (Ty × C)) : mapT (X0 gl).P 112 = some (96, 162) := by
  show mapT Tryd.prog 112 = _
  kernel_rfl
@[go_sem] theorem ca2 (gl : Nat → Option (Ty × C)) : callable (X0 gl).P 2 = true := by
  show callable Tryd.prog 2 = _
  kernel_rfl
@[go_sem] theorem ca3 (gl : Nat → Option (Ty × C)) : callable (X0 gl).P 3 = true := by
  show callable Tryd.prog 3 = _
  kernel_rfl
@[go_sem] theorem ca4 (gl : Nat → Option (Ty × C)) : callable (X0 gl).P 4 = true := by
  show callable Tryd.prog 4 = _
  kernel_rfl
@[go_sem] theorem ca5 (gl : Nat → Option (Ty × C)) : callable (X0 gl).P 5 = true := by
  show callable Tryd.prog 5 = _
  kernel_rfl
@[go_sem] theorem ca6 (gl : Nat → Option (Ty × C)) : callable (X0 gl).P 6 = true := by
  show callable Tryd.prog 6 = _
  kernel_rfl
@[go_sem] theorem ca7 (gl : Nat → Option (Ty × C)) : callable (X0 gl).P 7 = true := by
  show callable Tryd.prog 7 = _
  kernel_rfl
@[go_sem] theorem ca8 (gl : Nat → Option (Ty × C)) : callable (X0 gl).P 8 = true := by
  show callable Tryd.prog 8 = _
  kernel_rfl
@[go_sem] theorem ca9 (gl : Nat → Option (Ty × C)) : callable (X0 gl).P 9 = true := by
  show callable Tryd.prog 9 = _
  kernel_rfl
@[go_sem] theorem ca10 (gl : Nat → Option (Ty × C)) : callable (X0 gl).P 10 = true := by
  show callable Tryd.prog 10 = _
  kernel_rfl
@[go_sem] theorem ca11 (gl : Nat → Option (Ty × C)) : callable (X0 gl).P 11 = true := by
  show callable Tryd.prog 11 = _
  kernel_rfl
@[go_sem] theorem ca12 (gl : Nat → Option (Ty × C)) : callable (X0 gl).P 12 = true := by
  show callable Tryd.prog 12 = _
  kernel_rfl
@[go_sem] theorem ca13 (gl : Nat → Option (Ty × C)) : callable (X0 gl).P 13 = true := by
  show callable Tryd.prog 13 = _
  kernel_rfl
@[go_sem] theorem ca14 (gl : Nat → Option (Ty × C)) : callable (X0 gl).P 14 = true := by
  show callable Tryd.prog 14 = _
  kernel_rfl
@[go_sem] theorem ca15 (gl : Nat → Option (Ty × C)) : callable (X0 gl).P 15 = true := by
  show callable Tryd.prog 15 = _
  kernel_rfl
@[go_sem] theorem ca16 (gl : Nat → Option (Ty × C)) : callable (X0 gl).P 16 = true := by
  show callable Tryd.prog 16 = _
  kernel_rfl
@[go_sem] theorem ca17 (gl : Nat → Option (Ty × C)) : callable (X0 gl).P 17 = true := by
  show callable Tryd.prog 17 = _
  kernel_rfl
@[go_sem] theorem ca18 (gl : Nat → Option (Ty × C)) : callable (X0 gl).P 18 = true := by
  show callable Tryd.prog 18 = _
  kernel_rfl
@[go_sem] theorem ca19 (gl : Nat → Option (Ty × C)) : callable (X0 gl).P 19 = true := by
  show callable Tryd.prog 19 = _
  kernel_rfl
@[go_sem] theorem ca20 (gl : Nat → Option (Ty × C)) : callable (X0 gl).P 20 = true := by
  show callable Tryd.prog 20 = _
  kernel_rfl
@[go_sem] theorem ca21 (gl : Nat → Option (Ty × C)) : callable (X0 gl).P 21 = true := by
  show callable Tryd.prog 21 = _
  kernel_rfl
@[go_sem] theorem ca22 (gl : Nat → Option (Ty × C)) : callable (X0 gl).P 22 = true := by
  show callable Tryd.prog 22 = _
  kernel_rfl
@[go_sem] theorem ca23 (gl : Nat → Option (Ty × C)) : callable (X0 gl).P 23 = true := by
  show callable Tryd.prog 23 = _
  kernel_rfl
@[go_sem] theorem ca24 (gl : Nat → Option (Ty × C)) : callable (X0 gl).P 24 = true := by
  show callable Tryd.prog 24 = _
  kernel_rfl
@[go_sem] theorem ca25 (gl : Nat → Option (Ty × C)) : callable (X0 gl).P 25 = true := by
  show callable Tryd.prog 25 = _
  kernel_rfl
@[go_sem] theorem ca26 (gl : Nat → Option (Ty × C)) : callable (X0 gl).P 26 = true := by
  show callable Tryd.prog 26 = _
  kernel_rfl
@[go_sem] theorem ca27 (gl : Nat → Option (Ty × C)) : callable (X0 gl).P 27 = true := by
  show callable Tryd.prog 27 = _
  kernel_rfl
@[go_sem] theorem ca28 (gl : Nat → Option (Ty × C)) : callable (X0 gl).P 28 = true := by
  show callable Tryd.prog 28 = _
  kernel_rfl
@[go_sem] theorem ca29 (gl : Nat → Option (Ty × C)) : callable (X0 gl).P 29 = true := by
  show callable Tryd.prog 29 = _
  kernel_rfl
@[go_sem] theorem ca30 (gl : Nat → Option (Ty × C)) : callable (X0 gl).P 30 = true := by
  show callable Tryd.prog 30 = _
  kernel_rfl
@[go_sem] theorem ca31 (gl : Nat → Option (Ty × C)) : callable (X0 gl).P 31 = true := by
  show callable Tryd.prog 31 = _
  kernel_rfl
@[go_sem] theorem ca32 (gl : Nat → Option (Ty × C)) : callable (X0 gl).P 32 = true := by
  show callable Tryd.prog 32 = _
  kernel_rfl
@[go_sem] theorem ca33 (gl : Nat → Option (Ty × C)) : callable (X0 gl).P 33 = true := by
  show callable Tryd.prog 33 = _
  kernel_rfl
@[go_sem] theorem ca34 (gl : Nat → Option (Ty × C)) : callable (X0 gl).P 34 = true := by
  show callable Tryd.prog 34 = _
  kernel_rfl
@[go_sem] theorem ca35 (gl : Nat → Option (Ty × C)) : callable (X0 gl).P 35 = true := by
  show callable Tryd.prog 35 = _
  kernel_rfl
@[go_sem] theorem ca36 (gl : Nat → Option (Ty × C)) : callable (X0 gl).P 36 = true := by
  show callable Tryd.prog 36 = _
  kernel_rfl
@[go_sem] theorem ca38 (gl : Nat → Option (Ty × C)) : callable (X0 gl).P 38 = true := by
  show callable Tryd.prog 38 = _
  kernel_rfl
@[go_sem] theorem ca39 (gl : Nat → Option (Ty × C)) : callable (X0 gl).P 39 = true := by
  show callable Tryd.prog 39 = _
  kernel_rfl
@[go_sem] theorem ca40 (gl : Nat → Option (Ty × C)) : callable (X0 gl).P 40 = true := by
  show callable Tryd.prog 40 = _
  kernel_rfl
@[go_sem] theorem ca41 (gl : Nat → Option (Ty × C)) : callable (X0 gl).P 41 = true := by
  show callable Tryd.prog 41 = _
  kernel_rfl
@[go_sem] theorem ca42 (gl : Nat → Option (Ty × C)) : callable (X0 gl).P 42 = true := by
  show callable Tryd.prog 42 = _
  kernel_rfl
@[go_sem] theorem ca43 (gl : Nat → Option (Ty × C)) : callable (X0 gl).P 43 = true := by
  show callable Tryd.prog 43 = _
  kernel_rfl
@[go_sem] theorem ca44 (gl : Nat → Option (Ty × C)) : callable (X0 gl).P 44 = true := by
  show callable Tryd.prog 44 = _
  kernel_rfl
@[go_sem] theorem ca45 (gl : Nat → Option (Ty × C)) : callable (X0 gl).P 45 = true := by
  show callable Tryd.prog 45 = _
  kernel_rfl
@[go_sem] theorem ca46 (gl : Nat → Option (Ty × C)) : callable (X0 gl).P 46 = true := by
  show callable Tryd.prog 46 = _
  kernel_rfl
@[go_sem] theorem ca47 (gl : Nat → Option (Ty × C)) : callable (X0 gl).P 47 = true := by
  show callable Tryd.prog 47 = _
  kernel_rfl
@[go_sem] theorem ca48 (gl : Nat → Option (Ty × C)) : callable (X0 gl).P 48 = true := by
  show callable Tryd.prog 48 = _
  kernel_rfl
@[go_sem] theorem ca49 (gl : Nat → Option (Ty × C)) : callable (X0 gl).P 49 = true := by
  show callable Tryd.prog 49 = _
  kernel_rfl
@[go_sem] theorem ca50 (gl : Nat → Option (Ty × C)) : callable (X0 gl).P 50 = true := by
  show callable Tryd.prog 50 = _
  kernel_rfl
@[go_sem] theorem ca51 (gl : Nat → Option (Ty × C)) : callable (X0 gl).P 51 = true := by
  show callable Tryd.prog 51 = _
  kernel_rfl
@[go_sem] theorem ca52 (gl : Nat → Option (Ty × C)) : callable (X0 gl).P 52 = true := by
  show callable Tryd.prog 52 = _
  kernel_rfl
@[go_sem] theorem ca53 (gl : Nat → Option (Ty × C)) : callable (X0 gl).P 53 = true := by
  show callable Tryd.prog 53 = _
  kernel_rfl
@[go_sem] theorem ca54 (gl : Nat → Option (Ty × C)) : callable (X0 gl).P 54 = true := by
  show callable Tryd.prog 54 = _
  kernel_rfl
@[go_sem] theorem ca55 (gl : Nat → Option (Ty × C)) : callable (X0 gl).P 55 = true := by
  show callable Tryd.prog 55 = _
  kernel_rfl
@[go_sem] theorem ca56 (gl : Nat → Option (Ty × C)) : callable (X0 gl).P 56 = true := by
  show callable Tryd.prog 56 = _
  kernel_rfl
@[go_sem] theorem ca57 (gl : Nat → Option (Ty × C)) : callable (X0 gl).P 57 = true := by
  show callable Tryd.prog 57 = _
  kernel_rfl
@[go_sem] theorem ca58 (gl : Nat → Option (Ty × C)) : callable (X0 gl).P 58 = true := by
  show callable Tryd.prog 58 = _
  kernel_rfl
@[go_sem] theorem ca59 (gl : Nat → Option (Ty × C)) : callable (X0 gl).P 59 = true := by
  show callable Tryd.prog 59 = _
  kernel_rfl
@[go_sem] theorem ca60 (gl : Nat → Option (Ty × C)) : callable (X0 gl).P 60 = true := by
  show callable Tryd.prog 60 = _
  kernel_rfl
@[go_sem] theorem ca61 (gl : Nat → Option (Ty × C)) : callable (X0 gl).P 61 = true := by
  show callable Tryd.prog 61 = _
  kernel_rfl
@[go_sem] theorem ca62 (gl : Nat → Option (Ty × C)) : callable (X0 gl).P 62 = true := by
  show callable Tryd.prog 62 = _
  kernel_rfl
@[go_sem] theorem ca63 (gl : Nat → Option (Ty × C)) : callable (X0 gl).P 63 = true := by
  show callable Tryd.prog 63 = _
  kernel_rfl
@[go_sem] theorem ca64 (gl : Nat → Option (Ty × C)) : callable (X0 gl).P 64 = true := by
  show callable Tryd.prog 64 = _
  kernel_rfl
@[go_sem] theorem ca65 (gl : Nat → Option (Ty × C)) : callable (X0 gl).P 65 = true := by
  show callable Tryd.prog 65 = _
  kernel_rfl
@[go_sem] theorem ca66 (gl : Nat → Option (Ty × C)) : callable (X0 gl).P 66 = true := by
  show callable Tryd.prog 66 = _
  kernel_rfl
@[go_sem] theorem ca67 (gl : Nat → Option (Ty × C)) : callable (X0 gl).P 67 = true := by
  show callable Tryd.prog 67 = _
  kernel_rfl
@[go_sem] theorem ca68 (gl : Nat → Option (Ty × C)) : callable (X0 gl).P 68 = true := by
  show callable Tryd.prog 68 = _
  kernel_rfl
@[go_sem] theorem ca69 (gl : Nat → Option (Ty × C)) : callable (X0 gl).P 69 = true := by
  show callable Tryd.prog 69 = _
  kernel_rfl
@[go_sem] theorem ca70 (gl : Nat → Option (Ty × C)) : callable (X0 gl).P 70 = true := by
  show callable Tryd.prog 70 = _
  kernel_rfl
@[go_sem] theorem ca71 (gl : Nat → Option (Ty × C)) : callable (X0 gl).P 71 = true := by
  show callable Tryd.prog 71 = _
  kernel_rfl
@[go_sem] theorem ca72 (gl : Nat → Option (Ty × C)) : callable (X0 gl).P 72 = true := by
  show callable Tryd.prog 72 = _
  kernel_rfl
@[go_sem] theorem ca73 (gl : Nat → Option (Ty × C)) : callable (X0 gl).P 73 = true := by
  show callable Tryd.prog 73 = _
  kernel_rfl
@[go_sem] theorem ca74 (gl : Nat → Option (Ty × C)) : callable (X0 gl).P 74 = true := by
  show callable Tryd.prog 74 = _
  kernel_rfl
@[go_sem] theorem ca75 (gl : Nat → Option (Ty × C)) : callable (X0 gl).P 75 = true := by
  show callable Tryd.prog 75 = _
  kernel_rfl
@[go_sem] theorem ca76 (gl : Nat → Option (Ty × C)) : callable (X0 gl).P 76 = true := by
  show callable Tryd.prog 76 = _
  kernel_rfl
@[go_sem] theorem ca77 (gl : Nat → Option (Ty × C)) : callable (X0 gl).P 77 = true := by
  show callable Tryd.prog 77 = _
  kernel_rfl
@[go_sem] theorem ca78 (gl : Nat → Option (Ty × C)) : callable (X0 gl).P 78 = true := by
  show callable Tryd.prog 78 = _
  kernel_rfl
@[go_sem] theorem ca79 (gl : Nat → Option (Ty × C)) : callable (X0 gl).P 79 = true := by
  show callable Tryd.prog 79 = _
  kernel_rfl
@[go_sem] theorem ca80 (gl : Nat → Option (Ty × C)) : callable (X0 gl).P 80 = true := by
  show callable Tryd.prog 80 = _
  kernel_rfl
@[go_sem] theorem ca81 (gl : Nat → Option (Ty × C)) : callable (X0 gl).P 81 = true := by
  show callable Tryd.prog 81 = _
  kernel_rfl
@[go_sem] theorem ca82 (gl : Nat → Option (Ty × C)) : callable (X0 gl).P 82 = true := by
  show callable Tryd.prog 82 = _
  kernel_rfl
@[go_sem] theorem ca83 (gl : Nat → Option (Ty × C)) : callable (X0 gl).P 83 = true := by
  show callable Tryd.prog 83 = _
  kernel_rfl
@[go_sem] theorem ca84 (gl : Nat → Option (Ty × C)) : callable (X0 gl).P 84 = true := by
  show callable Tryd.prog 84 = _
  kernel_rfl
@[go_sem] theorem ca85 (gl : Nat → Option (Ty × C)) : callable (X0 gl).P 85 = true := by
  show callable Tryd.prog 85 = _
  kernel_rfl
@[go_sem] theorem ca86 (gl : Nat → Option (Ty × C)) : callable (X0 gl).P 86 = true := by
  show callable Tryd.prog 86 = _
  kernel_rfl
@[go_sem] theorem ca87 (gl : Nat → Option (Ty × C)) : callable (X0 gl).P 87 = true := by
  show callable Tryd.prog 87 = _
  kernel_rfl
@[go_sem] theorem ca88 (gl : Nat → Option (Ty × C)) : callable (X0 gl).P 88 = true := by
  show callable Tryd.prog 88 = _
  kernel_rfl
@[go_sem] theorem ca111 (gl : Nat → Option (Ty × C)) : callable (X0 gl).P 111 = true := by
  show callable Tryd.prog 111 = _
  kernel_rfl
end Go.Proofs.YtgkdfggnlpojoaaDoor
