/-
  The facts of this program: its types, by their numbers.
  Conditions: none.
-/
import Derived.Test.YtkbkpgnngfemnaaGreatDoorEc
import Derived.Test.YtkbkpgnngfemnaaGreatDoorRows
set_option linter.all false
namespace Go.Proofs.YtkbkpgnngfemnaaGreatDoor
open Go Go.E
set_option maxRecDepth 100000
noncomputable def X0 (gl : Nat → Option (Ty × C)) : Cx := ⟨Tryz.prog, gl⟩
@[go_sem] theorem X0_gl (gl : Nat → Option (Ty × C)) : (X0 gl).gl = gl := rfl
theorem ok0 (gl : Nat → Option (Ty × C)) : allOk (X0 gl).P = true := by
  show allOk Tryz.prog = true
  kernel_rfl
theorem mo (gl : Nat → Option (Ty × C)) : (X0 gl).P.follows .mixedOrders = true := by
  show Tryz.prog.follows .mixedOrders = true
  kernel_rfl
@[go_sem] theorem ty0 (gl : Nat → Option (Ty × C)) : ty (X0 gl).P 0 = (.opq 1) := by
  show ty Tryz.prog 0 = _
  kernel_rfl
@[go_sem] theorem ty1 (gl : Nat → Option (Ty × C)) : ty (X0 gl).P 1 = .func := by
  show ty Tryz.prog 1 = _
  kernel_rfl
@[go_sem] theorem ty2 (gl : Nat → Option (Ty × C)) : ty (X0 gl).P 2 = (.int .i64) := by
  show ty Tryz.prog 2 = _
  kernel_rfl
@[go_sem] theorem ty3 (gl : Nat → Option (Ty × C)) : ty (X0 gl).P 3 = (.int .i64) := by
  show ty Tryz.prog 3 = _
  kernel_rfl
@[go_sem] theorem ty4 (gl : Nat → Option (Ty × C)) : ty (X0 gl).P 4 = .bool := by
  show ty Tryz.prog 4 = _
  kernel_rfl
@[go_sem] theorem ty5 (gl : Nat → Option (Ty × C)) : ty (X0 gl).P 5 = (.int .u8) := by
  show ty Tryz.prog 5 = _
  kernel_rfl
@[go_sem] theorem ty6 (gl : Nat → Option (Ty × C)) : ty (X0 gl).P 6 = (.int .u8) := by
  show ty Tryz.prog 6 = _
  kernel_rfl
@[go_sem] theorem ty7 (gl : Nat → Option (Ty × C)) : ty (X0 gl).P 7 = tBoundsError := by
  show ty Tryz.prog 7 = _
  kernel_rfl
@[go_sem] theorem ty8 (gl : Nat → Option (Ty × C)) : ty (X0 gl).P 8 = tBoundsError := by
  show ty Tryz.prog 8 = _
  kernel_rfl
@[go_sem] theorem ty9 (gl : Nat → Option (Ty × C)) : ty (X0 gl).P 9 = .str := by
  show ty Tryz.prog 9 = _
  kernel_rfl
@[go_sem] theorem ty10 (gl : Nat → Option (Ty × C)) : ty (X0 gl).P 10 = .str := by
  show ty Tryz.prog 10 = _
  kernel_rfl
@[go_sem] theorem ty11 (gl : Nat → Option (Ty × C)) : ty (X0 gl).P 11 = .str := by
  show ty Tryz.prog 11 = _
  kernel_rfl
@[go_sem] theorem ty12 (gl : Nat → Option (Ty × C)) : ty (X0 gl).P 12 = (.int .u64) := by
  show ty Tryz.prog 12 = _
  kernel_rfl
@[go_sem] theorem ty13 (gl : Nat → Option (Ty × C)) : ty (X0 gl).P 13 = tErrorAddressString := by
  show ty Tryz.prog 13 = _
  kernel_rfl
@[go_sem] theorem ty14 (gl : Nat → Option (Ty × C)) : ty (X0 gl).P 14 = tErrorAddressString := by
  show ty Tryz.prog 14 = _
  kernel_rfl
@[go_sem] theorem ty15 (gl : Nat → Option (Ty × C)) : ty (X0 gl).P 15 = .ptr := by
  show ty Tryz.prog 15 = _
  kernel_rfl
@[go_sem] theorem ty16 (gl : Nat → Option (Ty × C)) : ty (X0 gl).P 16 = .ptr := by
  show ty Tryz.prog 16 = _
  kernel_rfl
@[go_sem] theorem ty17 (gl : Nat → Option (Ty × C)) : ty (X0 gl).P 17 = .ptr := by
  show ty Tryz.prog 17 = _
  kernel_rfl
@[go_sem] theorem ty18 (gl : Nat → Option (Ty × C)) : ty (X0 gl).P 18 = tUnhashableTypeError := by
  show ty Tryz.prog 18 = _
  kernel_rfl
@[go_sem] theorem ty19 (gl : Nat → Option (Ty × C)) : ty (X0 gl).P 19 = tUnhashableTypeError := by
  show ty Tryz.prog 19 = _
  kernel_rfl
@[go_sem] theorem ty20 (gl : Nat → Option (Ty × C)) : ty (X0 gl).P 20 = .iface := by
  show ty Tryz.prog 20 = _
  kernel_rfl
@[go_sem] theorem ty21 (gl : Nat → Option (Ty × C)) : ty (X0 gl).P 21 = (.int .i32) := by
  show ty Tryz.prog 21 = _
  kernel_rfl
@[go_sem] theorem ty22 (gl : Nat → Option (Ty × C)) : ty (X0 gl).P 22 = .ptr := by
  show ty Tryz.prog 22 = _
  kernel_rfl
@[go_sem] theorem ty23 (gl : Nat → Option (Ty × C)) : ty (X0 gl).P 23 = (.slice 8 (.int .i64)) := by
  show ty Tryz.prog 23 = _
  kernel_rfl
@[go_sem] theorem ty24 (gl : Nat → Option (Ty × C)) : ty (X0 gl).P 24 = (.int .i64) := by
  show ty Tryz.prog 24 = _
  kernel_rfl
@[go_sem] theorem ty25 (gl : Nat → Option (Ty × C)) : ty (X0 gl).P 25 = (.opq 1) := by
  show ty Tryz.prog 25 = _
  kernel_rfl
@[go_sem] theorem ty26 (gl : Nat → Option (Ty × C)) : ty (X0 gl).P 26 = .func := by
  show ty Tryz.prog 26 = _
  kernel_rfl
@[go_sem] theorem ty27 (gl : Nat → Option (Ty × C)) : ty (X0 gl).P 27 = (.int .u32) := by
  show ty Tryz.prog 27 = _
  kernel_rfl
@[go_sem] theorem ty28 (gl : Nat → Option (Ty × C)) : ty (X0 gl).P 28 = (.arr 2 (.int .i64)) := by
  show ty Tryz.prog 28 = _
  kernel_rfl
@[go_sem] theorem ty29 (gl : Nat → Option (Ty × C)) : ty (X0 gl).P 29 = (.arr 32 (.int .u8)) := by
  show ty Tryz.prog 29 = _
  kernel_rfl
@[go_sem] theorem ty30 (gl : Nat → Option (Ty × C)) : ty (X0 gl).P 30 = (.arr 32 (.int .u8)) := by
  show ty Tryz.prog 30 = _
  kernel_rfl
@[go_sem] theorem ty31 (gl : Nat → Option (Ty × C)) : ty (X0 gl).P 31 = (.arr 2 (.arr 32 (.int .u8))) := by
  show ty Tryz.prog 31 = _
  kernel_rfl
@[go_sem] theorem ty32 (gl : Nat → Option (Ty × C)) : ty (X0 gl).P 32 = tRoots := by
  show ty Tryz.prog 32 = _
  kernel_rfl
@[go_sem] theorem ty33 (gl : Nat → Option (Ty × C)) : ty (X0 gl).P 33 = tRoots := by
  show ty Tryz.prog 33 = _
  kernel_rfl
@[go_sem] theorem ty34 (gl : Nat → Option (Ty × C)) : ty (X0 gl).P 34 = (.slice 1 (.int .u8)) := by
  show ty Tryz.prog 34 = _
  kernel_rfl
@[go_sem] theorem ty35 (gl : Nat → Option (Ty × C)) : ty (X0 gl).P 35 = (.int .u64) := by
  show ty Tryz.prog 35 = _
  kernel_rfl
@[go_sem] theorem ty36 (gl : Nat → Option (Ty × C)) : ty (X0 gl).P 36 = (.arr 2 (.int .u64)) := by
  show ty Tryz.prog 36 = _
  kernel_rfl
@[go_sem] theorem ty37 (gl : Nat → Option (Ty × C)) : ty (X0 gl).P 37 = (.slice 64 tCond) := by
  show ty Tryz.prog 37 = _
  kernel_rfl
@[go_sem] theorem ty38 (gl : Nat → Option (Ty × C)) : ty (X0 gl).P 38 = tState := by
  show ty Tryz.prog 38 = _
  kernel_rfl
@[go_sem] theorem ty39 (gl : Nat → Option (Ty × C)) : ty (X0 gl).P 39 = tState := by
  show ty Tryz.prog 39 = _
  kernel_rfl
@[go_sem] theorem ty40 (gl : Nat → Option (Ty × C)) : ty (X0 gl).P 40 = tBond := by
  show ty Tryz.prog 40 = _
  kernel_rfl
@[go_sem] theorem ty41 (gl : Nat → Option (Ty × C)) : ty (X0 gl).P 41 = tBond := by
  show ty Tryz.prog 41 = _
  kernel_rfl
@[go_sem] theorem ty42 (gl : Nat → Option (Ty × C)) : ty (X0 gl).P 42 = (.opq 1) := by
  show ty Tryz.prog 42 = _
  kernel_rfl
@[go_sem] theorem ty43 (gl : Nat → Option (Ty × C)) : ty (X0 gl).P 43 = .func := by
  show ty Tryz.prog 43 = _
  kernel_rfl
@[go_sem] theorem ty44 (gl : Nat → Option (Ty × C)) : ty (X0 gl).P 44 = .func := by
  show ty Tryz.prog 44 = _
  kernel_rfl
@[go_sem] theorem ty45 (gl : Nat → Option (Ty × C)) : ty (X0 gl).P 45 = .func := by
  show ty Tryz.prog 45 = _
  kernel_rfl
@[go_sem] theorem ty46 (gl : Nat → Option (Ty × C)) : ty (X0 gl).P 46 = (.arr 32 (.int .u8)) := by
  show ty Tryz.prog 46 = _
  kernel_rfl
@[go_sem] theorem ty47 (gl : Nat → Option (Ty × C)) : ty (X0 gl).P 47 = (.arr 16 (.int .u8)) := by
  show ty Tryz.prog 47 = _
  kernel_rfl
@[go_sem] theorem ty48 (gl : Nat → Option (Ty × C)) : ty (X0 gl).P 48 = (.arr 16 (.int .u8)) := by
  show ty Tryz.prog 48 = _
  kernel_rfl
@[go_sem] theorem ty49 (gl : Nat → Option (Ty × C)) : ty (X0 gl).P 49 = (.arr 32 (.arr 16 (.int .u8))) := by
  show ty Tryz.prog 49 = _
  kernel_rfl
@[go_sem] theorem ty50 (gl : Nat → Option (Ty × C)) : ty (X0 gl).P 50 = tSig := by
  show ty Tryz.prog 50 = _
  kernel_rfl
@[go_sem] theorem ty51 (gl : Nat → Option (Ty × C)) : ty (X0 gl).P 51 = tSig := by
  show ty Tryz.prog 51 = _
  kernel_rfl
@[go_sem] theorem ty52 (gl : Nat → Option (Ty × C)) : ty (X0 gl).P 52 = (.slice 32 (.arr 32 (.int .u8))) := by
  show ty Tryz.prog 52 = _
  kernel_rfl
@[go_sem] theorem ty53 (gl : Nat → Option (Ty × C)) : ty (X0 gl).P 53 = tSig2 := by
  show ty Tryz.prog 53 = _
  kernel_rfl
@[go_sem] theorem ty54 (gl : Nat → Option (Ty × C)) : ty (X0 gl).P 54 = tSig2 := by
  show ty Tryz.prog 54 = _
  kernel_rfl
@[go_sem] theorem ty55 (gl : Nat → Option (Ty × C)) : ty (X0 gl).P 55 = (.arr 2 tSig2) := by
  show ty Tryz.prog 55 = _
  kernel_rfl
@[go_sem] theorem ty56 (gl : Nat → Option (Ty × C)) : ty (X0 gl).P 56 = tDeed := by
  show ty Tryz.prog 56 = _
  kernel_rfl
@[go_sem] theorem ty57 (gl : Nat → Option (Ty × C)) : ty (X0 gl).P 57 = tDeed := by
  show ty Tryz.prog 57 = _
  kernel_rfl
@[go_sem] theorem ty58 (gl : Nat → Option (Ty × C)) : ty (X0 gl).P 58 = tTx := by
  show ty Tryz.prog 58 = _
  kernel_rfl
@[go_sem] theorem ty59 (gl : Nat → Option (Ty × C)) : ty (X0 gl).P 59 = tTx := by
  show ty Tryz.prog 59 = _
  kernel_rfl
@[go_sem] theorem ty60 (gl : Nat → Option (Ty × C)) : ty (X0 gl).P 60 = .func := by
  show ty Tryz.prog 60 = _
  kernel_rfl
@[go_sem] theorem ty61 (gl : Nat → Option (Ty × C)) : ty (X0 gl).P 61 = (.slice 2368 tTx) := by
  show ty Tryz.prog 61 = _
  kernel_rfl
@[go_sem] theorem ty62 (gl : Nat → Option (Ty × C)) : ty (X0 gl).P 62 = .func := by
  show ty Tryz.prog 62 = _
  kernel_rfl
@[go_sem] theorem ty63 (gl : Nat → Option (Ty × C)) : ty (X0 gl).P 63 = (.slice 40 tEvent) := by
  show ty Tryz.prog 63 = _
  kernel_rfl
@[go_sem] theorem ty64 (gl : Nat → Option (Ty × C)) : ty (X0 gl).P 64 = .func := by
  show ty Tryz.prog 64 = _
  kernel_rfl
@[go_sem] theorem ty65 (gl : Nat → Option (Ty × C)) : ty (X0 gl).P 65 = .func := by
  show ty Tryz.prog 65 = _
  kernel_rfl
@[go_sem] theorem ty66 (gl : Nat → Option (Ty × C)) : ty (X0 gl).P 66 = .func := by
  show ty Tryz.prog 66 = _
  kernel_rfl
@[go_sem] theorem ty67 (gl : Nat → Option (Ty × C)) : ty (X0 gl).P 67 = (.int .i64) := by
  show ty Tryz.prog 67 = _
  kernel_rfl
@[go_sem] theorem ty68 (gl : Nat → Option (Ty × C)) : ty (X0 gl).P 68 = .func := by
  show ty Tryz.prog 68 = _
  kernel_rfl
@[go_sem] theorem ty69 (gl : Nat → Option (Ty × C)) : ty (X0 gl).P 69 = (.int .i64) := by
  show ty Tryz.prog 69 = _
  kernel_rfl
@[go_sem] theorem ty70 (gl : Nat → Option (Ty × C)) : ty (X0 gl).P 70 = (.arr 32 (.int .u8)) := by
  show ty Tryz.prog 70 = _
  kernel_rfl
@[go_sem] theorem ty71 (gl : Nat → Option (Ty × C)) : ty (X0 gl).P 71 = tCond := by
  show ty Tryz.prog 71 = _
  kernel_rfl
@[go_sem] theorem ty72 (gl : Nat → Option (Ty × C)) : ty (X0 gl).P 72 = tCond := by
  show ty Tryz.prog 72 = _
  kernel_rfl
@[go_sem] theorem ty73 (gl : Nat → Option (Ty × C)) : ty (X0 gl).P 73 = .func := by
  show ty Tryz.prog 73 = _
  kernel_rfl
@[go_sem] theorem ty74 (gl : Nat → Option (Ty × C)) : ty (X0 gl).P 74 = (.slice 8 (.int .i64)) := by
  show ty Tryz.prog 74 = _
  kernel_rfl
@[go_sem] theorem ty75 (gl : Nat → Option (Ty × C)) : ty (X0 gl).P 75 = .ptr := by
  show ty Tryz.prog 75 = _
  kernel_rfl
@[go_sem] theorem ty76 (gl : Nat → Option (Ty × C)) : ty (X0 gl).P 76 = .ptr := by
  show ty Tryz.prog 76 = _
  kernel_rfl
@[go_sem] theorem ty77 (gl : Nat → Option (Ty × C)) : ty (X0 gl).P 77 = (.slice 240 tBond) := by
  show ty Tryz.prog 77 = _
  kernel_rfl
@[go_sem] theorem ty78 (gl : Nat → Option (Ty × C)) : ty (X0 gl).P 78 = tCourt := by
  show ty Tryz.prog 78 = _
  kernel_rfl
@[go_sem] theorem ty79 (gl : Nat → Option (Ty × C)) : ty (X0 gl).P 79 = tCourt := by
  show ty Tryz.prog 79 = _
  kernel_rfl
@[go_sem] theorem ty80 (gl : Nat → Option (Ty × C)) : ty (X0 gl).P 80 = .func := by
  show ty Tryz.prog 80 = _
  kernel_rfl
@[go_sem] theorem ty81 (gl : Nat → Option (Ty × C)) : ty (X0 gl).P 81 = .func := by
  show ty Tryz.prog 81 = _
  kernel_rfl
@[go_sem] theorem ty82 (gl : Nat → Option (Ty × C)) : ty (X0 gl).P 82 = (.opq 1) := by
  show ty Tryz.prog 82 = _
  kernel_rfl
@[go_sem] theorem ty83 (gl : Nat → Option (Ty × C)) : ty (X0 gl).P 83 = .func := by
  show ty Tryz.prog 83 = _
  kernel_rfl
@[go_sem] theorem ty84 (gl : Nat → Option (Ty × C)) : ty (X0 gl).P 84 = .func := by
  show ty Tryz.prog 84 = _
  kernel_rfl
@[go_sem] theorem ty85 (gl : Nat → Option (Ty × C)) : ty (X0 gl).P 85 = .func := by
  show ty Tryz.prog 85 = _
  kernel_rfl
@[go_sem] theorem ty86 (gl : Nat → Option (Ty × C)) : ty (X0 gl).P 86 = .func := by
  show ty Tryz.prog 86 = _
  kernel_rfl
@[go_sem] theorem ty87 (gl : Nat → Option (Ty × C)) : ty (X0 gl).P 87 = .func := by
  show ty Tryz.prog 87 = _
  kernel_rfl
@[go_sem] theorem ty88 (gl : Nat → Option (Ty × C)) : ty (X0 gl).P 88 = tEvent := by
  show ty Tryz.prog 88 = _
  kernel_rfl
@[go_sem] theorem ty89 (gl : Nat → Option (Ty × C)) : ty (X0 gl).P 89 = tEvent := by
  show ty Tryz.prog 89 = _
  kernel_rfl
@[go_sem] theorem ty90 (gl : Nat → Option (Ty × C)) : ty (X0 gl).P 90 = (.slice 8 (.int .u64)) := by
  show ty Tryz.prog 90 = _
  kernel_rfl
@[go_sem] theorem ty91 (gl : Nat → Option (Ty × C)) : ty (X0 gl).P 91 = (.opq 1) := by
  show ty Tryz.prog 91 = _
  kernel_rfl
@[go_sem] theorem ty92 (gl : Nat → Option (Ty × C)) : ty (X0 gl).P 92 = .func := by
  show ty Tryz.prog 92 = _
  kernel_rfl
@[go_sem] theorem ty93 (gl : Nat → Option (Ty × C)) : ty (X0 gl).P 93 = .func := by
  show ty Tryz.prog 93 = _
  kernel_rfl
@[go_sem] theorem ty94 (gl : Nat → Option (Ty × C)) : ty (X0 gl).P 94 = .func := by
  show ty Tryz.prog 94 = _
  kernel_rfl
@[go_sem] theorem ty95 (gl : Nat → Option (Ty × C)) : ty (X0 gl).P 95 = .func := by
  show ty Tryz.prog 95 = _
  kernel_rfl
@[go_sem] theorem ty96 (gl : Nat → Option (Ty × C)) : ty (X0 gl).P 96 = .func := by
  show ty Tryz.prog 96 = _
  kernel_rfl
@[go_sem] theorem ty97 (gl : Nat → Option (Ty × C)) : ty (X0 gl).P 97 = .func := by
  show ty Tryz.prog 97 = _
  kernel_rfl
@[go_sem] theorem ty98 (gl : Nat → Option (Ty × C)) : ty (X0 gl).P 98 = (.opq 1) := by
  show ty Tryz.prog 98 = _
  kernel_rfl
@[go_sem] theorem ty99 (gl : Nat → Option (Ty × C)) : ty (X0 gl).P 99 = .func := by
  show ty Tryz.prog 99 = _
  kernel_rfl
@[go_sem] theorem ty100 (gl : Nat → Option (Ty × C)) : ty (X0 gl).P 100 = tTill := by
  show ty Tryz.prog 100 = _
  kernel_rfl
@[go_sem] theorem ty101 (gl : Nat → Option (Ty × C)) : ty (X0 gl).P 101 = tTill := by
  show ty Tryz.prog 101 = _
  kernel_rfl
@[go_sem] theorem ty102 (gl : Nat → Option (Ty × C)) : ty (X0 gl).P 102 = .func := by
  show ty Tryz.prog 102 = _
  kernel_rfl
@[go_sem] theorem ty103 (gl : Nat → Option (Ty × C)) : ty (X0 gl).P 103 = .func := by
  show ty Tryz.prog 103 = _
  kernel_rfl
@[go_sem] theorem ty104 (gl : Nat → Option (Ty × C)) : ty (X0 gl).P 104 = .func := by
  show ty Tryz.prog 104 = _
  kernel_rfl
@[go_sem] theorem ty105 (gl : Nat → Option (Ty × C)) : ty (X0 gl).P 105 = .func := by
  show ty Tryz.prog 105 = _
  kernel_rfl
@[go_sem] theorem ty106 (gl : Nat → Option (Ty × C)) : ty (X0 gl).P 106 = .map := by
  show ty Tryz.prog 106 = _
  kernel_rfl
@[go_sem] theorem ty107 (gl : Nat → Option (Ty × C)) : ty (X0 gl).P 107 = tNotary2 := by
  show ty Tryz.prog 107 = _
  kernel_rfl
@[go_sem] theorem ty108 (gl : Nat → Option (Ty × C)) : ty (X0 gl).P 108 = tNotary2 := by
  show ty Tryz.prog 108 = _
  kernel_rfl
@[go_sem] theorem ty109 (gl : Nat → Option (Ty × C)) : ty (X0 gl).P 109 = .func := by
  show ty Tryz.prog 109 = _
  kernel_rfl
@[go_sem] theorem ty110 (gl : Nat → Option (Ty × C)) : ty (X0 gl).P 110 = .func := by
  show ty Tryz.prog 110 = _
  kernel_rfl
@[go_sem] theorem ty111 (gl : Nat → Option (Ty × C)) : ty (X0 gl).P 111 = .func := by
  show ty Tryz.prog 111 = _
  kernel_rfl
@[go_sem] theorem ty112 (gl : Nat → Option (Ty × C)) : ty (X0 gl).P 112 = .func := by
  show ty Tryz.prog 112 = _
  kernel_rfl
@[go_sem] theorem ty113 (gl : Nat → Option (Ty × C)) : ty (X0 gl).P 113 = .func := by
  show ty Tryz.prog 113 = _
  kernel_rfl
@[go_sem] theorem ty114 (gl : Nat → Option (Ty × C)) : ty (X0 gl).P 114 = (.opq 1) := by
  show ty Tryz.prog 114 = _
  kernel_rfl
@[go_sem] theorem ty115 (gl : Nat → Option (Ty × C)) : ty (X0 gl).P 115 = .func := by
  show ty Tryz.prog 115 = _
  kernel_rfl
@[go_sem] theorem ty116 (gl : Nat → Option (Ty × C)) : ty (X0 gl).P 116 = (.opq 1) := by
  show ty Tryz.prog 116 = _
  kernel_rfl
@[go_sem] theorem ty117 (gl : Nat → Option (Ty × C)) : ty (X0 gl).P 117 = .func := by
  show ty Tryz.prog 117 = _
  kernel_rfl
@[go_sem] theorem ty118 (gl : Nat → Option (Ty × C)) : ty (X0 gl).P 118 = .func := by
  show ty Tryz.prog 118 = _
  kernel_rfl
@[go_sem] theorem ty119 (gl : Nat → Option (Ty × C)) : ty (X0 gl).P 119 = tEntry2 := by
  show ty Tryz.prog 119 = _
  kernel_rfl
@[go_sem] theorem ty120 (gl : Nat → Option (Ty × C)) : ty (X0 gl).P 120 = tEntry2 := by
  show ty Tryz.prog 120 = _
  kernel_rfl
@[go_sem] theorem ty121 (gl : Nat → Option (Ty × C)) : ty (X0 gl).P 121 = (.opq 1) := by
  show ty Tryz.prog 121 = _
  kernel_rfl
@[go_sem] theorem ty122 (gl : Nat → Option (Ty × C)) : ty (X0 gl).P 122 = (.opq 1) := by
  show ty Tryz.prog 122 = _
  kernel_rfl
@[go_sem] theorem ty123 (gl : Nat → Option (Ty × C)) : ty (X0 gl).P 123 = .func := by
  show ty Tryz.prog 123 = _
  kernel_rfl
@[go_sem] theorem ty124 (gl : Nat → Option (Ty × C)) : ty (X0 gl).P 124 = .func := by
  show ty Tryz.prog 124 = _
  kernel_rfl
@[go_sem] theorem ty125 (gl : Nat → Option (Ty × C)) : ty (X0 gl).P 125 = (.opq 1) := by
  show ty Tryz.prog 125 = _
  kernel_rfl
@[go_sem] theorem ty126 (gl : Nat → Option (Ty × C)) : ty (X0 gl).P 126 = .func := by
  show ty Tryz.prog 126 = _
  kernel_rfl
@[go_sem] theorem ty127 (gl : Nat → Option (Ty × C)) : ty (X0 gl).P 127 = .func := by
  show ty Tryz.prog 127 = _
  kernel_rfl
@[go_sem] theorem ty128 (gl : Nat → Option (Ty × C)) : ty (X0 gl).P 128 = (.opq 1) := by
  show ty Tryz.prog 128 = _
  kernel_rfl
@[go_sem] theorem ty129 (gl : Nat → Option (Ty × C)) : ty (X0 gl).P 129 = .func := by
  show ty Tryz.prog 129 = _
  kernel_rfl
@[go_sem] theorem ty130 (gl : Nat → Option (Ty × C)) : ty (X0 gl).P 130 = .func := by
  show ty Tryz.prog 130 = _
  kernel_rfl
@[go_sem] theorem ty131 (gl : Nat → Option (Ty × C)) : ty (X0 gl).P 131 = .func := by
  show ty Tryz.prog 131 = _
  kernel_rfl
@[go_sem] theorem ty132 (gl : Nat → Option (Ty × C)) : ty (X0 gl).P 132 = .func := by
  show ty Tryz.prog 132 = _
  kernel_rfl
@[go_sem] theorem ty133 (gl : Nat → Option (Ty × C)) : ty (X0 gl).P 133 = .func := by
  show ty Tryz.prog 133 = _
  kernel_rfl
@[go_sem] theorem ty134 (gl : Nat → Option (Ty × C)) : ty (X0 gl).P 134 = (.opq 1) := by
  show ty Tryz.prog 134 = _
  kernel_rfl
@[go_sem] theorem ty135 (gl : Nat → Option (Ty × C)) : ty (X0 gl).P 135 = .func := by
  show ty Tryz.prog 135 = _
  kernel_rfl
@[go_sem] theorem ty136 (gl : Nat → Option (Ty × C)) : ty (X0 gl).P 136 = .func := by
  show ty Tryz.prog 136 = _
  kernel_rfl
@[go_sem] theorem ty137 (gl : Nat → Option (Ty × C)) : ty (X0 gl).P 137 = .func := by
  show ty Tryz.prog 137 = _
  kernel_rfl
@[go_sem] theorem ty138 (gl : Nat → Option (Ty × C)) : ty (X0 gl).P 138 = (.slice 24 (.slice 1 (.int .u8))) := by
  show ty Tryz.prog 138 = _
  kernel_rfl
@[go_sem] theorem ty139 (gl : Nat → Option (Ty × C)) : ty (X0 gl).P 139 = .ptr := by
  show ty Tryz.prog 139 = _
  kernel_rfl
@[go_sem] theorem ty140 (gl : Nat → Option (Ty × C)) : ty (X0 gl).P 140 = .func := by
  show ty Tryz.prog 140 = _
  kernel_rfl
@[go_sem] theorem ty141 (gl : Nat → Option (Ty × C)) : ty (X0 gl).P 141 = .func := by
  show ty Tryz.prog 141 = _
  kernel_rfl
@[go_sem] theorem ty142 (gl : Nat → Option (Ty × C)) : ty (X0 gl).P 142 = .func := by
  show ty Tryz.prog 142 = _
  kernel_rfl
@[go_sem] theorem ty143 (gl : Nat → Option (Ty × C)) : ty (X0 gl).P 143 = .func := by
  show ty Tryz.prog 143 = _
  kernel_rfl
@[go_sem] theorem ty144 (gl : Nat → Option (Ty × C)) : ty (X0 gl).P 144 = .map := by
  show ty Tryz.prog 144 = _
  kernel_rfl
@[go_sem] theorem ty145 (gl : Nat → Option (Ty × C)) : ty (X0 gl).P 145 = (.opq 1) := by
  show ty Tryz.prog 145 = _
  kernel_rfl
@[go_sem] theorem ty146 (gl : Nat → Option (Ty × C)) : ty (X0 gl).P 146 = .func := by
  show ty Tryz.prog 146 = _
  kernel_rfl
@[go_sem] theorem ty147 (gl : Nat → Option (Ty × C)) : ty (X0 gl).P 147 = (.slice 1 .bool) := by
  show ty Tryz.prog 147 = _
  kernel_rfl
@[go_sem] theorem ty148 (gl : Nat → Option (Ty × C)) : ty (X0 gl).P 148 = (.slice 8 (.int .i64)) := by
  show ty Tryz.prog 148 = _
  kernel_rfl
@[go_sem] theorem ty149 (gl : Nat → Option (Ty × C)) : ty (X0 gl).P 149 = .func := by
  show ty Tryz.prog 149 = _
  kernel_rfl
@[go_sem] theorem ty150 (gl : Nat → Option (Ty × C)) : ty (X0 gl).P 150 = (.opq 1) := by
  show ty Tryz.prog 150 = _
  kernel_rfl
@[go_sem] theorem ty151 (gl : Nat → Option (Ty × C)) : ty (X0 gl).P 151 = .func := by
  show ty Tryz.prog 151 = _
  kernel_rfl
@[go_sem] theorem ty152 (gl : Nat → Option (Ty × C)) : ty (X0 gl).P 152 = .func := by
  show ty Tryz.prog 152 = _
  kernel_rfl
@[go_sem] theorem ty153 (gl : Nat → Option (Ty × C)) : ty (X0 gl).P 153 = .func := by
  show ty Tryz.prog 153 = _
  kernel_rfl
@[go_sem] theorem ty154 (gl : Nat → Option (Ty × C)) : ty (X0 gl).P 154 = (.opq 1) := by
  show ty Tryz.prog 154 = _
  kernel_rfl
@[go_sem] theorem ty155 (gl : Nat → Option (Ty × C)) : ty (X0 gl).P 155 = .func := by
  show ty Tryz.prog 155 = _
  kernel_rfl
@[go_sem] theorem ty156 (gl : Nat → Option (Ty × C)) : ty (X0 gl).P 156 = tWorld := by
  show ty Tryz.prog 156 = _
  kernel_rfl
@[go_sem] theorem ty157 (gl : Nat → Option (Ty × C)) : ty (X0 gl).P 157 = tWorld := by
  show ty Tryz.prog 157 = _
  kernel_rfl
@[go_sem] theorem ty158 (gl : Nat → Option (Ty × C)) : ty (X0 gl).P 158 = (.arr 8 (.int .u32)) := by
  show ty Tryz.prog 158 = _
  kernel_rfl
@[go_sem] theorem ty159 (gl : Nat → Option (Ty × C)) : ty (X0 gl).P 159 = (.arr 64 (.int .u8)) := by
  show ty Tryz.prog 159 = _
  kernel_rfl
@[go_sem] theorem ty160 (gl : Nat → Option (Ty × C)) : ty (X0 gl).P 160 = tMill := by
  show ty Tryz.prog 160 = _
  kernel_rfl
@[go_sem] theorem ty161 (gl : Nat → Option (Ty × C)) : ty (X0 gl).P 161 = tMill := by
  show ty Tryz.prog 161 = _
  kernel_rfl
@[go_sem] theorem ty162 (gl : Nat → Option (Ty × C)) : ty (X0 gl).P 162 = .func := by
  show ty Tryz.prog 162 = _
  kernel_rfl
@[go_sem] theorem ty163 (gl : Nat → Option (Ty × C)) : ty (X0 gl).P 163 = (.int .u64) := by
  show ty Tryz.prog 163 = _
  kernel_rfl
@[go_sem] theorem ty164 (gl : Nat → Option (Ty × C)) : ty (X0 gl).P 164 = tForm := by
  show ty Tryz.prog 164 = _
  kernel_rfl
@[go_sem] theorem ty165 (gl : Nat → Option (Ty × C)) : ty (X0 gl).P 165 = tForm := by
  show ty Tryz.prog 165 = _
  kernel_rfl
@[go_sem] theorem ty166 (gl : Nat → Option (Ty × C)) : ty (X0 gl).P 166 = (.arr 18 tForm) := by
  show ty Tryz.prog 166 = _
  kernel_rfl
@[go_sem] theorem ty167 (gl : Nat → Option (Ty × C)) : ty (X0 gl).P 167 = .func := by
  show ty Tryz.prog 167 = _
  kernel_rfl
@[go_sem] theorem ty168 (gl : Nat → Option (Ty × C)) : ty (X0 gl).P 168 = .func := by
  show ty Tryz.prog 168 = _
  kernel_rfl
@[go_sem] theorem ty169 (gl : Nat → Option (Ty × C)) : ty (X0 gl).P 169 = .func := by
  show ty Tryz.prog 169 = _
  kernel_rfl
@[go_sem] theorem ty170 (gl : Nat → Option (Ty × C)) : ty (X0 gl).P 170 = .func := by
  show ty Tryz.prog 170 = _
  kernel_rfl
@[go_sem] theorem ty171 (gl : Nat → Option (Ty × C)) : ty (X0 gl).P 171 = .func := by
  show ty Tryz.prog 171 = _
  kernel_rfl
@[go_sem] theorem ty172 (gl : Nat → Option (Ty × C)) : ty (X0 gl).P 172 = (.arr 2 (.int .i64)) := by
  show ty Tryz.prog 172 = _
  kernel_rfl
@[go_sem] theorem ty173 (gl : Nat → Option (Ty × C)) : ty (X0 gl).P 173 = .ptr := by
  show ty Tryz.prog 173 = _
  kernel_rfl
@[go_sem] theorem ty174 (gl : Nat → Option (Ty × C)) : ty (X0 gl).P 174 = tStack := by
  show ty Tryz.prog 174 = _
  kernel_rfl
@[go_sem] theorem ty175 (gl : Nat → Option (Ty × C)) : ty (X0 gl).P 175 = tStack := by
  show ty Tryz.prog 175 = _
  kernel_rfl
@[go_sem] theorem ty176 (gl : Nat → Option (Ty × C)) : ty (X0 gl).P 176 = .func := by
  show ty Tryz.prog 176 = _
  kernel_rfl
@[go_sem] theorem ty177 (gl : Nat → Option (Ty × C)) : ty (X0 gl).P 177 = .func := by
  show ty Tryz.prog 177 = _
  kernel_rfl
@[go_sem] theorem ty178 (gl : Nat → Option (Ty × C)) : ty (X0 gl).P 178 = .func := by
  show ty Tryz.prog 178 = _
  kernel_rfl
@[go_sem] theorem ty179 (gl : Nat → Option (Ty × C)) : ty (X0 gl).P 179 = .func := by
  show ty Tryz.prog 179 = _
  kernel_rfl
@[go_sem] theorem ty180 (gl : Nat → Option (Ty × C)) : ty (X0 gl).P 180 = .func := by
  show ty Tryz.prog 180 = _
  kernel_rfl
@[go_sem] theorem ty181 (gl : Nat → Option (Ty × C)) : ty (X0 gl).P 181 = .func := by
  show ty Tryz.prog 181 = _
  kernel_rfl
@[go_sem] theorem ty182 (gl : Nat → Option (Ty × C)) : ty (X0 gl).P 182 = .func := by
  show ty Tryz.prog 182 = _
  kernel_rfl
@[go_sem] theorem ty183 (gl : Nat → Option (Ty × C)) : ty (X0 gl).P 183 = .func := by
  show ty Tryz.prog 183 = _
  kernel_rfl
@[go_sem] theorem ty184 (gl : Nat → Option (Ty × C)) : ty (X0 gl).P 184 = .func := by
  show ty Tryz.prog 184 = _
  kernel_rfl
@[go_sem] theorem ty185 (gl : Nat → Option (Ty × C)) : ty (X0 gl).P 185 = .func := by
  show ty Tryz.prog 185 = _
  kernel_rfl
@[go_sem] theorem ty186 (gl : Nat → Option (Ty × C)) : ty (X0 gl).P 186 = .func := by
  show ty Tryz.prog 186 = _
  kernel_rfl
@[go_sem] theorem ty187 (gl : Nat → Option (Ty × C)) : ty (X0 gl).P 187 = .func := by
  show ty Tryz.prog 187 = _
  kernel_rfl
@[go_sem] theorem ty188 (gl : Nat → Option (Ty × C)) : ty (X0 gl).P 188 = .func := by
  show ty Tryz.prog 188 = _
  kernel_rfl
@[go_sem] theorem ty189 (gl : Nat → Option (Ty × C)) : ty (X0 gl).P 189 = (.arr 16 (.int .u32)) := by
  show ty Tryz.prog 189 = _
  kernel_rfl
@[go_sem] theorem ty190 (gl : Nat → Option (Ty × C)) : ty (X0 gl).P 190 = .func := by
  show ty Tryz.prog 190 = _
  kernel_rfl
@[go_sem] theorem ty191 (gl : Nat → Option (Ty × C)) : ty (X0 gl).P 191 = (.arr 64 (.int .u32)) := by
  show ty Tryz.prog 191 = _
  kernel_rfl
@[go_sem] theorem ty192 (gl : Nat → Option (Ty × C)) : ty (X0 gl).P 192 = .func := by
  show ty Tryz.prog 192 = _
  kernel_rfl
@[go_sem] theorem ty193 (gl : Nat → Option (Ty × C)) : ty (X0 gl).P 193 = .func := by
  show ty Tryz.prog 193 = _
  kernel_rfl
@[go_sem] theorem ty194 (gl : Nat → Option (Ty × C)) : ty (X0 gl).P 194 = .func := by
  show ty Tryz.prog 194 = _
  kernel_rfl
@[go_sem] theorem ty195 (gl : Nat → Option (Ty × C)) : ty (X0 gl).P 195 = .func := by
  show ty Tryz.prog 195 = _
  kernel_rfl
@[go_sem] theorem ty196 (gl : Nat → Option (Ty × C)) : ty (X0 gl).P 196 = (.slice 1 (.int .u8)) := by
  show ty Tryz.prog 196 = _
  kernel_rfl
@[go_sem] theorem ty197 (gl : Nat → Option (Ty × C)) : ty (X0 gl).P 197 = .func := by
  show ty Tryz.prog 197 = _
  kernel_rfl
@[go_sem] theorem ty198 (gl : Nat → Option (Ty × C)) : ty (X0 gl).P 198 = .func := by
  show ty Tryz.prog 198 = _
  kernel_rfl
@[go_sem] theorem ty199 (gl : Nat → Option (Ty × C)) : ty (X0 gl).P 199 = .func := by
  show ty Tryz.prog 199 = _
  kernel_rfl
@[go_sem] theorem ty200 (gl : Nat → Option (Ty × C)) : ty (X0 gl).P 200 = .func := by
  show ty Tryz.prog 200 = _
  kernel_rfl
@[go_sem] theorem ty201 (gl : Nat → Option (Ty × C)) : ty (X0 gl).P 201 = (.arr 2 (.arr 16 (.int .u8))) := by
  show ty Tryz.prog 201 = _
  kernel_rfl
@[go_sem] theorem ty202 (gl : Nat → Option (Ty × C)) : ty (X0 gl).P 202 = (.arr 32 (.arr 2 (.arr 16 (.int .u8)))) := by
  show ty Tryz.prog 202 = _
  kernel_rfl
@[go_sem] theorem ty203 (gl : Nat → Option (Ty × C)) : ty (X0 gl).P 203 = .func := by
  show ty Tryz.prog 203 = _
  kernel_rfl
@[go_sem] theorem ty204 (gl : Nat → Option (Ty × C)) : ty (X0 gl).P 204 = .func := by
  show ty Tryz.prog 204 = _
  kernel_rfl
@[go_sem] theorem ty205 (gl : Nat → Option (Ty × C)) : ty (X0 gl).P 205 = .func := by
  show ty Tryz.prog 205 = _
  kernel_rfl
@[go_sem] theorem ty206 (gl : Nat → Option (Ty × C)) : ty (X0 gl).P 206 = (.slice 4 (.int .u32)) := by
  show ty Tryz.prog 206 = _
  kernel_rfl
@[go_sem] theorem ty207 (gl : Nat → Option (Ty × C)) : ty (X0 gl).P 207 = .func := by
  show ty Tryz.prog 207 = _
  kernel_rfl
@[go_sem] theorem ty208 (gl : Nat → Option (Ty × C)) : ty (X0 gl).P 208 = .func := by
  show ty Tryz.prog 208 = _
  kernel_rfl
@[go_sem] theorem ty209 (gl : Nat → Option (Ty × C)) : ty (X0 gl).P 209 = .func := by
  show ty Tryz.prog 209 = _
  kernel_rfl
@[go_sem] theorem ty210 (gl : Nat → Option (Ty × C)) : ty (X0 gl).P 210 = .func := by
  show ty Tryz.prog 210 = _
  kernel_rfl
@[go_sem] theorem ty211 (gl : Nat → Option (Ty × C)) : ty (X0 gl).P 211 = .func := by
  show ty Tryz.prog 211 = _
  kernel_rfl
@[go_sem] theorem ty212 (gl : Nat → Option (Ty × C)) : ty (X0 gl).P 212 = .func := by
  show ty Tryz.prog 212 = _
  kernel_rfl
@[go_sem] theorem ty213 (gl : Nat → Option (Ty × C)) : ty (X0 gl).P 213 = tTypeAssertionError := by
  show ty Tryz.prog 213 = _
  kernel_rfl
@[go_sem] theorem ty214 (gl : Nat → Option (Ty × C)) : ty (X0 gl).P 214 = tTypeAssertionError := by
  show ty Tryz.prog 214 = _
  kernel_rfl
@[go_sem] theorem ty215 (gl : Nat → Option (Ty × C)) : ty (X0 gl).P 215 = (.arr 0 .ptr) := by
  show ty Tryz.prog 215 = _
  kernel_rfl
@[go_sem] theorem ty216 (gl : Nat → Option (Ty × C)) : ty (X0 gl).P 216 = tPanicNilError := by
  show ty Tryz.prog 216 = _
  kernel_rfl
@[go_sem] theorem ty217 (gl : Nat → Option (Ty × C)) : ty (X0 gl).P 217 = tPanicNilError := by
  show ty Tryz.prog 217 = _
  kernel_rfl
@[go_sem] theorem ty218 (gl : Nat → Option (Ty × C)) : ty (X0 gl).P 218 = (.int .u8) := by
  show ty Tryz.prog 218 = _
  kernel_rfl
@[go_sem] theorem ty219 (gl : Nat → Option (Ty × C)) : ty (X0 gl).P 219 = (.int .u8) := by
  show ty Tryz.prog 219 = _
  kernel_rfl
@[go_sem] theorem ty220 (gl : Nat → Option (Ty × C)) : ty (X0 gl).P 220 = .func := by
  show ty Tryz.prog 220 = _
  kernel_rfl
@[go_sem] theorem ty221 (gl : Nat → Option (Ty × C)) : ty (X0 gl).P 221 = .ptr := by
  show ty Tryz.prog 221 = _
  kernel_rfl
@[go_sem] theorem ty222 (gl : Nat → Option (Ty × C)) : ty (X0 gl).P 222 = (.int .i32) := by
  show ty Tryz.prog 222 = _
  kernel_rfl
@[go_sem] theorem ty223 (gl : Nat → Option (Ty × C)) : ty (X0 gl).P 223 = (.int .i32) := by
  show ty Tryz.prog 223 = _
  kernel_rfl
@[go_sem] theorem ty224 (gl : Nat → Option (Ty × C)) : ty (X0 gl).P 224 = tType := by
  show ty Tryz.prog 224 = _
  kernel_rfl
@[go_sem] theorem ty225 (gl : Nat → Option (Ty × C)) : ty (X0 gl).P 225 = tType := by
  show ty Tryz.prog 225 = _
  kernel_rfl
@[go_sem] theorem ty226 (gl : Nat → Option (Ty × C)) : ty (X0 gl).P 226 = .func := by
  show ty Tryz.prog 226 = _
  kernel_rfl
@[go_sem] theorem ty227 (gl : Nat → Option (Ty × C)) : ty (X0 gl).P 227 = (.opq 1) := by
  show ty Tryz.prog 227 = _
  kernel_rfl
@[go_sem] theorem zb2 (gl : Nat → Option (Ty × C)) : zeroB (X0 gl).P 2 = true := by
  show zeroB Tryz.prog 2 = _
  kernel_rfl
@[go_sem] theorem eq2 (gl : Nat → Option (Ty × C)) : eqOk (X0 gl).P 2 = true := by
  show eqOk Tryz.prog 2 = _
  kernel_rfl
@[go_sem] theorem zb3 (gl : Nat → Option (Ty × C)) : zeroB (X0 gl).P 3 = true := by
  show zeroB Tryz.prog 3 = _
  kernel_rfl
@[go_sem] theorem eq3 (gl : Nat → Option (Ty × C)) : eqOk (X0 gl).P 3 = true := by
  show eqOk Tryz.prog 3 = _
  kernel_rfl
@[go_sem] theorem zb4 (gl : Nat → Option (Ty × C)) : zeroB (X0 gl).P 4 = true := by
  show zeroB Tryz.prog 4 = _
  kernel_rfl
@[go_sem] theorem eq4 (gl : Nat → Option (Ty × C)) : eqOk (X0 gl).P 4 = true := by
  show eqOk Tryz.prog 4 = _
  kernel_rfl
@[go_sem] theorem zb5 (gl : Nat → Option (Ty × C)) : zeroB (X0 gl).P 5 = true := by
  show zeroB Tryz.prog 5 = _
  kernel_rfl
@[go_sem] theorem eq5 (gl : Nat → Option (Ty × C)) : eqOk (X0 gl).P 5 = true := by
  show eqOk Tryz.prog 5 = _
  kernel_rfl
@[go_sem] theorem zb6 (gl : Nat → Option (Ty × C)) : zeroB (X0 gl).P 6 = true := by
  show zeroB Tryz.prog 6 = _
  kernel_rfl
@[go_sem] theorem eq6 (gl : Nat → Option (Ty × C)) : eqOk (X0 gl).P 6 = true := by
  show eqOk Tryz.prog 6 = _
  kernel_rfl
@[go_sem] theorem zb7 (gl : Nat → Option (Ty × C)) : zeroB (X0 gl).P 7 = true := by
  show zeroB Tryz.prog 7 = _
  kernel_rfl
@[go_sem] theorem eq7 (gl : Nat → Option (Ty × C)) : eqOk (X0 gl).P 7 = true := by
  show eqOk Tryz.prog 7 = _
  kernel_rfl
@[go_sem] theorem zb8 (gl : Nat → Option (Ty × C)) : zeroB (X0 gl).P 8 = true := by
  show zeroB Tryz.prog 8 = _
  kernel_rfl
@[go_sem] theorem eq8 (gl : Nat → Option (Ty × C)) : eqOk (X0 gl).P 8 = true := by
  show eqOk Tryz.prog 8 = _
  kernel_rfl
@[go_sem] theorem zb9 (gl : Nat → Option (Ty × C)) : zeroB (X0 gl).P 9 = true := by
  show zeroB Tryz.prog 9 = _
  kernel_rfl
@[go_sem] theorem eq9 (gl : Nat → Option (Ty × C)) : eqOk (X0 gl).P 9 = true := by
  show eqOk Tryz.prog 9 = _
  kernel_rfl
@[go_sem] theorem zb10 (gl : Nat → Option (Ty × C)) : zeroB (X0 gl).P 10 = true := by
  show zeroB Tryz.prog 10 = _
  kernel_rfl
@[go_sem] theorem eq10 (gl : Nat → Option (Ty × C)) : eqOk (X0 gl).P 10 = true := by
  show eqOk Tryz.prog 10 = _
  kernel_rfl
@[go_sem] theorem zb11 (gl : Nat → Option (Ty × C)) : zeroB (X0 gl).P 11 = true := by
  show zeroB Tryz.prog 11 = _
  kernel_rfl
@[go_sem] theorem eq11 (gl : Nat → Option (Ty × C)) : eqOk (X0 gl).P 11 = true := by
  show eqOk Tryz.prog 11 = _
  kernel_rfl
@[go_sem] theorem zb12 (gl : Nat → Option (Ty × C)) : zeroB (X0 gl).P 12 = true := by
  show zeroB Tryz.prog 12 = _
  kernel_rfl
@[go_sem] theorem eq12 (gl : Nat → Option (Ty × C)) : eqOk (X0 gl).P 12 = true := by
  show eqOk Tryz.prog 12 = _
  kernel_rfl
@[go_sem] theorem zb13 (gl : Nat → Option (Ty × C)) : zeroB (X0 gl).P 13 = true := by
  show zeroB Tryz.prog 13 = _
  kernel_rfl
@[go_sem] theorem zb14 (gl : Nat → Option (Ty × C)) : zeroB (X0 gl).P 14 = true := by
  show zeroB Tryz.prog 14 = _
  kernel_rfl
@[go_sem] theorem zb15 (gl : Nat → Option (Ty × C)) : zeroB (X0 gl).P 15 = true := by
  show zeroB Tryz.prog 15 = _
  kernel_rfl
@[go_sem] theorem zb16 (gl : Nat → Option (Ty × C)) : zeroB (X0 gl).P 16 = true := by
  show zeroB Tryz.prog 16 = _
  kernel_rfl
@[go_sem] theorem zb17 (gl : Nat → Option (Ty × C)) : zeroB (X0 gl).P 17 = true := by
  show zeroB Tryz.prog 17 = _
  kernel_rfl
@[go_sem] theorem zb18 (gl : Nat → Option (Ty × C)) : zeroB (X0 gl).P 18 = true := by
  show zeroB Tryz.prog 18 = _
  kernel_rfl
@[go_sem] theorem zb19 (gl : Nat → Option (Ty × C)) : zeroB (X0 gl).P 19 = true := by
  show zeroB Tryz.prog 19 = _
  kernel_rfl
@[go_sem] theorem zb20 (gl : Nat → Option (Ty × C)) : zeroB (X0 gl).P 20 = true := by
  show zeroB Tryz.prog 20 = _
  kernel_rfl
@[go_sem] theorem zb21 (gl : Nat → Option (Ty × C)) : zeroB (X0 gl).P 21 = true := by
  show zeroB Tryz.prog 21 = _
  kernel_rfl
@[go_sem] theorem eq21 (gl : Nat → Option (Ty × C)) : eqOk (X0 gl).P 21 = true := by
  show eqOk Tryz.prog 21 = _
  kernel_rfl
@[go_sem] theorem zb22 (gl : Nat → Option (Ty × C)) : zeroB (X0 gl).P 22 = true := by
  show zeroB Tryz.prog 22 = _
  kernel_rfl
@[go_sem] theorem zb23 (gl : Nat → Option (Ty × C)) : zeroB (X0 gl).P 23 = true := by
  show zeroB Tryz.prog 23 = _
  kernel_rfl
@[go_sem] theorem el23 (gl : Nat → Option (Ty × C)) : elemT (X0 gl).P 23 = 24 := by
  show elemT Tryz.prog 23 = _
  kernel_rfl
@[go_sem] theorem zb24 (gl : Nat → Option (Ty × C)) : zeroB (X0 gl).P 24 = true := by
  show zeroB Tryz.prog 24 = _
  kernel_rfl
@[go_sem] theorem eq24 (gl : Nat → Option (Ty × C)) : eqOk (X0 gl).P 24 = true := by
  show eqOk Tryz.prog 24 = _
  kernel_rfl
@[go_sem] theorem zb27 (gl : Nat → Option (Ty × C)) : zeroB (X0 gl).P 27 = true := by
  show zeroB Tryz.prog 27 = _
  kernel_rfl
@[go_sem] theorem eq27 (gl : Nat → Option (Ty × C)) : eqOk (X0 gl).P 27 = true := by
  show eqOk Tryz.prog 27 = _
  kernel_rfl
@[go_sem] theorem zb28 (gl : Nat → Option (Ty × C)) : zeroB (X0 gl).P 28 = true := by
  show zeroB Tryz.prog 28 = _
  kernel_rfl
@[go_sem] theorem eq28 (gl : Nat → Option (Ty × C)) : eqOk (X0 gl).P 28 = true := by
  show eqOk Tryz.prog 28 = _
  kernel_rfl
@[go_sem] theorem zb29 (gl : Nat → Option (Ty × C)) : zeroB (X0 gl).P 29 = true := by
  show zeroB Tryz.prog 29 = _
  kernel_rfl
@[go_sem] theorem eq29 (gl : Nat → Option (Ty × C)) : eqOk (X0 gl).P 29 = true := by
  show eqOk Tryz.prog 29 = _
  kernel_rfl
@[go_sem] theorem zb30 (gl : Nat → Option (Ty × C)) : zeroB (X0 gl).P 30 = true := by
  show zeroB Tryz.prog 30 = _
  kernel_rfl
@[go_sem] theorem eq30 (gl : Nat → Option (Ty × C)) : eqOk (X0 gl).P 30 = true := by
  show eqOk Tryz.prog 30 = _
  kernel_rfl
@[go_sem] theorem zb31 (gl : Nat → Option (Ty × C)) : zeroB (X0 gl).P 31 = true := by
  show zeroB Tryz.prog 31 = _
  kernel_rfl
@[go_sem] theorem eq31 (gl : Nat → Option (Ty × C)) : eqOk (X0 gl).P 31 = true := by
  show eqOk Tryz.prog 31 = _
  kernel_rfl
@[go_sem] theorem zb32 (gl : Nat → Option (Ty × C)) : zeroB (X0 gl).P 32 = true := by
  show zeroB Tryz.prog 32 = _
  kernel_rfl
@[go_sem] theorem eq32 (gl : Nat → Option (Ty × C)) : eqOk (X0 gl).P 32 = true := by
  show eqOk Tryz.prog 32 = _
  kernel_rfl
@[go_sem] theorem zb33 (gl : Nat → Option (Ty × C)) : zeroB (X0 gl).P 33 = true := by
  show zeroB Tryz.prog 33 = _
  kernel_rfl
@[go_sem] theorem eq33 (gl : Nat → Option (Ty × C)) : eqOk (X0 gl).P 33 = true := by
  show eqOk Tryz.prog 33 = _
  kernel_rfl
@[go_sem] theorem zb34 (gl : Nat → Option (Ty × C)) : zeroB (X0 gl).P 34 = true := by
  show zeroB Tryz.prog 34 = _
  kernel_rfl
@[go_sem] theorem el34 (gl : Nat → Option (Ty × C)) : elemT (X0 gl).P 34 = 5 := by
  show elemT Tryz.prog 34 = _
  kernel_rfl
@[go_sem] theorem zb35 (gl : Nat → Option (Ty × C)) : zeroB (X0 gl).P 35 = true := by
  show zeroB Tryz.prog 35 = _
  kernel_rfl
@[go_sem] theorem eq35 (gl : Nat → Option (Ty × C)) : eqOk (X0 gl).P 35 = true := by
  show eqOk Tryz.prog 35 = _
  kernel_rfl
@[go_sem] theorem zb36 (gl : Nat → Option (Ty × C)) : zeroB (X0 gl).P 36 = true := by
  show zeroB Tryz.prog 36 = _
  kernel_rfl
@[go_sem] theorem eq36 (gl : Nat → Option (Ty × C)) : eqOk (X0 gl).P 36 = true := by
  show eqOk Tryz.prog 36 = _
  kernel_rfl
@[go_sem] theorem zb37 (gl : Nat → Option (Ty × C)) : zeroB (X0 gl).P 37 = true := by
  show zeroB Tryz.prog 37 = _
  kernel_rfl
@[go_sem] theorem el37 (gl : Nat → Option (Ty × C)) : elemT (X0 gl).P 37 = 72 := by
  show elemT Tryz.prog 37 = _
  kernel_rfl
@[go_sem] theorem zb38 (gl : Nat → Option (Ty × C)) : zeroB (X0 gl).P 38 = true := by
  show zeroB Tryz.prog 38 = _
  kernel_rfl
@[go_sem] theorem zb39 (gl : Nat → Option (Ty × C)) : zeroB (X0 gl).P 39 = true := by
  show zeroB Tryz.prog 39 = _
  kernel_rfl
@[go_sem] theorem zb40 (gl : Nat → Option (Ty × C)) : zeroB (X0 gl).P 40 = true := by
  show zeroB Tryz.prog 40 = _
  kernel_rfl
@[go_sem] theorem zb41 (gl : Nat → Option (Ty × C)) : zeroB (X0 gl).P 41 = true := by
  show zeroB Tryz.prog 41 = _
  kernel_rfl
@[go_sem] theorem zb46 (gl : Nat → Option (Ty × C)) : zeroB (X0 gl).P 46 = true := by
  show zeroB Tryz.prog 46 = _
  kernel_rfl
@[go_sem] theorem eq46 (gl : Nat → Option (Ty × C)) : eqOk (X0 gl).P 46 = true := by
  show eqOk Tryz.prog 46 = _
  kernel_rfl
@[go_sem] theorem zb47 (gl : Nat → Option (Ty × C)) : zeroB (X0 gl).P 47 = true := by
  show zeroB Tryz.prog 47 = _
  kernel_rfl
@[go_sem] theorem eq47 (gl : Nat → Option (Ty × C)) : eqOk (X0 gl).P 47 = true := by
  show eqOk Tryz.prog 47 = _
  kernel_rfl
@[go_sem] theorem zb48 (gl : Nat → Option (Ty × C)) : zeroB (X0 gl).P 48 = true := by
  show zeroB Tryz.prog 48 = _
  kernel_rfl
@[go_sem] theorem eq48 (gl : Nat → Option (Ty × C)) : eqOk (X0 gl).P 48 = true := by
  show eqOk Tryz.prog 48 = _
  kernel_rfl
@[go_sem] theorem zb49 (gl : Nat → Option (Ty × C)) : zeroB (X0 gl).P 49 = true := by
  show zeroB Tryz.prog 49 = _
  kernel_rfl
@[go_sem] theorem eq49 (gl : Nat → Option (Ty × C)) : eqOk (X0 gl).P 49 = true := by
  show eqOk Tryz.prog 49 = _
  kernel_rfl
@[go_sem] theorem zb50 (gl : Nat → Option (Ty × C)) : zeroB (X0 gl).P 50 = true := by
  show zeroB Tryz.prog 50 = _
  kernel_rfl
@[go_sem] theorem eq50 (gl : Nat → Option (Ty × C)) : eqOk (X0 gl).P 50 = true := by
  show eqOk Tryz.prog 50 = _
  kernel_rfl
@[go_sem] theorem zb51 (gl : Nat → Option (Ty × C)) : zeroB (X0 gl).P 51 = true := by
  show zeroB Tryz.prog 51 = _
  kernel_rfl
@[go_sem] theorem eq51 (gl : Nat → Option (Ty × C)) : eqOk (X0 gl).P 51 = true := by
  show eqOk Tryz.prog 51 = _
  kernel_rfl
@[go_sem] theorem zb52 (gl : Nat → Option (Ty × C)) : zeroB (X0 gl).P 52 = true := by
  show zeroB Tryz.prog 52 = _
  kernel_rfl
@[go_sem] theorem el52 (gl : Nat → Option (Ty × C)) : elemT (X0 gl).P 52 = 30 := by
  show elemT Tryz.prog 52 = _
  kernel_rfl
@[go_sem] theorem zb53 (gl : Nat → Option (Ty × C)) : zeroB (X0 gl).P 53 = true := by
  show zeroB Tryz.prog 53 = _
  kernel_rfl
@[go_sem] theorem zb54 (gl : Nat → Option (Ty × C)) : zeroB (X0 gl).P 54 = true := by
  show zeroB Tryz.prog 54 = _
  kernel_rfl
@[go_sem] theorem zb55 (gl : Nat → Option (Ty × C)) : zeroB (X0 gl).P 55 = true := by
  show zeroB Tryz.prog 55 = _
  kernel_rfl
@[go_sem] theorem zb56 (gl : Nat → Option (Ty × C)) : zeroB (X0 gl).P 56 = true := by
  show zeroB Tryz.prog 56 = _
  kernel_rfl
@[go_sem] theorem zb57 (gl : Nat → Option (Ty × C)) : zeroB (X0 gl).P 57 = true := by
  show zeroB Tryz.prog 57 = _
  kernel_rfl
@[go_sem] theorem zb58 (gl : Nat → Option (Ty × C)) : zeroB (X0 gl).P 58 = true := by
  show zeroB Tryz.prog 58 = _
  kernel_rfl
@[go_sem] theorem zb59 (gl : Nat → Option (Ty × C)) : zeroB (X0 gl).P 59 = true := by
  show zeroB Tryz.prog 59 = _
  kernel_rfl
@[go_sem] theorem zb61 (gl : Nat → Option (Ty × C)) : zeroB (X0 gl).P 61 = true := by
  show zeroB Tryz.prog 61 = _
  kernel_rfl
@[go_sem] theorem el61 (gl : Nat → Option (Ty × C)) : elemT (X0 gl).P 61 = 59 := by
  show elemT Tryz.prog 61 = _
  kernel_rfl
@[go_sem] theorem zb63 (gl : Nat → Option (Ty × C)) : zeroB (X0 gl).P 63 = true := by
  show zeroB Tryz.prog 63 = _
  kernel_rfl
@[go_sem] theorem el63 (gl : Nat → Option (Ty × C)) : elemT (X0 gl).P 63 = 89 := by
  show elemT Tryz.prog 63 = _
  kernel_rfl
@[go_sem] theorem zb67 (gl : Nat → Option (Ty × C)) : zeroB (X0 gl).P 67 = true := by
  show zeroB Tryz.prog 67 = _
  kernel_rfl
@[go_sem] theorem eq67 (gl : Nat → Option (Ty × C)) : eqOk (X0 gl).P 67 = true := by
  show eqOk Tryz.prog 67 = _
  kernel_rfl
@[go_sem] theorem zb69 (gl : Nat → Option (Ty × C)) : zeroB (X0 gl).P 69 = true := by
  show zeroB Tryz.prog 69 = _
  kernel_rfl
@[go_sem] theorem eq69 (gl : Nat → Option (Ty × C)) : eqOk (X0 gl).P 69 = true := by
  show eqOk Tryz.prog 69 = _
  kernel_rfl
@[go_sem] theorem zb70 (gl : Nat → Option (Ty × C)) : zeroB (X0 gl).P 70 = true := by
  show zeroB Tryz.prog 70 = _
  kernel_rfl
@[go_sem] theorem eq70 (gl : Nat → Option (Ty × C)) : eqOk (X0 gl).P 70 = true := by
  show eqOk Tryz.prog 70 = _
  kernel_rfl
@[go_sem] theorem zb71 (gl : Nat → Option (Ty × C)) : zeroB (X0 gl).P 71 = true := by
  show zeroB Tryz.prog 71 = _
  kernel_rfl
@[go_sem] theorem eq71 (gl : Nat → Option (Ty × C)) : eqOk (X0 gl).P 71 = true := by
  show eqOk Tryz.prog 71 = _
  kernel_rfl
@[go_sem] theorem zb72 (gl : Nat → Option (Ty × C)) : zeroB (X0 gl).P 72 = true := by
  show zeroB Tryz.prog 72 = _
  kernel_rfl
@[go_sem] theorem eq72 (gl : Nat → Option (Ty × C)) : eqOk (X0 gl).P 72 = true := by
  show eqOk Tryz.prog 72 = _
  kernel_rfl
@[go_sem] theorem zb74 (gl : Nat → Option (Ty × C)) : zeroB (X0 gl).P 74 = true := by
  show zeroB Tryz.prog 74 = _
  kernel_rfl
@[go_sem] theorem el74 (gl : Nat → Option (Ty × C)) : elemT (X0 gl).P 74 = 3 := by
  show elemT Tryz.prog 74 = _
  kernel_rfl
@[go_sem] theorem zb75 (gl : Nat → Option (Ty × C)) : zeroB (X0 gl).P 75 = true := by
  show zeroB Tryz.prog 75 = _
  kernel_rfl
@[go_sem] theorem zb76 (gl : Nat → Option (Ty × C)) : zeroB (X0 gl).P 76 = true := by
  show zeroB Tryz.prog 76 = _
  kernel_rfl
@[go_sem] theorem zb77 (gl : Nat → Option (Ty × C)) : zeroB (X0 gl).P 77 = true := by
  show zeroB Tryz.prog 77 = _
  kernel_rfl
@[go_sem] theorem el77 (gl : Nat → Option (Ty × C)) : elemT (X0 gl).P 77 = 41 := by
  show elemT Tryz.prog 77 = _
  kernel_rfl
@[go_sem] theorem zb78 (gl : Nat → Option (Ty × C)) : zeroB (X0 gl).P 78 = true := by
  show zeroB Tryz.prog 78 = _
  kernel_rfl
@[go_sem] theorem zb79 (gl : Nat → Option (Ty × C)) : zeroB (X0 gl).P 79 = true := by
  show zeroB Tryz.prog 79 = _
  kernel_rfl
@[go_sem] theorem zb88 (gl : Nat → Option (Ty × C)) : zeroB (X0 gl).P 88 = true := by
  show zeroB Tryz.prog 88 = _
  kernel_rfl
@[go_sem] theorem eq88 (gl : Nat → Option (Ty × C)) : eqOk (X0 gl).P 88 = true := by
  show eqOk Tryz.prog 88 = _
  kernel_rfl
@[go_sem] theorem zb89 (gl : Nat → Option (Ty × C)) : zeroB (X0 gl).P 89 = true := by
  show zeroB Tryz.prog 89 = _
  kernel_rfl
@[go_sem] theorem eq89 (gl : Nat → Option (Ty × C)) : eqOk (X0 gl).P 89 = true := by
  show eqOk Tryz.prog 89 = _
  kernel_rfl
@[go_sem] theorem zb90 (gl : Nat → Option (Ty × C)) : zeroB (X0 gl).P 90 = true := by
  show zeroB Tryz.prog 90 = _
  kernel_rfl
@[go_sem] theorem el90 (gl : Nat → Option (Ty × C)) : elemT (X0 gl).P 90 = 35 := by
  show elemT Tryz.prog 90 = _
  kernel_rfl
@[go_sem] theorem zb100 (gl : Nat → Option (Ty × C)) : zeroB (X0 gl).P 100 = true := by
  show zeroB Tryz.prog 100 = _
  kernel_rfl
@[go_sem] theorem zb101 (gl : Nat → Option (Ty × C)) : zeroB (X0 gl).P 101 = true := by
  show zeroB Tryz.prog 101 = _
  kernel_rfl
@[go_sem] theorem zb106 (gl : Nat → Option (Ty × C)) : zeroB (X0 gl).P 106 = true := by
  show zeroB Tryz.prog 106 = _
  kernel_rfl
@[go_sem] theorem zb107 (gl : Nat → Option (Ty × C)) : zeroB (X0 gl).P 107 = true := by
  show zeroB Tryz.prog 107 = _
  kernel_rfl
@[go_sem] theorem zb108 (gl : Nat → Option (Ty × C)) : zeroB (X0 gl).P 108 = true := by
  show zeroB Tryz.prog 108 = _
  kernel_rfl
@[go_sem] theorem zb119 (gl : Nat → Option (Ty × C)) : zeroB (X0 gl).P 119 = true := by
  show zeroB Tryz.prog 119 = _
  kernel_rfl
@[go_sem] theorem eq119 (gl : Nat → Option (Ty × C)) : eqOk (X0 gl).P 119 = true := by
  show eqOk Tryz.prog 119 = _
  kernel_rfl
@[go_sem] theorem zb120 (gl : Nat → Option (Ty × C)) : zeroB (X0 gl).P 120 = true := by
  show zeroB Tryz.prog 120 = _
  kernel_rfl
@[go_sem] theorem eq120 (gl : Nat → Option (Ty × C)) : eqOk (X0 gl).P 120 = true := by
  show eqOk Tryz.prog 120 = _
  kernel_rfl
@[go_sem] theorem zb138 (gl : Nat → Option (Ty × C)) : zeroB (X0 gl).P 138 = true := by
  show zeroB Tryz.prog 138 = _
  kernel_rfl
@[go_sem] theorem el138 (gl : Nat → Option (Ty × C)) : elemT (X0 gl).P 138 = 34 := by
  show elemT Tryz.prog 138 = _
  kernel_rfl
@[go_sem] theorem zb139 (gl : Nat → Option (Ty × C)) : zeroB (X0 gl).P 139 = true := by
  show zeroB Tryz.prog 139 = _
  kernel_rfl
@[go_sem] theorem zb144 (gl : Nat → Option (Ty × C)) : zeroB (X0 gl).P 144 = true := by
  show zeroB Tryz.prog 144 = _
  kernel_rfl
@[go_sem] theorem zb147 (gl : Nat → Option (Ty × C)) : zeroB (X0 gl).P 147 = true := by
  show zeroB Tryz.prog 147 = _
  kernel_rfl
@[go_sem] theorem el147 (gl : Nat → Option (Ty × C)) : elemT (X0 gl).P 147 = 4 := by
  show elemT Tryz.prog 147 = _
  kernel_rfl
@[go_sem] theorem zb148 (gl : Nat → Option (Ty × C)) : zeroB (X0 gl).P 148 = true := by
  show zeroB Tryz.prog 148 = _
  kernel_rfl
@[go_sem] theorem el148 (gl : Nat → Option (Ty × C)) : elemT (X0 gl).P 148 = 67 := by
  show elemT Tryz.prog 148 = _
  kernel_rfl
@[go_sem] theorem zb156 (gl : Nat → Option (Ty × C)) : zeroB (X0 gl).P 156 = true := by
  show zeroB Tryz.prog 156 = _
  kernel_rfl
@[go_sem] theorem zb157 (gl : Nat → Option (Ty × C)) : zeroB (X0 gl).P 157 = true := by
  show zeroB Tryz.prog 157 = _
  kernel_rfl
@[go_sem] theorem zb158 (gl : Nat → Option (Ty × C)) : zeroB (X0 gl).P 158 = true := by
  show zeroB Tryz.prog 158 = _
  kernel_rfl
@[go_sem] theorem eq158 (gl : Nat → Option (Ty × C)) : eqOk (X0 gl).P 158 = true := by
  show eqOk Tryz.prog 158 = _
  kernel_rfl
@[go_sem] theorem zb159 (gl : Nat → Option (Ty × C)) : zeroB (X0 gl).P 159 = true := by
  show zeroB Tryz.prog 159 = _
  kernel_rfl
@[go_sem] theorem eq159 (gl : Nat → Option (Ty × C)) : eqOk (X0 gl).P 159 = true := by
  show eqOk Tryz.prog 159 = _
  kernel_rfl
@[go_sem] theorem zb160 (gl : Nat → Option (Ty × C)) : zeroB (X0 gl).P 160 = true := by
  show zeroB Tryz.prog 160 = _
  kernel_rfl
@[go_sem] theorem eq160 (gl : Nat → Option (Ty × C)) : eqOk (X0 gl).P 160 = true := by
  show eqOk Tryz.prog 160 = _
  kernel_rfl
@[go_sem] theorem zb161 (gl : Nat → Option (Ty × C)) : zeroB (X0 gl).P 161 = true := by
  show zeroB Tryz.prog 161 = _
  kernel_rfl
@[go_sem] theorem eq161 (gl : Nat → Option (Ty × C)) : eqOk (X0 gl).P 161 = true := by
  show eqOk Tryz.prog 161 = _
  kernel_rfl
@[go_sem] theorem zb163 (gl : Nat → Option (Ty × C)) : zeroB (X0 gl).P 163 = true := by
  show zeroB Tryz.prog 163 = _
  kernel_rfl
@[go_sem] theorem eq163 (gl : Nat → Option (Ty × C)) : eqOk (X0 gl).P 163 = true := by
  show eqOk Tryz.prog 163 = _
  kernel_rfl
@[go_sem] theorem zb164 (gl : Nat → Option (Ty × C)) : zeroB (X0 gl).P 164 = true := by
  show zeroB Tryz.prog 164 = _
  kernel_rfl
@[go_sem] theorem eq164 (gl : Nat → Option (Ty × C)) : eqOk (X0 gl).P 164 = true := by
  show eqOk Tryz.prog 164 = _
  kernel_rfl
@[go_sem] theorem zb165 (gl : Nat → Option (Ty × C)) : zeroB (X0 gl).P 165 = true := by
  show zeroB Tryz.prog 165 = _
  kernel_rfl
@[go_sem] theorem eq165 (gl : Nat → Option (Ty × C)) : eqOk (X0 gl).P 165 = true := by
  show eqOk Tryz.prog 165 = _
  kernel_rfl
@[go_sem] theorem zb166 (gl : Nat → Option (Ty × C)) : zeroB (X0 gl).P 166 = true := by
  show zeroB Tryz.prog 166 = _
  kernel_rfl
@[go_sem] theorem eq166 (gl : Nat → Option (Ty × C)) : eqOk (X0 gl).P 166 = true := by
  show eqOk Tryz.prog 166 = _
  kernel_rfl
@[go_sem] theorem zb172 (gl : Nat → Option (Ty × C)) : zeroB (X0 gl).P 172 = true := by
  show zeroB Tryz.prog 172 = _
  kernel_rfl
@[go_sem] theorem eq172 (gl : Nat → Option (Ty × C)) : eqOk (X0 gl).P 172 = true := by
  show eqOk Tryz.prog 172 = _
  kernel_rfl
@[go_sem] theorem zb173 (gl : Nat → Option (Ty × C)) : zeroB (X0 gl).P 173 = true := by
  show zeroB Tryz.prog 173 = _
  kernel_rfl
@[go_sem] theorem zb174 (gl : Nat → Option (Ty × C)) : zeroB (X0 gl).P 174 = true := by
  show zeroB Tryz.prog 174 = _
  kernel_rfl
@[go_sem] theorem zb175 (gl : Nat → Option (Ty × C)) : zeroB (X0 gl).P 175 = true := by
  show zeroB Tryz.prog 175 = _
  kernel_rfl
@[go_sem] theorem zb189 (gl : Nat → Option (Ty × C)) : zeroB (X0 gl).P 189 = true := by
  show zeroB Tryz.prog 189 = _
  kernel_rfl
@[go_sem] theorem eq189 (gl : Nat → Option (Ty × C)) : eqOk (X0 gl).P 189 = true := by
  show eqOk Tryz.prog 189 = _
  kernel_rfl
@[go_sem] theorem zb191 (gl : Nat → Option (Ty × C)) : zeroB (X0 gl).P 191 = true := by
  show zeroB Tryz.prog 191 = _
  kernel_rfl
@[go_sem] theorem eq191 (gl : Nat → Option (Ty × C)) : eqOk (X0 gl).P 191 = true := by
  show eqOk Tryz.prog 191 = _
  kernel_rfl
@[go_sem] theorem zb196 (gl : Nat → Option (Ty × C)) : zeroB (X0 gl).P 196 = true := by
  show zeroB Tryz.prog 196 = _
  kernel_rfl
@[go_sem] theorem el196 (gl : Nat → Option (Ty × C)) : elemT (X0 gl).P 196 = 5 := by
  show elemT Tryz.prog 196 = _
  kernel_rfl
@[go_sem] theorem zb201 (gl : Nat → Option (Ty × C)) : zeroB (X0 gl).P 201 = true := by
  show zeroB Tryz.prog 201 = _
  kernel_rfl
@[go_sem] theorem eq201 (gl : Nat → Option (Ty × C)) : eqOk (X0 gl).P 201 = true := by
  show eqOk Tryz.prog 201 = _
  kernel_rfl
@[go_sem] theorem zb202 (gl : Nat → Option (Ty × C)) : zeroB (X0 gl).P 202 = true := by
  show zeroB Tryz.prog 202 = _
  kernel_rfl
@[go_sem] theorem eq202 (gl : Nat → Option (Ty × C)) : eqOk (X0 gl).P 202 = true := by
  show eqOk Tryz.prog 202 = _
  kernel_rfl
@[go_sem] theorem zb206 (gl : Nat → Option (Ty × C)) : zeroB (X0 gl).P 206 = true := by
  show zeroB Tryz.prog 206 = _
  kernel_rfl
@[go_sem] theorem el206 (gl : Nat → Option (Ty × C)) : elemT (X0 gl).P 206 = 27 := by
  show elemT Tryz.prog 206 = _
  kernel_rfl
@[go_sem] theorem zb213 (gl : Nat → Option (Ty × C)) : zeroB (X0 gl).P 213 = true := by
  show zeroB Tryz.prog 213 = _
  kernel_rfl
@[go_sem] theorem zb214 (gl : Nat → Option (Ty × C)) : zeroB (X0 gl).P 214 = true := by
  show zeroB Tryz.prog 214 = _
  kernel_rfl
@[go_sem] theorem zb215 (gl : Nat → Option (Ty × C)) : zeroB (X0 gl).P 215 = true := by
  show zeroB Tryz.prog 215 = _
  kernel_rfl
@[go_sem] theorem zb216 (gl : Nat → Option (Ty × C)) : zeroB (X0 gl).P 216 = true := by
  show zeroB Tryz.prog 216 = _
  kernel_rfl
@[go_sem] theorem zb217 (gl : Nat → Option (Ty × C)) : zeroB (X0 gl).P 217 = true := by
  show zeroB Tryz.prog 217 = _
  kernel_rfl
@[go_sem] theorem zb218 (gl : Nat → Option (Ty × C)) : zeroB (X0 gl).P 218 = true := by
  show zeroB Tryz.prog 218 = _
  kernel_rfl
@[go_sem] theorem eq218 (gl : Nat → Option (Ty × C)) : eqOk (X0 gl).P 218 = true := by
  show eqOk Tryz.prog 218 = _
  kernel_rfl
@[go_sem] theorem zb219 (gl : Nat → Option (Ty × C)) : zeroB (X0 gl).P 219 = true := by
  show zeroB Tryz.prog 219 = _
  kernel_rfl
@[go_sem] theorem eq219 (gl : Nat → Option (Ty × C)) : eqOk (X0 gl).P 219 = true := by
  show eqOk Tryz.prog 219 = _
  kernel_rfl
@[go_sem] theorem zb221 (gl : Nat → Option (Ty × C)) : zeroB (X0 gl).P 221 = true := by
  show zeroB Tryz.prog 221 = _
  kernel_rfl
@[go_sem] theorem zb222 (gl : Nat → Option (Ty × C)) : zeroB (X0 gl).P 222 = true := by
  show zeroB Tryz.prog 222 = _
  kernel_rfl
@[go_sem] theorem eq222 (gl : Nat → Option (Ty × C)) : eqOk (X0 gl).P 222 = true := by
  show eqOk Tryz.prog 222 = _
  kernel_rfl
@[go_sem] theorem zb223 (gl : Nat → Option (Ty × C)) : zeroB (X0 gl).P 223 = true := by
  show zeroB Tryz.prog 223 = _
  kernel_rfl
@[go_sem] theorem eq223 (gl : Nat → Option (Ty × C)) : eqOk (X0 gl).P 223 = true := by
  show eqOk Tryz.prog 223 = _
  kernel_rfl
@[go_sem] theorem zb224 (gl : Nat → Option (Ty × C)) : zeroB (X0 gl).P 224 = true := by
  show zeroB Tryz.prog 224 = _
  kernel_rfl
@[go_sem] theorem zb225 (gl : Nat → Option (Ty × C)) : zeroB (X0 gl).P 225 = true := by
  show zeroB Tryz.prog 225 = _
  kernel_rfl
@[go_sem] theorem mt106 (gl : Nat → Option (Ty × C)) : mapT (X0 gl).P 106 = some (70, 120) := by
  show mapT Tryz.prog 106 = _
  kernel_rfl
@[go_sem] theorem mt144 (gl : Nat → Option (Ty × C)) : mapT (X0 gl).P 144 = some (35, 4) := by
  show mapT Tryz.prog 144 = _
  kernel_rfl
@[go_sem] theorem ca2 (gl : Nat → Option (Ty × C)) : callable (X0 gl).P 2 = true := by
  show callable Tryz.prog 2 = _
  kernel_rfl
@[go_sem] theorem ca3 (gl : Nat → Option (Ty × C)) : callable (X0 gl).P 3 = true := by
  show callable Tryz.prog 3 = _
  kernel_rfl
@[go_sem] theorem ca4 (gl : Nat → Option (Ty × C)) : callable (X0 gl).P 4 = true := by
  show callable Tryz.prog 4 = _
  kernel_rfl
@[go_sem] theorem ca5 (gl : Nat → Option (Ty × C)) : callable (X0 gl).P 5 = true := by
  show callable Tryz.prog 5 = _
  kernel_rfl
@[go_sem] theorem ca6 (gl : Nat → Option (Ty × C)) : callable (X0 gl).P 6 = true := by
  show callable Tryz.prog 6 = _
  kernel_rfl
@[go_sem] theorem ca7 (gl : Nat → Option (Ty × C)) : callable (X0 gl).P 7 = true := by
  show callable Tryz.prog 7 = _
  kernel_rfl
@[go_sem] theorem ca8 (gl : Nat → Option (Ty × C)) : callable (X0 gl).P 8 = true := by
  show callable Tryz.prog 8 = _
  kernel_rfl
@[go_sem] theorem ca9 (gl : Nat → Option (Ty × C)) : callable (X0 gl).P 9 = true := by
  show callable Tryz.prog 9 = _
  kernel_rfl
@[go_sem] theorem ca10 (gl : Nat → Option (Ty × C)) : callable (X0 gl).P 10 = true := by
  show callable Tryz.prog 10 = _
  kernel_rfl
@[go_sem] theorem ca11 (gl : Nat → Option (Ty × C)) : callable (X0 gl).P 11 = true := by
  show callable Tryz.prog 11 = _
  kernel_rfl
@[go_sem] theorem ca12 (gl : Nat → Option (Ty × C)) : callable (X0 gl).P 12 = true := by
  show callable Tryz.prog 12 = _
  kernel_rfl
@[go_sem] theorem ca13 (gl : Nat → Option (Ty × C)) : callable (X0 gl).P 13 = true := by
  show callable Tryz.prog 13 = _
  kernel_rfl
@[go_sem] theorem ca14 (gl : Nat → Option (Ty × C)) : callable (X0 gl).P 14 = true := by
  show callable Tryz.prog 14 = _
  kernel_rfl
@[go_sem] theorem ca15 (gl : Nat → Option (Ty × C)) : callable (X0 gl).P 15 = true := by
  show callable Tryz.prog 15 = _
  kernel_rfl
@[go_sem] theorem ca16 (gl : Nat → Option (Ty × C)) : callable (X0 gl).P 16 = true := by
  show callable Tryz.prog 16 = _
  kernel_rfl
@[go_sem] theorem ca17 (gl : Nat → Option (Ty × C)) : callable (X0 gl).P 17 = true := by
  show callable Tryz.prog 17 = _
  kernel_rfl
@[go_sem] theorem ca18 (gl : Nat → Option (Ty × C)) : callable (X0 gl).P 18 = true := by
  show callable Tryz.prog 18 = _
  kernel_rfl
@[go_sem] theorem ca19 (gl : Nat → Option (Ty × C)) : callable (X0 gl).P 19 = true := by
  show callable Tryz.prog 19 = _
  kernel_rfl
@[go_sem] theorem ca20 (gl : Nat → Option (Ty × C)) : callable (X0 gl).P 20 = true := by
  show callable Tryz.prog 20 = _
  kernel_rfl
@[go_sem] theorem ca21 (gl : Nat → Option (Ty × C)) : callable (X0 gl).P 21 = true := by
  show callable Tryz.prog 21 = _
  kernel_rfl
@[go_sem] theorem ca22 (gl : Nat → Option (Ty × C)) : callable (X0 gl).P 22 = true := by
  show callable Tryz.prog 22 = _
  kernel_rfl
@[go_sem] theorem ca23 (gl : Nat → Option (Ty × C)) : callable (X0 gl).P 23 = true := by
  show callable Tryz.prog 23 = _
  kernel_rfl
@[go_sem] theorem ca24 (gl : Nat → Option (Ty × C)) : callable (X0 gl).P 24 = true := by
  show callable Tryz.prog 24 = _
  kernel_rfl
@[go_sem] theorem ca25 (gl : Nat → Option (Ty × C)) : callable (X0 gl).P 25 = true := by
  show callable Tryz.prog 25 = _
  kernel_rfl
@[go_sem] theorem ca26 (gl : Nat → Option (Ty × C)) : callable (X0 gl).P 26 = true := by
  show callable Tryz.prog 26 = _
  kernel_rfl
@[go_sem] theorem ca27 (gl : Nat → Option (Ty × C)) : callable (X0 gl).P 27 = true := by
  show callable Tryz.prog 27 = _
  kernel_rfl
@[go_sem] theorem ca28 (gl : Nat → Option (Ty × C)) : callable (X0 gl).P 28 = true := by
  show callable Tryz.prog 28 = _
  kernel_rfl
@[go_sem] theorem ca29 (gl : Nat → Option (Ty × C)) : callable (X0 gl).P 29 = true := by
  show callable Tryz.prog 29 = _
  kernel_rfl
@[go_sem] theorem ca30 (gl : Nat → Option (Ty × C)) : callable (X0 gl).P 30 = true := by
  show callable Tryz.prog 30 = _
  kernel_rfl
@[go_sem] theorem ca31 (gl : Nat → Option (Ty × C)) : callable (X0 gl).P 31 = true := by
  show callable Tryz.prog 31 = _
  kernel_rfl
@[go_sem] theorem ca32 (gl : Nat → Option (Ty × C)) : callable (X0 gl).P 32 = true := by
  show callable Tryz.prog 32 = _
  kernel_rfl
@[go_sem] theorem ca33 (gl : Nat → Option (Ty × C)) : callable (X0 gl).P 33 = true := by
  show callable Tryz.prog 33 = _
  kernel_rfl
@[go_sem] theorem ca34 (gl : Nat → Option (Ty × C)) : callable (X0 gl).P 34 = true := by
  show callable Tryz.prog 34 = _
  kernel_rfl
@[go_sem] theorem ca35 (gl : Nat → Option (Ty × C)) : callable (X0 gl).P 35 = true := by
  show callable Tryz.prog 35 = _
  kernel_rfl
@[go_sem] theorem ca36 (gl : Nat → Option (Ty × C)) : callable (X0 gl).P 36 = true := by
  show callable Tryz.prog 36 = _
  kernel_rfl
@[go_sem] theorem ca37 (gl : Nat → Option (Ty × C)) : callable (X0 gl).P 37 = true := by
  show callable Tryz.prog 37 = _
  kernel_rfl
@[go_sem] theorem ca38 (gl : Nat → Option (Ty × C)) : callable (X0 gl).P 38 = true := by
  show callable Tryz.prog 38 = _
  kernel_rfl
@[go_sem] theorem ca39 (gl : Nat → Option (Ty × C)) : callable (X0 gl).P 39 = true := by
  show callable Tryz.prog 39 = _
  kernel_rfl
@[go_sem] theorem ca40 (gl : Nat → Option (Ty × C)) : callable (X0 gl).P 40 = true := by
  show callable Tryz.prog 40 = _
  kernel_rfl
@[go_sem] theorem ca41 (gl : Nat → Option (Ty × C)) : callable (X0 gl).P 41 = true := by
  show callable Tryz.prog 41 = _
  kernel_rfl
@[go_sem] theorem ca42 (gl : Nat → Option (Ty × C)) : callable (X0 gl).P 42 = true := by
  show callable Tryz.prog 42 = _
  kernel_rfl
@[go_sem] theorem ca43 (gl : Nat → Option (Ty × C)) : callable (X0 gl).P 43 = true := by
  show callable Tryz.prog 43 = _
  kernel_rfl
@[go_sem] theorem ca44 (gl : Nat → Option (Ty × C)) : callable (X0 gl).P 44 = true := by
  show callable Tryz.prog 44 = _
  kernel_rfl
@[go_sem] theorem ca45 (gl : Nat → Option (Ty × C)) : callable (X0 gl).P 45 = true := by
  show callable Tryz.prog 45 = _
  kernel_rfl
@[go_sem] theorem ca46 (gl : Nat → Option (Ty × C)) : callable (X0 gl).P 46 = true := by
  show callable Tryz.prog 46 = _
  kernel_rfl
@[go_sem] theorem ca47 (gl : Nat → Option (Ty × C)) : callable (X0 gl).P 47 = true := by
  show callable Tryz.prog 47 = _
  kernel_rfl
@[go_sem] theorem ca48 (gl : Nat → Option (Ty × C)) : callable (X0 gl).P 48 = true := by
  show callable Tryz.prog 48 = _
  kernel_rfl
@[go_sem] theorem ca49 (gl : Nat → Option (Ty × C)) : callable (X0 gl).P 49 = true := by
  show callable Tryz.prog 49 = _
  kernel_rfl
@[go_sem] theorem ca50 (gl : Nat → Option (Ty × C)) : callable (X0 gl).P 50 = true := by
  show callable Tryz.prog 50 = _
  kernel_rfl
@[go_sem] theorem ca51 (gl : Nat → Option (Ty × C)) : callable (X0 gl).P 51 = true := by
  show callable Tryz.prog 51 = _
  kernel_rfl
@[go_sem] theorem ca53 (gl : Nat → Option (Ty × C)) : callable (X0 gl).P 53 = true := by
  show callable Tryz.prog 53 = _
  kernel_rfl
@[go_sem] theorem ca54 (gl : Nat → Option (Ty × C)) : callable (X0 gl).P 54 = true := by
  show callable Tryz.prog 54 = _
  kernel_rfl
@[go_sem] theorem ca55 (gl : Nat → Option (Ty × C)) : callable (X0 gl).P 55 = true := by
  show callable Tryz.prog 55 = _
  kernel_rfl
@[go_sem] theorem ca56 (gl : Nat → Option (Ty × C)) : callable (X0 gl).P 56 = true := by
  show callable Tryz.prog 56 = _
  kernel_rfl
@[go_sem] theorem ca57 (gl : Nat → Option (Ty × C)) : callable (X0 gl).P 57 = true := by
  show callable Tryz.prog 57 = _
  kernel_rfl
@[go_sem] theorem ca58 (gl : Nat → Option (Ty × C)) : callable (X0 gl).P 58 = true := by
  show callable Tryz.prog 58 = _
  kernel_rfl
@[go_sem] theorem ca59 (gl : Nat → Option (Ty × C)) : callable (X0 gl).P 59 = true := by
  show callable Tryz.prog 59 = _
  kernel_rfl
@[go_sem] theorem ca60 (gl : Nat → Option (Ty × C)) : callable (X0 gl).P 60 = true := by
  show callable Tryz.prog 60 = _
  kernel_rfl
@[go_sem] theorem ca61 (gl : Nat → Option (Ty × C)) : callable (X0 gl).P 61 = true := by
  show callable Tryz.prog 61 = _
  kernel_rfl
@[go_sem] theorem ca62 (gl : Nat → Option (Ty × C)) : callable (X0 gl).P 62 = true := by
  show callable Tryz.prog 62 = _
  kernel_rfl
@[go_sem] theorem ca63 (gl : Nat → Option (Ty × C)) : callable (X0 gl).P 63 = true := by
  show callable Tryz.prog 63 = _
  kernel_rfl
@[go_sem] theorem ca64 (gl : Nat → Option (Ty × C)) : callable (X0 gl).P 64 = true := by
  show callable Tryz.prog 64 = _
  kernel_rfl
@[go_sem] theorem ca65 (gl : Nat → Option (Ty × C)) : callable (X0 gl).P 65 = true := by
  show callable Tryz.prog 65 = _
  kernel_rfl
@[go_sem] theorem ca66 (gl : Nat → Option (Ty × C)) : callable (X0 gl).P 66 = true := by
  show callable Tryz.prog 66 = _
  kernel_rfl
@[go_sem] theorem ca67 (gl : Nat → Option (Ty × C)) : callable (X0 gl).P 67 = true := by
  show callable Tryz.prog 67 = _
  kernel_rfl
@[go_sem] theorem ca68 (gl : Nat → Option (Ty × C)) : callable (X0 gl).P 68 = true := by
  show callable Tryz.prog 68 = _
  kernel_rfl
@[go_sem] theorem ca69 (gl : Nat → Option (Ty × C)) : callable (X0 gl).P 69 = true := by
  show callable Tryz.prog 69 = _
  kernel_rfl
@[go_sem] theorem ca70 (gl : Nat → Option (Ty × C)) : callable (X0 gl).P 70 = true := by
  show callable Tryz.prog 70 = _
  kernel_rfl
@[go_sem] theorem ca71 (gl : Nat → Option (Ty × C)) : callable (X0 gl).P 71 = true := by
  show callable Tryz.prog 71 = _
  kernel_rfl
@[go_sem] theorem ca72 (gl : Nat → Option (Ty × C)) : callable (X0 gl).P 72 = true := by
  show callable Tryz.prog 72 = _
  kernel_rfl
@[go_sem] theorem ca73 (gl : Nat → Option (Ty × C)) : callable (X0 gl).P 73 = true := by
  show callable Tryz.prog 73 = _
  kernel_rfl
@[go_sem] theorem ca74 (gl : Nat → Option (Ty × C)) : callable (X0 gl).P 74 = true := by
  show callable Tryz.prog 74 = _
  kernel_rfl
@[go_sem] theorem ca75 (gl : Nat → Option (Ty × C)) : callable (X0 gl).P 75 = true := by
  show callable Tryz.prog 75 = _
  kernel_rfl
@[go_sem] theorem ca76 (gl : Nat → Option (Ty × C)) : callable (X0 gl).P 76 = true := by
  show callable Tryz.prog 76 = _
  kernel_rfl
@[go_sem] theorem ca77 (gl : Nat → Option (Ty × C)) : callable (X0 gl).P 77 = true := by
  show callable Tryz.prog 77 = _
  kernel_rfl
@[go_sem] theorem ca78 (gl : Nat → Option (Ty × C)) : callable (X0 gl).P 78 = true := by
  show callable Tryz.prog 78 = _
  kernel_rfl
@[go_sem] theorem ca79 (gl : Nat → Option (Ty × C)) : callable (X0 gl).P 79 = true := by
  show callable Tryz.prog 79 = _
  kernel_rfl
@[go_sem] theorem ca80 (gl : Nat → Option (Ty × C)) : callable (X0 gl).P 80 = true := by
  show callable Tryz.prog 80 = _
  kernel_rfl
@[go_sem] theorem ca81 (gl : Nat → Option (Ty × C)) : callable (X0 gl).P 81 = true := by
  show callable Tryz.prog 81 = _
  kernel_rfl
@[go_sem] theorem ca82 (gl : Nat → Option (Ty × C)) : callable (X0 gl).P 82 = true := by
  show callable Tryz.prog 82 = _
  kernel_rfl
@[go_sem] theorem ca83 (gl : Nat → Option (Ty × C)) : callable (X0 gl).P 83 = true := by
  show callable Tryz.prog 83 = _
  kernel_rfl
@[go_sem] theorem ca84 (gl : Nat → Option (Ty × C)) : callable (X0 gl).P 84 = true := by
  show callable Tryz.prog 84 = _
  kernel_rfl
@[go_sem] theorem ca85 (gl : Nat → Option (Ty × C)) : callable (X0 gl).P 85 = true := by
  show callable Tryz.prog 85 = _
  kernel_rfl
@[go_sem] theorem ca86 (gl : Nat → Option (Ty × C)) : callable (X0 gl).P 86 = true := by
  show callable Tryz.prog 86 = _
  kernel_rfl
@[go_sem] theorem ca87 (gl : Nat → Option (Ty × C)) : callable (X0 gl).P 87 = true := by
  show callable Tryz.prog 87 = _
  kernel_rfl
@[go_sem] theorem ca88 (gl : Nat → Option (Ty × C)) : callable (X0 gl).P 88 = true := by
  show callable Tryz.prog 88 = _
  kernel_rfl
@[go_sem] theorem ca89 (gl : Nat → Option (Ty × C)) : callable (X0 gl).P 89 = true := by
  show callable Tryz.prog 89 = _
  kernel_rfl
@[go_sem] theorem ca90 (gl : Nat → Option (Ty × C)) : callable (X0 gl).P 90 = true := by
  show callable Tryz.prog 90 = _
  kernel_rfl
@[go_sem] theorem ca91 (gl : Nat → Option (Ty × C)) : callable (X0 gl).P 91 = true := by
  show callable Tryz.prog 91 = _
  kernel_rfl
@[go_sem] theorem ca92 (gl : Nat → Option (Ty × C)) : callable (X0 gl).P 92 = true := by
  show callable Tryz.prog 92 = _
  kernel_rfl
@[go_sem] theorem ca93 (gl : Nat → Option (Ty × C)) : callable (X0 gl).P 93 = true := by
  show callable Tryz.prog 93 = _
  kernel_rfl
@[go_sem] theorem ca94 (gl : Nat → Option (Ty × C)) : callable (X0 gl).P 94 = true := by
  show callable Tryz.prog 94 = _
  kernel_rfl
@[go_sem] theorem ca95 (gl : Nat → Option (Ty × C)) : callable (X0 gl).P 95 = true := by
  show callable Tryz.prog 95 = _
  kernel_rfl
@[go_sem] theorem ca96 (gl : Nat → Option (Ty × C)) : callable (X0 gl).P 96 = true := by
  show callable Tryz.prog 96 = _
  kernel_rfl
@[go_sem] theorem ca97 (gl : Nat → Option (Ty × C)) : callable (X0 gl).P 97 = true := by
  show callable Tryz.prog 97 = _
  kernel_rfl
@[go_sem] theorem ca98 (gl : Nat → Option (Ty × C)) : callable (X0 gl).P 98 = true := by
  show callable Tryz.prog 98 = _
  kernel_rfl
@[go_sem] theorem ca99 (gl : Nat → Option (Ty × C)) : callable (X0 gl).P 99 = true := by
  show callable Tryz.prog 99 = _
  kernel_rfl
@[go_sem] theorem ca100 (gl : Nat → Option (Ty × C)) : callable (X0 gl).P 100 = true := by
  show callable Tryz.prog 100 = _
  kernel_rfl
@[go_sem] theorem ca101 (gl : Nat → Option (Ty × C)) : callable (X0 gl).P 101 = true := by
  show callable Tryz.prog 101 = _
  kernel_rfl
@[go_sem] theorem ca102 (gl : Nat → Option (Ty × C)) : callable (X0 gl).P 102 = true := by
  show callable Tryz.prog 102 = _
  kernel_rfl
@[go_sem] theorem ca103 (gl : Nat → Option (Ty × C)) : callable (X0 gl).P 103 = true := by
  show callable Tryz.prog 103 = _
  kernel_rfl
@[go_sem] theorem ca104 (gl : Nat → Option (Ty × C)) : callable (X0 gl).P 104 = true := by
  show callable Tryz.prog 104 = _
  kernel_rfl
@[go_sem] theorem ca105 (gl : Nat → Option (Ty × C)) : callable (X0 gl).P 105 = true := by
  show callable Tryz.prog 105 = _
  kernel_rfl
@[go_sem] theorem ca106 (gl : Nat → Option (Ty × C)) : callable (X0 gl).P 106 = true := by
  show callable Tryz.prog 106 = _
  kernel_rfl
@[go_sem] theorem ca107 (gl : Nat → Option (Ty × C)) : callable (X0 gl).P 107 = true := by
  show callable Tryz.prog 107 = _
  kernel_rfl
@[go_sem] theorem ca108 (gl : Nat → Option (Ty × C)) : callable (X0 gl).P 108 = true := by
  show callable Tryz.prog 108 = _
  kernel_rfl
@[go_sem] theorem ca109 (gl : Nat → Option (Ty × C)) : callable (X0 gl).P 109 = true := by
  show callable Tryz.prog 109 = _
  kernel_rfl
@[go_sem] theorem ca110 (gl : Nat → Option (Ty × C)) : callable (X0 gl).P 110 = true := by
  show callable Tryz.prog 110 = _
  kernel_rfl
@[go_sem] theorem ca111 (gl : Nat → Option (Ty × C)) : callable (X0 gl).P 111 = true := by
  show callable Tryz.prog 111 = _
  kernel_rfl
@[go_sem] theorem ca112 (gl : Nat → Option (Ty × C)) : callable (X0 gl).P 112 = true := by
  show callable Tryz.prog 112 = _
  kernel_rfl
@[go_sem] theorem ca113 (gl : Nat → Option (Ty × C)) : callable (X0 gl).P 113 = true := by
  show callable Tryz.prog 113 = _
  kernel_rfl
@[go_sem] theorem ca114 (gl : Nat → Option (Ty × C)) : callable (X0 gl).P 114 = true := by
  show callable Tryz.prog 114 = _
  kernel_rfl
@[go_sem] theorem ca115 (gl : Nat → Option (Ty × C)) : callable (X0 gl).P 115 = true := by
  show callable Tryz.prog 115 = _
  kernel_rfl
@[go_sem] theorem ca116 (gl : Nat → Option (Ty × C)) : callable (X0 gl).P 116 = true := by
  show callable Tryz.prog 116 = _
  kernel_rfl
@[go_sem] theorem ca117 (gl : Nat → Option (Ty × C)) : callable (X0 gl).P 117 = true := by
  show callable Tryz.prog 117 = _
  kernel_rfl
@[go_sem] theorem ca118 (gl : Nat → Option (Ty × C)) : callable (X0 gl).P 118 = true := by
  show callable Tryz.prog 118 = _
  kernel_rfl
@[go_sem] theorem ca119 (gl : Nat → Option (Ty × C)) : callable (X0 gl).P 119 = true := by
  show callable Tryz.prog 119 = _
  kernel_rfl
@[go_sem] theorem ca120 (gl : Nat → Option (Ty × C)) : callable (X0 gl).P 120 = true := by
  show callable Tryz.prog 120 = _
  kernel_rfl
@[go_sem] theorem ca142 (gl : Nat → Option (Ty × C)) : callable (X0 gl).P 142 = true := by
  show callable Tryz.prog 142 = _
  kernel_rfl
end Go.Proofs.YtkbkpgnngfemnaaGreatDoor
