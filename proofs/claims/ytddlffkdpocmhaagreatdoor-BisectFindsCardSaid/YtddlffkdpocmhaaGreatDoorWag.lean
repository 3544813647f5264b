/- Closed facts on the types and functions of this translation, printed by a program off its tables. -/
import Derived.Test.YtddlffkdpocmhaaGreatDoorWaf
import Derived.Test.YtddlffkdpocmhaaGreatDoorProg
import Derived.Test.YtddlffkdpocmhaaGreatDoorWae
set_option linter.unusedSimpArgs false
set_option linter.unusedVariables false
namespace Go.Proofs
open Go Go.Q
def zv : PV → Value
  | .raw v => v
  | .str _ => .string ⟨#[]⟩
  | _ => .slice none 0 0
instance : TMix Tryz.prog := ⟨by kernel_rfl⟩
instance : TScal Tryz.prog 1 := TScal.of (by kernel_rfl)
instance : TSz Tryz.prog 2 1 8 := TSz.of (by kernel_rfl)
instance : TScal Tryz.prog 2 := TScal.of (by kernel_rfl)
instance : TInt Tryz.prog 2 .i64 := ⟨by kernel_rfl⟩
instance : TSz Tryz.prog 3 1 8 := TSz.of (by kernel_rfl)
instance : TScal Tryz.prog 3 := TScal.of (by kernel_rfl)
instance : TInt Tryz.prog 3 .i64 := ⟨by kernel_rfl⟩
instance : TSz Tryz.prog 4 1 1 := TSz.of (by kernel_rfl)
instance : TScal Tryz.prog 4 := TScal.of (by kernel_rfl)
instance : TBool Tryz.prog 4 := ⟨by kernel_rfl⟩
instance : TSz Tryz.prog 5 1 1 := TSz.of (by kernel_rfl)
instance : TScal Tryz.prog 5 := TScal.of (by kernel_rfl)
instance : TInt Tryz.prog 5 .u8 := ⟨by kernel_rfl⟩
instance : TSz Tryz.prog 9 1 16 := TSz.of (by kernel_rfl)
instance : TScal Tryz.prog 9 := TScal.of (by kernel_rfl)
instance : TStr Tryz.prog 9 := ⟨by kernel_rfl⟩
instance : TSz Tryz.prog 12 1 8 := TSz.of (by kernel_rfl)
instance : TScal Tryz.prog 12 := TScal.of (by kernel_rfl)
instance : TInt Tryz.prog 12 .u64 := ⟨by kernel_rfl⟩
instance : TSz Tryz.prog 13 2 24 := TSz.of (by kernel_rfl)
instance : TAgg Tryz.prog 13 2 := TAgg.of (by kernel_rfl)
instance : TStruct Tryz.prog 13 := TStruct.of (by kernel_rfl)
instance : TFldS Tryz.prog 13 0 0 1 := TFldS.of (by kernel_rfl)
instance : TFld Tryz.prog 13 0 0 := TFld.of (by kernel_rfl)
instance : TFldS Tryz.prog 13 1 1 1 := TFldS.of (by kernel_rfl)
instance : TFld Tryz.prog 13 1 1 := TFld.of (by kernel_rfl)
instance : TSz Tryz.prog 19 1 8 := TSz.of (by kernel_rfl)
instance : TAgg Tryz.prog 19 1 := TAgg.of (by kernel_rfl)
instance : TStruct Tryz.prog 19 := TStruct.of (by kernel_rfl)
instance : TFldS Tryz.prog 19 0 0 1 := TFldS.of (by kernel_rfl)
instance : TFld Tryz.prog 19 0 0 := TFld.of (by kernel_rfl)
instance : TSz Tryz.prog 21 1 4 := TSz.of (by kernel_rfl)
instance : TScal Tryz.prog 21 := TScal.of (by kernel_rfl)
instance : TInt Tryz.prog 21 .i32 := ⟨by kernel_rfl⟩
instance : TSz Tryz.prog 22 1 24 := TSz.of (by kernel_rfl)
instance : TScal Tryz.prog 22 := TScal.of (by kernel_rfl)
instance : TSl Tryz.prog 22 59 := ⟨by kernel_rfl⟩
instance : TApp Tryz.prog 22 37 120 := TApp.of (by kernel_rfl)
instance : TSz Tryz.prog 23 1 24 := TSz.of (by kernel_rfl)
instance : TScal Tryz.prog 23 := TScal.of (by kernel_rfl)
instance : TSl Tryz.prog 23 59 := ⟨by kernel_rfl⟩
instance : TApp Tryz.prog 23 37 120 := TApp.of (by kernel_rfl)
instance : TScal Tryz.prog 24 := TScal.of (by kernel_rfl)
instance : TSz Tryz.prog 25 1 24 := TSz.of (by kernel_rfl)
instance : TScal Tryz.prog 25 := TScal.of (by kernel_rfl)
instance : TSl Tryz.prog 25 37 := ⟨by kernel_rfl⟩
instance : TApp Tryz.prog 25 32 32 := TApp.of (by kernel_rfl)
instance : TSz Tryz.prog 26 1 24 := TSz.of (by kernel_rfl)
instance : TScal Tryz.prog 26 := TScal.of (by kernel_rfl)
instance : TSl Tryz.prog 26 4 := ⟨by kernel_rfl⟩
instance : TApp Tryz.prog 26 1 1 := TApp.of (by kernel_rfl)
instance : TSz Tryz.prog 27 3 72 := TSz.of (by kernel_rfl)
instance : TAgg Tryz.prog 27 3 := TAgg.of (by kernel_rfl)
instance : TStruct Tryz.prog 27 := TStruct.of (by kernel_rfl)
instance : TFldS Tryz.prog 27 0 0 1 := TFldS.of (by kernel_rfl)
instance : TFld Tryz.prog 27 0 0 := TFld.of (by kernel_rfl)
instance : TFldS Tryz.prog 27 1 1 1 := TFldS.of (by kernel_rfl)
instance : TFld Tryz.prog 27 1 1 := TFld.of (by kernel_rfl)
instance : TFldS Tryz.prog 27 2 2 1 := TFldS.of (by kernel_rfl)
instance : TFld Tryz.prog 27 2 2 := TFld.of (by kernel_rfl)
instance : TSz Tryz.prog 28 3 72 := TSz.of (by kernel_rfl)
instance : TAgg Tryz.prog 28 3 := TAgg.of (by kernel_rfl)
instance : TStruct Tryz.prog 28 := TStruct.of (by kernel_rfl)
instance : ZeroE Tryz.prog 28 (eBis Bis.zero) := ZeroE.of (us := (eBis Bis.zero).map zv) (by kernel_rfl) (by kernel_rfl)
instance : TFldS Tryz.prog 28 0 0 1 := TFldS.of (by kernel_rfl)
instance : TFld Tryz.prog 28 0 0 := TFld.of (by kernel_rfl)
instance : TFldS Tryz.prog 28 1 1 1 := TFldS.of (by kernel_rfl)
instance : TFld Tryz.prog 28 1 1 := TFld.of (by kernel_rfl)
instance : TFldS Tryz.prog 28 2 2 1 := TFldS.of (by kernel_rfl)
instance : TFld Tryz.prog 28 2 2 := TFld.of (by kernel_rfl)
instance : TScal Tryz.prog 29 := TScal.of (by kernel_rfl)
instance : TScal Tryz.prog 30 := TScal.of (by kernel_rfl)
instance : TScal Tryz.prog 31 := TScal.of (by kernel_rfl)
instance : TSz Tryz.prog 32 1 8 := TSz.of (by kernel_rfl)
instance : TScal Tryz.prog 32 := TScal.of (by kernel_rfl)
instance : TInt Tryz.prog 32 .i64 := ⟨by kernel_rfl⟩
instance : TScal Tryz.prog 34 := TScal.of (by kernel_rfl)
instance : TScal Tryz.prog 35 := TScal.of (by kernel_rfl)
instance : TSz Tryz.prog 36 32 32 := TSz.of (by kernel_rfl)
instance : TAgg Tryz.prog 36 32 := TAgg.of (by kernel_rfl)
instance : TArr Tryz.prog 36 32 5 := ⟨by kernel_rfl⟩
instance : TDig Tryz.prog 36 := TDig.of (E := 5) (by kernel_rfl) (by kernel_rfl) (by kernel_rfl) (by kernel_rfl)
instance : TSz Tryz.prog 37 32 32 := TSz.of (by kernel_rfl)
instance : TAgg Tryz.prog 37 32 := TAgg.of (by kernel_rfl)
instance : TArr Tryz.prog 37 32 5 := ⟨by kernel_rfl⟩
instance : ZeroE Tryz.prog 37 (eDig Dig.zero) := ZeroE.of (us := (eDig Dig.zero).map zv) (by kernel_rfl) (by kernel_rfl)
instance : TDig Tryz.prog 37 := TDig.of (E := 5) (by kernel_rfl) (by kernel_rfl) (by kernel_rfl) (by kernel_rfl)
instance : TScal Tryz.prog 39 := TScal.of (by kernel_rfl)
instance : TScal Tryz.prog 40 := TScal.of (by kernel_rfl)
instance : TScal Tryz.prog 42 := TScal.of (by kernel_rfl)
instance : TScal Tryz.prog 43 := TScal.of (by kernel_rfl)
instance : TScal Tryz.prog 44 := TScal.of (by kernel_rfl)
instance : TScal Tryz.prog 45 := TScal.of (by kernel_rfl)
instance : TScal Tryz.prog 46 := TScal.of (by kernel_rfl)
instance : TScal Tryz.prog 48 := TScal.of (by kernel_rfl)
instance : TScal Tryz.prog 49 := TScal.of (by kernel_rfl)
instance : TScal Tryz.prog 50 := TScal.of (by kernel_rfl)
instance : TScal Tryz.prog 51 := TScal.of (by kernel_rfl)
instance : TScal Tryz.prog 52 := TScal.of (by kernel_rfl)
instance : TScal Tryz.prog 53 := TScal.of (by kernel_rfl)
instance : TScal Tryz.prog 54 := TScal.of (by kernel_rfl)
instance : TSz Tryz.prog 55 1 24 := TSz.of (by kernel_rfl)
instance : TScal Tryz.prog 55 := TScal.of (by kernel_rfl)
instance : TSl Tryz.prog 55 119 := ⟨by kernel_rfl⟩
instance : TApp Tryz.prog 55 139 264 := TApp.of (by kernel_rfl)
instance : TSz Tryz.prog 56 5 88 := TSz.of (by kernel_rfl)
instance : TAgg Tryz.prog 56 5 := TAgg.of (by kernel_rfl)
instance : TStruct Tryz.prog 56 := TStruct.of (by kernel_rfl)
instance : TFldS Tryz.prog 56 0 0 1 := TFldS.of (by kernel_rfl)
instance : TFld Tryz.prog 56 0 0 := TFld.of (by kernel_rfl)
instance : TFldS Tryz.prog 56 1 1 1 := TFldS.of (by kernel_rfl)
instance : TFld Tryz.prog 56 1 1 := TFld.of (by kernel_rfl)
instance : TFldS Tryz.prog 56 2 2 1 := TFldS.of (by kernel_rfl)
instance : TFld Tryz.prog 56 2 2 := TFld.of (by kernel_rfl)
instance : TFldS Tryz.prog 56 3 3 1 := TFldS.of (by kernel_rfl)
instance : TFld Tryz.prog 56 3 3 := TFld.of (by kernel_rfl)
instance : TFldS Tryz.prog 56 4 4 1 := TFldS.of (by kernel_rfl)
instance : TFld Tryz.prog 56 4 4 := TFld.of (by kernel_rfl)
instance : TSz Tryz.prog 57 5 88 := TSz.of (by kernel_rfl)
instance : TAgg Tryz.prog 57 5 := TAgg.of (by kernel_rfl)
instance : TStruct Tryz.prog 57 := TStruct.of (by kernel_rfl)
instance : ZeroE Tryz.prog 57 (ePat Pat.zero) := ZeroE.of (us := (ePat Pat.zero).map zv) (by kernel_rfl) (by kernel_rfl)
instance : TFldS Tryz.prog 57 0 0 1 := TFldS.of (by kernel_rfl)
instance : TFld Tryz.prog 57 0 0 := TFld.of (by kernel_rfl)
instance : TFldS Tryz.prog 57 1 1 1 := TFldS.of (by kernel_rfl)
instance : TFld Tryz.prog 57 1 1 := TFld.of (by kernel_rfl)
instance : TFldS Tryz.prog 57 2 2 1 := TFldS.of (by kernel_rfl)
instance : TFld Tryz.prog 57 2 2 := TFld.of (by kernel_rfl)
instance : TFldS Tryz.prog 57 3 3 1 := TFldS.of (by kernel_rfl)
instance : TFld Tryz.prog 57 3 3 := TFld.of (by kernel_rfl)
instance : TFldS Tryz.prog 57 4 4 1 := TFldS.of (by kernel_rfl)
instance : TFld Tryz.prog 57 4 4 := TFld.of (by kernel_rfl)
instance : TSz Tryz.prog 58 37 120 := TSz.of (by kernel_rfl)
instance : TAgg Tryz.prog 58 37 := TAgg.of (by kernel_rfl)
instance : TStruct Tryz.prog 58 := TStruct.of (by kernel_rfl)
instance : TFldS Tryz.prog 58 0 0 32 := TFldS.of (by kernel_rfl)
instance : TFld Tryz.prog 58 0 0 := TFld.of (by kernel_rfl)
instance : TFldS Tryz.prog 58 1 32 5 := TFldS.of (by kernel_rfl)
instance : TFld Tryz.prog 58 1 32 := TFld.of (by kernel_rfl)
instance : TSz Tryz.prog 59 37 120 := TSz.of (by kernel_rfl)
instance : TAgg Tryz.prog 59 37 := TAgg.of (by kernel_rfl)
instance : TStruct Tryz.prog 59 := TStruct.of (by kernel_rfl)
instance : ZeroE Tryz.prog 59 (eSto Sto.zero) := ZeroE.of (us := (eSto Sto.zero).map zv) (by kernel_rfl) (by kernel_rfl)
instance : TFldS Tryz.prog 59 0 0 32 := TFldS.of (by kernel_rfl)
instance : TFld Tryz.prog 59 0 0 := TFld.of (by kernel_rfl)
instance : TFldS Tryz.prog 59 1 32 5 := TFldS.of (by kernel_rfl)
instance : TFld Tryz.prog 59 1 32 := TFld.of (by kernel_rfl)
instance : TScal Tryz.prog 60 := TScal.of (by kernel_rfl)
instance : TScal Tryz.prog 61 := TScal.of (by kernel_rfl)
instance : TScal Tryz.prog 63 := TScal.of (by kernel_rfl)
instance : TScal Tryz.prog 64 := TScal.of (by kernel_rfl)
instance : TScal Tryz.prog 65 := TScal.of (by kernel_rfl)
instance : TScal Tryz.prog 67 := TScal.of (by kernel_rfl)
instance : TScal Tryz.prog 68 := TScal.of (by kernel_rfl)
instance : TScal Tryz.prog 69 := TScal.of (by kernel_rfl)
instance : TScal Tryz.prog 70 := TScal.of (by kernel_rfl)
instance : TScal Tryz.prog 72 := TScal.of (by kernel_rfl)
instance : TScal Tryz.prog 73 := TScal.of (by kernel_rfl)
instance : TSz Tryz.prog 74 64 64 := TSz.of (by kernel_rfl)
instance : TAgg Tryz.prog 74 64 := TAgg.of (by kernel_rfl)
instance : TArr Tryz.prog 74 2 37 := ⟨by kernel_rfl⟩
instance : TScal Tryz.prog 75 := TScal.of (by kernel_rfl)
instance : TScal Tryz.prog 76 := TScal.of (by kernel_rfl)
instance : TScal Tryz.prog 77 := TScal.of (by kernel_rfl)
instance : TScal Tryz.prog 79 := TScal.of (by kernel_rfl)
instance : TScal Tryz.prog 80 := TScal.of (by kernel_rfl)
instance : TScal Tryz.prog 81 := TScal.of (by kernel_rfl)
instance : TScal Tryz.prog 82 := TScal.of (by kernel_rfl)
instance : TScal Tryz.prog 84 := TScal.of (by kernel_rfl)
instance : TSz Tryz.prog 85 1 8 := TSz.of (by kernel_rfl)
instance : TScal Tryz.prog 85 := TScal.of (by kernel_rfl)
instance : TSz Tryz.prog 86 2 32 := TSz.of (by kernel_rfl)
instance : TAgg Tryz.prog 86 2 := TAgg.of (by kernel_rfl)
instance : TStruct Tryz.prog 86 := TStruct.of (by kernel_rfl)
instance : TFldS Tryz.prog 86 0 0 1 := TFldS.of (by kernel_rfl)
instance : TFld Tryz.prog 86 0 0 := TFld.of (by kernel_rfl)
instance : TFldS Tryz.prog 86 1 1 1 := TFldS.of (by kernel_rfl)
instance : TFld Tryz.prog 86 1 1 := TFld.of (by kernel_rfl)
instance : TSz Tryz.prog 87 2 32 := TSz.of (by kernel_rfl)
instance : TAgg Tryz.prog 87 2 := TAgg.of (by kernel_rfl)
instance : TStruct Tryz.prog 87 := TStruct.of (by kernel_rfl)
instance : TFldS Tryz.prog 87 0 0 1 := TFldS.of (by kernel_rfl)
instance : TFld Tryz.prog 87 0 0 := TFld.of (by kernel_rfl)
instance : TFldS Tryz.prog 87 1 1 1 := TFldS.of (by kernel_rfl)
instance : TFld Tryz.prog 87 1 1 := TFld.of (by kernel_rfl)
instance : TScal Tryz.prog 89 := TScal.of (by kernel_rfl)
instance : TScal Tryz.prog 90 := TScal.of (by kernel_rfl)
instance : TScal Tryz.prog 91 := TScal.of (by kernel_rfl)
instance : TScal Tryz.prog 92 := TScal.of (by kernel_rfl)
instance : TScal Tryz.prog 93 := TScal.of (by kernel_rfl)
instance : TScal Tryz.prog 94 := TScal.of (by kernel_rfl)
instance : TScal Tryz.prog 95 := TScal.of (by kernel_rfl)
instance : TScal Tryz.prog 96 := TScal.of (by kernel_rfl)
instance : TScal Tryz.prog 97 := TScal.of (by kernel_rfl)
instance : TScal Tryz.prog 98 := TScal.of (by kernel_rfl)
instance : TScal Tryz.prog 99 := TScal.of (by kernel_rfl)
instance : TScal Tryz.prog 100 := TScal.of (by kernel_rfl)
instance : TScal Tryz.prog 101 := TScal.of (by kernel_rfl)
instance : TScal Tryz.prog 102 := TScal.of (by kernel_rfl)
instance : TScal Tryz.prog 103 := TScal.of (by kernel_rfl)
instance : TScal Tryz.prog 104 := TScal.of (by kernel_rfl)
instance : TSz Tryz.prog 106 1 8 := TSz.of (by kernel_rfl)
instance : TScal Tryz.prog 106 := TScal.of (by kernel_rfl)
instance : TSz Tryz.prog 107 1 8 := TSz.of (by kernel_rfl)
instance : TScal Tryz.prog 107 := TScal.of (by kernel_rfl)
instance : TScal Tryz.prog 108 := TScal.of (by kernel_rfl)
instance : TScal Tryz.prog 109 := TScal.of (by kernel_rfl)
instance : TSz Tryz.prog 110 1 8 := TSz.of (by kernel_rfl)
instance : TScal Tryz.prog 110 := TScal.of (by kernel_rfl)
instance : TScal Tryz.prog 111 := TScal.of (by kernel_rfl)
instance : TScal Tryz.prog 112 := TScal.of (by kernel_rfl)
instance : TScal Tryz.prog 113 := TScal.of (by kernel_rfl)
instance : TSz Tryz.prog 114 33 40 := TSz.of (by kernel_rfl)
instance : TAgg Tryz.prog 114 33 := TAgg.of (by kernel_rfl)
instance : TStruct Tryz.prog 114 := TStruct.of (by kernel_rfl)
instance : TFldS Tryz.prog 114 0 0 32 := TFldS.of (by kernel_rfl)
instance : TFld Tryz.prog 114 0 0 := TFld.of (by kernel_rfl)
instance : TFldS Tryz.prog 114 1 32 1 := TFldS.of (by kernel_rfl)
instance : TFld Tryz.prog 114 1 32 := TFld.of (by kernel_rfl)
instance : TSz Tryz.prog 115 33 40 := TSz.of (by kernel_rfl)
instance : TAgg Tryz.prog 115 33 := TAgg.of (by kernel_rfl)
instance : TStruct Tryz.prog 115 := TStruct.of (by kernel_rfl)
instance : ZeroE Tryz.prog 115 (eIdent Ident.zero) := ZeroE.of (us := (eIdent Ident.zero).map zv) (by kernel_rfl) (by kernel_rfl)
instance : TFldS Tryz.prog 115 0 0 32 := TFldS.of (by kernel_rfl)
instance : TFld Tryz.prog 115 0 0 := TFld.of (by kernel_rfl)
instance : TFldS Tryz.prog 115 1 32 1 := TFldS.of (by kernel_rfl)
instance : TFld Tryz.prog 115 1 32 := TFld.of (by kernel_rfl)
instance : TIdent Tryz.prog 115 := TIdent.of (D := 37) (I := 3) (E := 5) (by kernel_rfl) (by kernel_rfl) (by kernel_rfl) (by kernel_rfl) (by kernel_rfl) (by kernel_rfl) (by kernel_rfl) (by kernel_rfl) (by kernel_rfl)
instance : TSz Tryz.prog 116 1 24 := TSz.of (by kernel_rfl)
instance : TScal Tryz.prog 116 := TScal.of (by kernel_rfl)
instance : TSl Tryz.prog 116 9 := ⟨by kernel_rfl⟩
instance : TApp Tryz.prog 116 1 16 := TApp.of (by kernel_rfl)
instance : TSz Tryz.prog 117 1 24 := TSz.of (by kernel_rfl)
instance : TScal Tryz.prog 117 := TScal.of (by kernel_rfl)
instance : TSl Tryz.prog 117 115 := ⟨by kernel_rfl⟩
instance : TApp Tryz.prog 117 33 40 := TApp.of (by kernel_rfl)
instance : TSz Tryz.prog 118 139 264 := TSz.of (by kernel_rfl)
instance : TAgg Tryz.prog 118 139 := TAgg.of (by kernel_rfl)
instance : TStruct Tryz.prog 118 := TStruct.of (by kernel_rfl)
instance : TFldS Tryz.prog 118 0 0 1 := TFldS.of (by kernel_rfl)
instance : TFld Tryz.prog 118 0 0 := TFld.of (by kernel_rfl)
instance : TFldS Tryz.prog 118 1 1 33 := TFldS.of (by kernel_rfl)
instance : TFld Tryz.prog 118 1 1 := TFld.of (by kernel_rfl)
instance : TFldS Tryz.prog 118 2 34 1 := TFldS.of (by kernel_rfl)
instance : TFld Tryz.prog 118 2 34 := TFld.of (by kernel_rfl)
instance : TFldS Tryz.prog 118 3 35 33 := TFldS.of (by kernel_rfl)
instance : TFld Tryz.prog 118 3 35 := TFld.of (by kernel_rfl)
instance : TFldS Tryz.prog 118 4 68 1 := TFldS.of (by kernel_rfl)
instance : TFld Tryz.prog 118 4 68 := TFld.of (by kernel_rfl)
instance : TFldS Tryz.prog 118 5 69 1 := TFldS.of (by kernel_rfl)
instance : TFld Tryz.prog 118 5 69 := TFld.of (by kernel_rfl)
instance : TFldS Tryz.prog 118 6 70 1 := TFldS.of (by kernel_rfl)
instance : TFld Tryz.prog 118 6 70 := TFld.of (by kernel_rfl)
instance : TFldS Tryz.prog 118 7 71 33 := TFldS.of (by kernel_rfl)
instance : TFld Tryz.prog 118 7 71 := TFld.of (by kernel_rfl)
instance : TFldS Tryz.prog 118 8 104 33 := TFldS.of (by kernel_rfl)
instance : TFld Tryz.prog 118 8 104 := TFld.of (by kernel_rfl)
instance : TFldS Tryz.prog 118 9 137 1 := TFldS.of (by kernel_rfl)
instance : TFld Tryz.prog 118 9 137 := TFld.of (by kernel_rfl)
instance : TFldS Tryz.prog 118 10 138 1 := TFldS.of (by kernel_rfl)
instance : TFld Tryz.prog 118 10 138 := TFld.of (by kernel_rfl)
instance : TSz Tryz.prog 119 139 264 := TSz.of (by kernel_rfl)
instance : TAgg Tryz.prog 119 139 := TAgg.of (by kernel_rfl)
instance : TStruct Tryz.prog 119 := TStruct.of (by kernel_rfl)
instance : ZeroE Tryz.prog 119 (eChg Chg.zero) := ZeroE.of (us := (eChg Chg.zero).map zv) (by kernel_rfl) (by kernel_rfl)
instance : TFldS Tryz.prog 119 0 0 1 := TFldS.of (by kernel_rfl)
instance : TFld Tryz.prog 119 0 0 := TFld.of (by kernel_rfl)
instance : TFldS Tryz.prog 119 1 1 33 := TFldS.of (by kernel_rfl)
instance : TFld Tryz.prog 119 1 1 := TFld.of (by kernel_rfl)
instance : TFldS Tryz.prog 119 2 34 1 := TFldS.of (by kernel_rfl)
instance : TFld Tryz.prog 119 2 34 := TFld.of (by kernel_rfl)
instance : TFldS Tryz.prog 119 3 35 33 := TFldS.of (by kernel_rfl)
instance : TFld Tryz.prog 119 3 35 := TFld.of (by kernel_rfl)
instance : TFldS Tryz.prog 119 4 68 1 := TFldS.of (by kernel_rfl)
instance : TFld Tryz.prog 119 4 68 := TFld.of (by kernel_rfl)
instance : TFldS Tryz.prog 119 5 69 1 := TFldS.of (by kernel_rfl)
instance : TFld Tryz.prog 119 5 69 := TFld.of (by kernel_rfl)
instance : TFldS Tryz.prog 119 6 70 1 := TFldS.of (by kernel_rfl)
instance : TFld Tryz.prog 119 6 70 := TFld.of (by kernel_rfl)
instance : TFldS Tryz.prog 119 7 71 33 := TFldS.of (by kernel_rfl)
instance : TFld Tryz.prog 119 7 71 := TFld.of (by kernel_rfl)
instance : TFldS Tryz.prog 119 8 104 33 := TFldS.of (by kernel_rfl)
instance : TFld Tryz.prog 119 8 104 := TFld.of (by kernel_rfl)
instance : TFldS Tryz.prog 119 9 137 1 := TFldS.of (by kernel_rfl)
instance : TFld Tryz.prog 119 9 137 := TFld.of (by kernel_rfl)
instance : TFldS Tryz.prog 119 10 138 1 := TFldS.of (by kernel_rfl)
instance : TFld Tryz.prog 119 10 138 := TFld.of (by kernel_rfl)
instance : TScal Tryz.prog 120 := TScal.of (by kernel_rfl)
instance : TScal Tryz.prog 121 := TScal.of (by kernel_rfl)
instance : TScal Tryz.prog 122 := TScal.of (by kernel_rfl)
instance : TScal Tryz.prog 124 := TScal.of (by kernel_rfl)
instance : TScal Tryz.prog 125 := TScal.of (by kernel_rfl)
instance : TScal Tryz.prog 126 := TScal.of (by kernel_rfl)
instance : TScal Tryz.prog 127 := TScal.of (by kernel_rfl)
instance : TScal Tryz.prog 128 := TScal.of (by kernel_rfl)
instance : TScal Tryz.prog 129 := TScal.of (by kernel_rfl)
instance : TSz Tryz.prog 130 1 8 := TSz.of (by kernel_rfl)
instance : TScal Tryz.prog 130 := TScal.of (by kernel_rfl)
instance : TScal Tryz.prog 132 := TScal.of (by kernel_rfl)
instance : TScal Tryz.prog 133 := TScal.of (by kernel_rfl)
instance : TScal Tryz.prog 134 := TScal.of (by kernel_rfl)
instance : TSz Tryz.prog 135 1 24 := TSz.of (by kernel_rfl)
instance : TScal Tryz.prog 135 := TScal.of (by kernel_rfl)
instance : TSl Tryz.prog 135 139 := ⟨by kernel_rfl⟩
instance : TApp Tryz.prog 135 34 48 := TApp.of (by kernel_rfl)
instance : TScal Tryz.prog 136 := TScal.of (by kernel_rfl)
instance : TScal Tryz.prog 137 := TScal.of (by kernel_rfl)
instance : TSz Tryz.prog 138 34 48 := TSz.of (by kernel_rfl)
instance : TAgg Tryz.prog 138 34 := TAgg.of (by kernel_rfl)
instance : TStruct Tryz.prog 138 := TStruct.of (by kernel_rfl)
instance : TFldS Tryz.prog 138 0 0 33 := TFldS.of (by kernel_rfl)
instance : TFld Tryz.prog 138 0 0 := TFld.of (by kernel_rfl)
instance : TFldS Tryz.prog 138 1 33 1 := TFldS.of (by kernel_rfl)
instance : TFld Tryz.prog 138 1 33 := TFld.of (by kernel_rfl)
instance : TSz Tryz.prog 139 34 48 := TSz.of (by kernel_rfl)
instance : TAgg Tryz.prog 139 34 := TAgg.of (by kernel_rfl)
instance : TStruct Tryz.prog 139 := TStruct.of (by kernel_rfl)
instance : TFldS Tryz.prog 139 0 0 33 := TFldS.of (by kernel_rfl)
instance : TFld Tryz.prog 139 0 0 := TFld.of (by kernel_rfl)
instance : TFldS Tryz.prog 139 1 33 1 := TFldS.of (by kernel_rfl)
instance : TFld Tryz.prog 139 1 33 := TFld.of (by kernel_rfl)
instance : TScal Tryz.prog 140 := TScal.of (by kernel_rfl)
instance : TScal Tryz.prog 141 := TScal.of (by kernel_rfl)
instance : TScal Tryz.prog 142 := TScal.of (by kernel_rfl)
instance : TScal Tryz.prog 144 := TScal.of (by kernel_rfl)
instance : TScal Tryz.prog 145 := TScal.of (by kernel_rfl)
instance : TScal Tryz.prog 146 := TScal.of (by kernel_rfl)
instance : TScal Tryz.prog 147 := TScal.of (by kernel_rfl)
instance : TSz Tryz.prog 148 1 24 := TSz.of (by kernel_rfl)
instance : TScal Tryz.prog 148 := TScal.of (by kernel_rfl)
instance : TSl Tryz.prog 148 5 := ⟨by kernel_rfl⟩
instance : TByt Tryz.prog 148 := ⟨5, by kernel_rfl, by kernel_rfl⟩
instance : TApp Tryz.prog 148 1 1 := TApp.of (by kernel_rfl)
instance : TSz Tryz.prog 149 1 8 := TSz.of (by kernel_rfl)
instance : TScal Tryz.prog 149 := TScal.of (by kernel_rfl)
instance : TSz Tryz.prog 150 2 32 := TSz.of (by kernel_rfl)
instance : TAgg Tryz.prog 150 2 := TAgg.of (by kernel_rfl)
instance : TStruct Tryz.prog 150 := TStruct.of (by kernel_rfl)
instance : TFldS Tryz.prog 150 0 0 1 := TFldS.of (by kernel_rfl)
instance : TFld Tryz.prog 150 0 0 := TFld.of (by kernel_rfl)
instance : TFldS Tryz.prog 150 1 1 1 := TFldS.of (by kernel_rfl)
instance : TFld Tryz.prog 150 1 1 := TFld.of (by kernel_rfl)
instance : TSz Tryz.prog 151 2 32 := TSz.of (by kernel_rfl)
instance : TAgg Tryz.prog 151 2 := TAgg.of (by kernel_rfl)
instance : TStruct Tryz.prog 151 := TStruct.of (by kernel_rfl)
instance : TFldS Tryz.prog 151 0 0 1 := TFldS.of (by kernel_rfl)
instance : TFld Tryz.prog 151 0 0 := TFld.of (by kernel_rfl)
instance : TFldS Tryz.prog 151 1 1 1 := TFldS.of (by kernel_rfl)
instance : TFld Tryz.prog 151 1 1 := TFld.of (by kernel_rfl)
instance : TSz Tryz.prog 152 1 24 := TSz.of (by kernel_rfl)
instance : TScal Tryz.prog 152 := TScal.of (by kernel_rfl)
instance : TSl Tryz.prog 152 155 := ⟨by kernel_rfl⟩
instance : TApp Tryz.prog 152 34 48 := TApp.of (by kernel_rfl)
instance : TScal Tryz.prog 153 := TScal.of (by kernel_rfl)
instance : TSz Tryz.prog 154 34 48 := TSz.of (by kernel_rfl)
instance : TAgg Tryz.prog 154 34 := TAgg.of (by kernel_rfl)
instance : TStruct Tryz.prog 154 := TStruct.of (by kernel_rfl)
instance : TFldS Tryz.prog 154 0 0 33 := TFldS.of (by kernel_rfl)
instance : TFld Tryz.prog 154 0 0 := TFld.of (by kernel_rfl)
instance : TFldS Tryz.prog 154 1 33 1 := TFldS.of (by kernel_rfl)
instance : TFld Tryz.prog 154 1 33 := TFld.of (by kernel_rfl)
instance : TSz Tryz.prog 155 34 48 := TSz.of (by kernel_rfl)
instance : TAgg Tryz.prog 155 34 := TAgg.of (by kernel_rfl)
instance : TStruct Tryz.prog 155 := TStruct.of (by kernel_rfl)
instance : TFldS Tryz.prog 155 0 0 33 := TFldS.of (by kernel_rfl)
instance : TFld Tryz.prog 155 0 0 := TFld.of (by kernel_rfl)
instance : TFldS Tryz.prog 155 1 33 1 := TFldS.of (by kernel_rfl)
instance : TFld Tryz.prog 155 1 33 := TFld.of (by kernel_rfl)
instance : TSz Tryz.prog 156 172 296 := TSz.of (by kernel_rfl)
instance : TAgg Tryz.prog 156 172 := TAgg.of (by kernel_rfl)
instance : TStruct Tryz.prog 156 := TStruct.of (by kernel_rfl)
instance : TFldS Tryz.prog 156 0 0 33 := TFldS.of (by kernel_rfl)
instance : TFld Tryz.prog 156 0 0 := TFld.of (by kernel_rfl)
instance : TFldS Tryz.prog 156 1 33 1 := TFldS.of (by kernel_rfl)
instance : TFld Tryz.prog 156 1 33 := TFld.of (by kernel_rfl)
instance : TFldS Tryz.prog 156 2 34 33 := TFldS.of (by kernel_rfl)
instance : TFld Tryz.prog 156 2 34 := TFld.of (by kernel_rfl)
instance : TFldS Tryz.prog 156 3 67 1 := TFldS.of (by kernel_rfl)
instance : TFld Tryz.prog 156 3 67 := TFld.of (by kernel_rfl)
instance : TFldS Tryz.prog 156 4 68 33 := TFldS.of (by kernel_rfl)
instance : TFld Tryz.prog 156 4 68 := TFld.of (by kernel_rfl)
instance : TFldS Tryz.prog 156 5 101 1 := TFldS.of (by kernel_rfl)
instance : TFld Tryz.prog 156 5 101 := TFld.of (by kernel_rfl)
instance : TFldS Tryz.prog 156 6 102 1 := TFldS.of (by kernel_rfl)
instance : TFld Tryz.prog 156 6 102 := TFld.of (by kernel_rfl)
instance : TFldS Tryz.prog 156 7 103 1 := TFldS.of (by kernel_rfl)
instance : TFld Tryz.prog 156 7 103 := TFld.of (by kernel_rfl)
instance : TFldS Tryz.prog 156 8 104 1 := TFldS.of (by kernel_rfl)
instance : TFld Tryz.prog 156 8 104 := TFld.of (by kernel_rfl)
instance : TFldS Tryz.prog 156 9 105 33 := TFldS.of (by kernel_rfl)
instance : TFld Tryz.prog 156 9 105 := TFld.of (by kernel_rfl)
instance : TFldS Tryz.prog 156 10 138 33 := TFldS.of (by kernel_rfl)
instance : TFld Tryz.prog 156 10 138 := TFld.of (by kernel_rfl)
instance : TFldS Tryz.prog 156 11 171 1 := TFldS.of (by kernel_rfl)
instance : TFld Tryz.prog 156 11 171 := TFld.of (by kernel_rfl)
instance : TSz Tryz.prog 157 172 296 := TSz.of (by kernel_rfl)
instance : TAgg Tryz.prog 157 172 := TAgg.of (by kernel_rfl)
instance : TStruct Tryz.prog 157 := TStruct.of (by kernel_rfl)
instance : ZeroE Tryz.prog 157 (eAtm Atm.zero) := ZeroE.of (us := (eAtm Atm.zero).map zv) (by kernel_rfl) (by kernel_rfl)
instance : TFldS Tryz.prog 157 0 0 33 := TFldS.of (by kernel_rfl)
instance : TFld Tryz.prog 157 0 0 := TFld.of (by kernel_rfl)
instance : TFldS Tryz.prog 157 1 33 1 := TFldS.of (by kernel_rfl)
instance : TFld Tryz.prog 157 1 33 := TFld.of (by kernel_rfl)
instance : TFldS Tryz.prog 157 2 34 33 := TFldS.of (by kernel_rfl)
instance : TFld Tryz.prog 157 2 34 := TFld.of (by kernel_rfl)
instance : TFldS Tryz.prog 157 3 67 1 := TFldS.of (by kernel_rfl)
instance : TFld Tryz.prog 157 3 67 := TFld.of (by kernel_rfl)
instance : TFldS Tryz.prog 157 4 68 33 := TFldS.of (by kernel_rfl)
instance : TFld Tryz.prog 157 4 68 := TFld.of (by kernel_rfl)
instance : TFldS Tryz.prog 157 5 101 1 := TFldS.of (by kernel_rfl)
instance : TFld Tryz.prog 157 5 101 := TFld.of (by kernel_rfl)
instance : TFldS Tryz.prog 157 6 102 1 := TFldS.of (by kernel_rfl)
instance : TFld Tryz.prog 157 6 102 := TFld.of (by kernel_rfl)
instance : TFldS Tryz.prog 157 7 103 1 := TFldS.of (by kernel_rfl)
instance : TFld Tryz.prog 157 7 103 := TFld.of (by kernel_rfl)
instance : TFldS Tryz.prog 157 8 104 1 := TFldS.of (by kernel_rfl)
instance : TFld Tryz.prog 157 8 104 := TFld.of (by kernel_rfl)
instance : TFldS Tryz.prog 157 9 105 33 := TFldS.of (by kernel_rfl)
instance : TFld Tryz.prog 157 9 105 := TFld.of (by kernel_rfl)
instance : TFldS Tryz.prog 157 10 138 33 := TFldS.of (by kernel_rfl)
instance : TFld Tryz.prog 157 10 138 := TFld.of (by kernel_rfl)
instance : TFldS Tryz.prog 157 11 171 1 := TFldS.of (by kernel_rfl)
instance : TFld Tryz.prog 157 11 171 := TFld.of (by kernel_rfl)
instance : TScal Tryz.prog 159 := TScal.of (by kernel_rfl)
instance : TScal Tryz.prog 160 := TScal.of (by kernel_rfl)
instance : TScal Tryz.prog 161 := TScal.of (by kernel_rfl)
instance : TScal Tryz.prog 162 := TScal.of (by kernel_rfl)
instance : TScal Tryz.prog 163 := TScal.of (by kernel_rfl)
instance : TScal Tryz.prog 164 := TScal.of (by kernel_rfl)
instance : TScal Tryz.prog 165 := TScal.of (by kernel_rfl)
instance : TScal Tryz.prog 166 := TScal.of (by kernel_rfl)
instance : TSz Tryz.prog 167 1 24 := TSz.of (by kernel_rfl)
instance : TScal Tryz.prog 167 := TScal.of (by kernel_rfl)
instance : TSl Tryz.prog 167 157 := ⟨by kernel_rfl⟩
instance : TApp Tryz.prog 167 172 296 := TApp.of (by kernel_rfl)
instance : TScal Tryz.prog 169 := TScal.of (by kernel_rfl)
instance : TSz Tryz.prog 170 1 4 := TSz.of (by kernel_rfl)
instance : TScal Tryz.prog 170 := TScal.of (by kernel_rfl)
instance : TInt Tryz.prog 170 .u32 := ⟨by kernel_rfl⟩
instance : TSz Tryz.prog 171 8 32 := TSz.of (by kernel_rfl)
instance : TAgg Tryz.prog 171 8 := TAgg.of (by kernel_rfl)
instance : TArr Tryz.prog 171 8 170 := ⟨by kernel_rfl⟩
instance : ZeroE Tryz.prog 171 (eW (List.replicate 8 0)) := ZeroE.of (us := (eW (List.replicate 8 0)).map zv) (by kernel_rfl) (by kernel_rfl)
instance : TScal Tryz.prog 172 := TScal.of (by kernel_rfl)
instance : TScal Tryz.prog 173 := TScal.of (by kernel_rfl)
instance : TScal Tryz.prog 174 := TScal.of (by kernel_rfl)
instance : TScal Tryz.prog 175 := TScal.of (by kernel_rfl)
instance : TScal Tryz.prog 176 := TScal.of (by kernel_rfl)
instance : TScal Tryz.prog 177 := TScal.of (by kernel_rfl)
instance : TScal Tryz.prog 178 := TScal.of (by kernel_rfl)
instance : TScal Tryz.prog 179 := TScal.of (by kernel_rfl)
instance : TScal Tryz.prog 180 := TScal.of (by kernel_rfl)
instance : TScal Tryz.prog 181 := TScal.of (by kernel_rfl)
instance : TSz Tryz.prog 182 1 8 := TSz.of (by kernel_rfl)
instance : TScal Tryz.prog 182 := TScal.of (by kernel_rfl)
instance : TInt Tryz.prog 182 .u64 := ⟨by kernel_rfl⟩
instance : TScal Tryz.prog 183 := TScal.of (by kernel_rfl)
instance : TScal Tryz.prog 186 := TScal.of (by kernel_rfl)
instance : TScal Tryz.prog 187 := TScal.of (by kernel_rfl)
instance : TScal Tryz.prog 188 := TScal.of (by kernel_rfl)
instance : TScal Tryz.prog 189 := TScal.of (by kernel_rfl)
instance : TScal Tryz.prog 190 := TScal.of (by kernel_rfl)
instance : TScal Tryz.prog 191 := TScal.of (by kernel_rfl)
instance : TScal Tryz.prog 192 := TScal.of (by kernel_rfl)
instance : TScal Tryz.prog 193 := TScal.of (by kernel_rfl)
instance : TScal Tryz.prog 194 := TScal.of (by kernel_rfl)
instance : TScal Tryz.prog 195 := TScal.of (by kernel_rfl)
instance : TScal Tryz.prog 196 := TScal.of (by kernel_rfl)
instance : TScal Tryz.prog 197 := TScal.of (by kernel_rfl)
instance : TSz Tryz.prog 198 1 8 := TSz.of (by kernel_rfl)
instance : TScal Tryz.prog 198 := TScal.of (by kernel_rfl)
instance : TInt Tryz.prog 198 .u64 := ⟨by kernel_rfl⟩
instance : TSz Tryz.prog 199 64 256 := TSz.of (by kernel_rfl)
instance : TAgg Tryz.prog 199 64 := TAgg.of (by kernel_rfl)
instance : TArr Tryz.prog 199 64 170 := ⟨by kernel_rfl⟩
instance : ZeroE Tryz.prog 199 (eW (List.replicate 64 0)) := ZeroE.of (us := (eW (List.replicate 64 0)).map zv) (by kernel_rfl) (by kernel_rfl)
instance : TScal Tryz.prog 200 := TScal.of (by kernel_rfl)
instance : TScal Tryz.prog 201 := TScal.of (by kernel_rfl)
instance : TScal Tryz.prog 202 := TScal.of (by kernel_rfl)
instance : TSz Tryz.prog 203 1 8 := TSz.of (by kernel_rfl)
instance : TScal Tryz.prog 203 := TScal.of (by kernel_rfl)
instance : TScal Tryz.prog 204 := TScal.of (by kernel_rfl)
instance : TSz Tryz.prog 205 1 8 := TSz.of (by kernel_rfl)
instance : TScal Tryz.prog 205 := TScal.of (by kernel_rfl)
instance : TInt Tryz.prog 205 .i64 := ⟨by kernel_rfl⟩
instance : TScal Tryz.prog 207 := TScal.of (by kernel_rfl)
instance : TScal Tryz.prog 208 := TScal.of (by kernel_rfl)
instance : TScal Tryz.prog 209 := TScal.of (by kernel_rfl)
instance : TScal Tryz.prog 210 := TScal.of (by kernel_rfl)
instance : TScal Tryz.prog 211 := TScal.of (by kernel_rfl)
instance : TScal Tryz.prog 212 := TScal.of (by kernel_rfl)
instance : TScal Tryz.prog 213 := TScal.of (by kernel_rfl)
instance : TScal Tryz.prog 214 := TScal.of (by kernel_rfl)
instance : TSz Tryz.prog 215 1 24 := TSz.of (by kernel_rfl)
instance : TScal Tryz.prog 215 := TScal.of (by kernel_rfl)
instance : TSl Tryz.prog 215 217 := ⟨by kernel_rfl⟩
instance : TApp Tryz.prog 215 3 48 := TApp.of (by kernel_rfl)
instance : TSz Tryz.prog 216 3 48 := TSz.of (by kernel_rfl)
instance : TAgg Tryz.prog 216 3 := TAgg.of (by kernel_rfl)
instance : TStruct Tryz.prog 216 := TStruct.of (by kernel_rfl)
instance : TFldS Tryz.prog 216 0 0 1 := TFldS.of (by kernel_rfl)
instance : TFld Tryz.prog 216 0 0 := TFld.of (by kernel_rfl)
instance : TFldS Tryz.prog 216 1 1 1 := TFldS.of (by kernel_rfl)
instance : TFld Tryz.prog 216 1 1 := TFld.of (by kernel_rfl)
instance : TFldS Tryz.prog 216 2 2 1 := TFldS.of (by kernel_rfl)
instance : TFld Tryz.prog 216 2 2 := TFld.of (by kernel_rfl)
instance : TSz Tryz.prog 217 3 48 := TSz.of (by kernel_rfl)
instance : TAgg Tryz.prog 217 3 := TAgg.of (by kernel_rfl)
instance : TStruct Tryz.prog 217 := TStruct.of (by kernel_rfl)
instance : ZeroE Tryz.prog 217 (eSx Sx.zero) := ZeroE.of (us := (eSx Sx.zero).map zv) (by kernel_rfl) (by kernel_rfl)
instance : TFldS Tryz.prog 217 0 0 1 := TFldS.of (by kernel_rfl)
instance : TFld Tryz.prog 217 0 0 := TFld.of (by kernel_rfl)
instance : TFldS Tryz.prog 217 1 1 1 := TFldS.of (by kernel_rfl)
instance : TFld Tryz.prog 217 1 1 := TFld.of (by kernel_rfl)
instance : TFldS Tryz.prog 217 2 2 1 := TFldS.of (by kernel_rfl)
instance : TFld Tryz.prog 217 2 2 := TFld.of (by kernel_rfl)
instance : TScal Tryz.prog 218 := TScal.of (by kernel_rfl)
instance : TScal Tryz.prog 219 := TScal.of (by kernel_rfl)
instance : TScal Tryz.prog 220 := TScal.of (by kernel_rfl)
instance : TScal Tryz.prog 221 := TScal.of (by kernel_rfl)
instance : TScal Tryz.prog 222 := TScal.of (by kernel_rfl)
instance : TScal Tryz.prog 223 := TScal.of (by kernel_rfl)
instance : TScal Tryz.prog 224 := TScal.of (by kernel_rfl)
instance : TScal Tryz.prog 225 := TScal.of (by kernel_rfl)
instance : TScal Tryz.prog 226 := TScal.of (by kernel_rfl)
instance : TScal Tryz.prog 227 := TScal.of (by kernel_rfl)
instance : TScal Tryz.prog 228 := TScal.of (by kernel_rfl)
instance : TScal Tryz.prog 229 := TScal.of (by kernel_rfl)
instance : TScal Tryz.prog 230 := TScal.of (by kernel_rfl)
instance : TScal Tryz.prog 231 := TScal.of (by kernel_rfl)
instance : TSz Tryz.prog 232 1 8 := TSz.of (by kernel_rfl)
instance : TScal Tryz.prog 232 := TScal.of (by kernel_rfl)
instance : TScal Tryz.prog 233 := TScal.of (by kernel_rfl)
instance : TScal Tryz.prog 234 := TScal.of (by kernel_rfl)
instance : TSz Tryz.prog 235 1 8 := TSz.of (by kernel_rfl)
instance : TScal Tryz.prog 235 := TScal.of (by kernel_rfl)
instance : TInt Tryz.prog 235 .u64 := ⟨by kernel_rfl⟩
instance : TScal Tryz.prog 236 := TScal.of (by kernel_rfl)
instance : TScal Tryz.prog 237 := TScal.of (by kernel_rfl)
instance : TScal Tryz.prog 238 := TScal.of (by kernel_rfl)
instance : TSz Tryz.prog 239 1 8 := TSz.of (by kernel_rfl)
instance : TScal Tryz.prog 239 := TScal.of (by kernel_rfl)
instance : TScal Tryz.prog 240 := TScal.of (by kernel_rfl)
instance : TScal Tryz.prog 241 := TScal.of (by kernel_rfl)
instance : TScal Tryz.prog 242 := TScal.of (by kernel_rfl)
instance : TScal Tryz.prog 243 := TScal.of (by kernel_rfl)
instance : TScal Tryz.prog 244 := TScal.of (by kernel_rfl)
instance : TScal Tryz.prog 245 := TScal.of (by kernel_rfl)
instance : TScal Tryz.prog 246 := TScal.of (by kernel_rfl)
instance : TScal Tryz.prog 247 := TScal.of (by kernel_rfl)
instance : TScal Tryz.prog 248 := TScal.of (by kernel_rfl)
instance : TScal Tryz.prog 250 := TScal.of (by kernel_rfl)
instance : TScal Tryz.prog 251 := TScal.of (by kernel_rfl)
instance : TSz Tryz.prog 252 1 24 := TSz.of (by kernel_rfl)
instance : TScal Tryz.prog 252 := TScal.of (by kernel_rfl)
instance : TSl Tryz.prog 252 3 := ⟨by kernel_rfl⟩
instance : TApp Tryz.prog 252 1 8 := TApp.of (by kernel_rfl)
instance : TScal Tryz.prog 253 := TScal.of (by kernel_rfl)
instance : TScal Tryz.prog 254 := TScal.of (by kernel_rfl)
instance : TScal Tryz.prog 255 := TScal.of (by kernel_rfl)
instance : TScal Tryz.prog 256 := TScal.of (by kernel_rfl)
instance : TScal Tryz.prog 257 := TScal.of (by kernel_rfl)
instance : TSz Tryz.prog 258 1 8 := TSz.of (by kernel_rfl)
instance : TScal Tryz.prog 258 := TScal.of (by kernel_rfl)
instance : TSz Tryz.prog 259 2 32 := TSz.of (by kernel_rfl)
instance : TAgg Tryz.prog 259 2 := TAgg.of (by kernel_rfl)
instance : TStruct Tryz.prog 259 := TStruct.of (by kernel_rfl)
instance : TFldS Tryz.prog 259 0 0 1 := TFldS.of (by kernel_rfl)
instance : TFld Tryz.prog 259 0 0 := TFld.of (by kernel_rfl)
instance : TFldS Tryz.prog 259 1 1 1 := TFldS.of (by kernel_rfl)
instance : TFld Tryz.prog 259 1 1 := TFld.of (by kernel_rfl)
instance : TSz Tryz.prog 260 2 32 := TSz.of (by kernel_rfl)
instance : TAgg Tryz.prog 260 2 := TAgg.of (by kernel_rfl)
instance : TStruct Tryz.prog 260 := TStruct.of (by kernel_rfl)
instance : TFldS Tryz.prog 260 0 0 1 := TFldS.of (by kernel_rfl)
instance : TFld Tryz.prog 260 0 0 := TFld.of (by kernel_rfl)
instance : TFldS Tryz.prog 260 1 1 1 := TFldS.of (by kernel_rfl)
instance : TFld Tryz.prog 260 1 1 := TFld.of (by kernel_rfl)
instance : TScal Tryz.prog 261 := TScal.of (by kernel_rfl)
instance : TScal Tryz.prog 262 := TScal.of (by kernel_rfl)
instance : TSz Tryz.prog 263 1 8 := TSz.of (by kernel_rfl)
instance : TScal Tryz.prog 263 := TScal.of (by kernel_rfl)
instance : TScal Tryz.prog 265 := TScal.of (by kernel_rfl)
instance : TScal Tryz.prog 266 := TScal.of (by kernel_rfl)
instance : TScal Tryz.prog 267 := TScal.of (by kernel_rfl)
instance : TScal Tryz.prog 268 := TScal.of (by kernel_rfl)
instance : TScal Tryz.prog 269 := TScal.of (by kernel_rfl)
instance : TScal Tryz.prog 270 := TScal.of (by kernel_rfl)
instance : TScal Tryz.prog 271 := TScal.of (by kernel_rfl)
instance : TScal Tryz.prog 272 := TScal.of (by kernel_rfl)
instance : TScal Tryz.prog 273 := TScal.of (by kernel_rfl)
instance : TSz Tryz.prog 274 1 8 := TSz.of (by kernel_rfl)
instance : TScal Tryz.prog 274 := TScal.of (by kernel_rfl)
instance : TSz Tryz.prog 275 2 16 := TSz.of (by kernel_rfl)
instance : TAgg Tryz.prog 275 2 := TAgg.of (by kernel_rfl)
instance : TStruct Tryz.prog 275 := TStruct.of (by kernel_rfl)
instance : TFldS Tryz.prog 275 0 0 1 := TFldS.of (by kernel_rfl)
instance : TFld Tryz.prog 275 0 0 := TFld.of (by kernel_rfl)
instance : TFldS Tryz.prog 275 1 1 1 := TFldS.of (by kernel_rfl)
instance : TFld Tryz.prog 275 1 1 := TFld.of (by kernel_rfl)
instance : TSz Tryz.prog 276 2 16 := TSz.of (by kernel_rfl)
instance : TAgg Tryz.prog 276 2 := TAgg.of (by kernel_rfl)
instance : TStruct Tryz.prog 276 := TStruct.of (by kernel_rfl)
instance : TFldS Tryz.prog 276 0 0 1 := TFldS.of (by kernel_rfl)
instance : TFld Tryz.prog 276 0 0 := TFld.of (by kernel_rfl)
instance : TFldS Tryz.prog 276 1 1 1 := TFldS.of (by kernel_rfl)
instance : TFld Tryz.prog 276 1 1 := TFld.of (by kernel_rfl)
instance : TScal Tryz.prog 277 := TScal.of (by kernel_rfl)
instance : TScal Tryz.prog 281 := TScal.of (by kernel_rfl)
instance : TScal Tryz.prog 282 := TScal.of (by kernel_rfl)
instance : TSz Tryz.prog 283 1 8 := TSz.of (by kernel_rfl)
instance : TScal Tryz.prog 283 := TScal.of (by kernel_rfl)
instance : TScal Tryz.prog 284 := TScal.of (by kernel_rfl)
instance : TScal Tryz.prog 285 := TScal.of (by kernel_rfl)
instance : TScal Tryz.prog 286 := TScal.of (by kernel_rfl)
instance : TScal Tryz.prog 287 := TScal.of (by kernel_rfl)
instance : TScal Tryz.prog 288 := TScal.of (by kernel_rfl)
instance : TScal Tryz.prog 289 := TScal.of (by kernel_rfl)
instance : TScal Tryz.prog 290 := TScal.of (by kernel_rfl)
instance : TScal Tryz.prog 291 := TScal.of (by kernel_rfl)
instance : TScal Tryz.prog 292 := TScal.of (by kernel_rfl)
instance : TScal Tryz.prog 293 := TScal.of (by kernel_rfl)
instance : TSz Tryz.prog 294 1 8 := TSz.of (by kernel_rfl)
instance : TScal Tryz.prog 294 := TScal.of (by kernel_rfl)
instance : TScal Tryz.prog 295 := TScal.of (by kernel_rfl)
instance : TScal Tryz.prog 296 := TScal.of (by kernel_rfl)
instance : TSz Tryz.prog 297 24 24 := TSz.of (by kernel_rfl)
instance : TAgg Tryz.prog 297 24 := TAgg.of (by kernel_rfl)
instance : TArr Tryz.prog 297 24 5 := ⟨by kernel_rfl⟩
instance : TScal Tryz.prog 298 := TScal.of (by kernel_rfl)
instance : TScal Tryz.prog 300 := TScal.of (by kernel_rfl)
instance : TScal Tryz.prog 301 := TScal.of (by kernel_rfl)
instance : TSz Tryz.prog 302 20 160 := TSz.of (by kernel_rfl)
instance : TAgg Tryz.prog 302 20 := TAgg.of (by kernel_rfl)
instance : TArr Tryz.prog 302 20 198 := ⟨by kernel_rfl⟩
instance : TSz Tryz.prog 303 65 65 := TSz.of (by kernel_rfl)
instance : TAgg Tryz.prog 303 65 := TAgg.of (by kernel_rfl)
instance : TArr Tryz.prog 303 65 5 := ⟨by kernel_rfl⟩
instance : TSz Tryz.prog 304 64 64 := TSz.of (by kernel_rfl)
instance : TAgg Tryz.prog 304 64 := TAgg.of (by kernel_rfl)
instance : TArr Tryz.prog 304 64 5 := ⟨by kernel_rfl⟩
instance : TScal Tryz.prog 310 := TScal.of (by kernel_rfl)
instance : TScal Tryz.prog 313 := TScal.of (by kernel_rfl)
instance : TFun Tryz.prog 3 := ⟨fun vs w => enter_of Tryz.func3 rfl (by decide) vs w⟩
instance : TFun Tryz.prog 4 := ⟨fun vs w => enter_of Tryz.func4 rfl (by decide) vs w⟩
instance : TFun Tryz.prog 5 := ⟨fun vs w => enter_of Tryz.func5 rfl (by decide) vs w⟩
instance : TFun Tryz.prog 6 := ⟨fun vs w => enter_of Tryz.func6 rfl (by decide) vs w⟩
instance : TFun Tryz.prog 7 := ⟨fun vs w => enter_of Tryz.func7 rfl (by decide) vs w⟩
instance : TFun Tryz.prog 8 := ⟨fun vs w => enter_of Tryz.func8 rfl (by decide) vs w⟩
instance : TFun Tryz.prog 9 := ⟨fun vs w => enter_of Tryz.func9 rfl (by decide) vs w⟩
instance : TFun Tryz.prog 10 := ⟨fun vs w => enter_of Tryz.func10 rfl (by decide) vs w⟩
instance : TFun Tryz.prog 11 := ⟨fun vs w => enter_of Tryz.func11 rfl (by decide) vs w⟩
instance : TFun Tryz.prog 12 := ⟨fun vs w => enter_of Tryz.func12 rfl (by decide) vs w⟩
instance : TFun Tryz.prog 13 := ⟨fun vs w => enter_of Tryz.func13 rfl (by decide) vs w⟩
instance : TFun Tryz.prog 14 := ⟨fun vs w => enter_of Tryz.func14 rfl (by decide) vs w⟩
instance : TFun Tryz.prog 15 := ⟨fun vs w => enter_of Tryz.func15 rfl (by decide) vs w⟩
instance : TFun Tryz.prog 16 := ⟨fun vs w => enter_of Tryz.func16 rfl (by decide) vs w⟩
instance : TFun Tryz.prog 17 := ⟨fun vs w => enter_of Tryz.func17 rfl (by decide) vs w⟩
instance : TFun Tryz.prog 18 := ⟨fun vs w => enter_of Tryz.func18 rfl (by decide) vs w⟩
instance : TFun Tryz.prog 19 := ⟨fun vs w => enter_of Tryz.func19 rfl (by decide) vs w⟩
instance : TFun Tryz.prog 20 := ⟨fun vs w => enter_of Tryz.func20 rfl (by decide) vs w⟩
instance : TFun Tryz.prog 21 := ⟨fun vs w => enter_of Tryz.func21 rfl (by decide) vs w⟩
instance : TFun Tryz.prog 22 := ⟨fun vs w => enter_of Tryz.func22 rfl (by decide) vs w⟩
instance : TFun Tryz.prog 23 := ⟨fun vs w => enter_of Tryz.func23 rfl (by decide) vs w⟩
instance : TFun Tryz.prog 24 := ⟨fun vs w => enter_of Tryz.func24 rfl (by decide) vs w⟩
instance : TFun Tryz.prog 25 := ⟨fun vs w => enter_of Tryz.func25 rfl (by decide) vs w⟩
instance : TFun Tryz.prog 26 := ⟨fun vs w => enter_of Tryz.func26 rfl (by decide) vs w⟩
instance : TFun Tryz.prog 27 := ⟨fun vs w => enter_of Tryz.func27 rfl (by decide) vs w⟩
instance : TFun Tryz.prog 28 := ⟨fun vs w => enter_of Tryz.func28 rfl (by decide) vs w⟩
instance : TFun Tryz.prog 29 := ⟨fun vs w => enter_of Tryz.func29 rfl (by decide) vs w⟩
instance : TFun Tryz.prog 30 := ⟨fun vs w => enter_of Tryz.func30 rfl (by decide) vs w⟩
instance : TFun Tryz.prog 31 := ⟨fun vs w => enter_of Tryz.func31 rfl (by decide) vs w⟩
instance : TFun Tryz.prog 32 := ⟨fun vs w => enter_of Tryz.func32 rfl (by decide) vs w⟩
instance : TFun Tryz.prog 33 := ⟨fun vs w => enter_of Tryz.func33 rfl (by decide) vs w⟩
instance : TFun Tryz.prog 34 := ⟨fun vs w => enter_of Tryz.func34 rfl (by decide) vs w⟩
instance : TFun Tryz.prog 35 := ⟨fun vs w => enter_of Tryz.func35 rfl (by decide) vs w⟩
instance : TFun Tryz.prog 36 := ⟨fun vs w => enter_of Tryz.func36 rfl (by decide) vs w⟩
instance : TFun Tryz.prog 37 := ⟨fun vs w => enter_of Tryz.func37 rfl (by decide) vs w⟩
instance : TFun Tryz.prog 38 := ⟨fun vs w => enter_of Tryz.func38 rfl (by decide) vs w⟩
instance : TFun Tryz.prog 39 := ⟨fun vs w => enter_of Tryz.func39 rfl (by decide) vs w⟩
instance : TFun Tryz.prog 40 := ⟨fun vs w => enter_of Tryz.func40 rfl (by decide) vs w⟩
instance : TFun Tryz.prog 41 := ⟨fun vs w => enter_of Tryz.func41 rfl (by decide) vs w⟩
instance : TFun Tryz.prog 42 := ⟨fun vs w => enter_of Tryz.func42 rfl (by decide) vs w⟩
instance : TFun Tryz.prog 43 := ⟨fun vs w => enter_of Tryz.func43 rfl (by decide) vs w⟩
instance : TFun Tryz.prog 44 := ⟨fun vs w => enter_of Tryz.func44 rfl (by decide) vs w⟩
instance : TFun Tryz.prog 45 := ⟨fun vs w => enter_of Tryz.func45 rfl (by decide) vs w⟩
instance : TFun Tryz.prog 46 := ⟨fun vs w => enter_of Tryz.func46 rfl (by decide) vs w⟩
instance : TFun Tryz.prog 47 := ⟨fun vs w => enter_of Tryz.func47 rfl (by decide) vs w⟩
instance : TFun Tryz.prog 48 := ⟨fun vs w => enter_of Tryz.func48 rfl (by decide) vs w⟩
instance : TFun Tryz.prog 49 := ⟨fun vs w => enter_of Tryz.func49 rfl (by decide) vs w⟩
instance : TFun Tryz.prog 50 := ⟨fun vs w => enter_of Tryz.func50 rfl (by decide) vs w⟩
instance : TFun Tryz.prog 51 := ⟨fun vs w => enter_of Tryz.func51 rfl (by decide) vs w⟩
instance : TFun Tryz.prog 52 := ⟨fun vs w => enter_of Tryz.func52 rfl (by decide) vs w⟩
instance : TFun Tryz.prog 53 := ⟨fun vs w => enter_of Tryz.func53 rfl (by decide) vs w⟩
instance : TFun Tryz.prog 54 := ⟨fun vs w => enter_of Tryz.func54 rfl (by decide) vs w⟩
instance : TFun Tryz.prog 55 := ⟨fun vs w => enter_of Tryz.func55 rfl (by decide) vs w⟩
instance : TFun Tryz.prog 56 := ⟨fun vs w => enter_of Tryz.func56 rfl (by decide) vs w⟩
instance : TFun Tryz.prog 57 := ⟨fun vs w => enter_of Tryz.func57 rfl (by decide) vs w⟩
instance : TFun Tryz.prog 58 := ⟨fun vs w => enter_of Tryz.func58 rfl (by decide) vs w⟩
instance : TFun Tryz.prog 59 := ⟨fun vs w => enter_of Tryz.func59 rfl (by decide) vs w⟩
instance : TFun Tryz.prog 60 := ⟨fun vs w => enter_of Tryz.func60 rfl (by decide) vs w⟩
instance : TFun Tryz.prog 61 := ⟨fun vs w => enter_of Tryz.func61 rfl (by decide) vs w⟩
instance : TFun Tryz.prog 62 := ⟨fun vs w => enter_of Tryz.func62 rfl (by decide) vs w⟩
instance : TFun Tryz.prog 63 := ⟨fun vs w => enter_of Tryz.func63 rfl (by decide) vs w⟩
instance : TFun Tryz.prog 64 := ⟨fun vs w => enter_of Tryz.func64 rfl (by decide) vs w⟩
instance : TFun Tryz.prog 65 := ⟨fun vs w => enter_of Tryz.func65 rfl (by decide) vs w⟩
instance : TFun Tryz.prog 66 := ⟨fun vs w => enter_of Tryz.func66 rfl (by decide) vs w⟩
instance : TFun Tryz.prog 67 := ⟨fun vs w => enter_of Tryz.func67 rfl (by decide) vs w⟩
instance : TFun Tryz.prog 68 := ⟨fun vs w => enter_of Tryz.func68 rfl (by decide) vs w⟩
instance : TFun Tryz.prog 69 := ⟨fun vs w => enter_of Tryz.func69 rfl (by decide) vs w⟩
instance : TFun Tryz.prog 70 := ⟨fun vs w => enter_of Tryz.func70 rfl (by decide) vs w⟩
instance : TFun Tryz.prog 71 := ⟨fun vs w => enter_of Tryz.func71 rfl (by decide) vs w⟩
instance : TFun Tryz.prog 72 := ⟨fun vs w => enter_of Tryz.func72 rfl (by decide) vs w⟩
instance : TFun Tryz.prog 73 := ⟨fun vs w => enter_of Tryz.func73 rfl (by decide) vs w⟩
instance : TFun Tryz.prog 74 := ⟨fun vs w => enter_of Tryz.func74 rfl (by decide) vs w⟩
instance : TFun Tryz.prog 75 := ⟨fun vs w => enter_of Tryz.func75 rfl (by decide) vs w⟩
instance : TFun Tryz.prog 76 := ⟨fun vs w => enter_of Tryz.func76 rfl (by decide) vs w⟩
instance : TFun Tryz.prog 77 := ⟨fun vs w => enter_of Tryz.func77 rfl (by decide) vs w⟩
instance : TFun Tryz.prog 78 := ⟨fun vs w => enter_of Tryz.func78 rfl (by decide) vs w⟩
instance : TFun Tryz.prog 79 := ⟨fun vs w => enter_of Tryz.func79 rfl (by decide) vs w⟩
instance : TFun Tryz.prog 80 := ⟨fun vs w => enter_of Tryz.func80 rfl (by decide) vs w⟩
instance : TFun Tryz.prog 81 := ⟨fun vs w => enter_of Tryz.func81 rfl (by decide) vs w⟩
instance : TFun Tryz.prog 82 := ⟨fun vs w => enter_of Tryz.func82 rfl (by decide) vs w⟩
instance : TFun Tryz.prog 83 := ⟨fun vs w => enter_of Tryz.func83 rfl (by decide) vs w⟩
instance : TFun Tryz.prog 84 := ⟨fun vs w => enter_of Tryz.func84 rfl (by decide) vs w⟩
instance : TFun Tryz.prog 85 := ⟨fun vs w => enter_of Tryz.func85 rfl (by decide) vs w⟩
instance : TFun Tryz.prog 86 := ⟨fun vs w => enter_of Tryz.func86 rfl (by decide) vs w⟩
instance : TFun Tryz.prog 87 := ⟨fun vs w => enter_of Tryz.func87 rfl (by decide) vs w⟩
instance : TFun Tryz.prog 88 := ⟨fun vs w => enter_of Tryz.func88 rfl (by decide) vs w⟩
instance : TFun Tryz.prog 89 := ⟨fun vs w => enter_of Tryz.func89 rfl (by decide) vs w⟩
instance : TFun Tryz.prog 90 := ⟨fun vs w => enter_of Tryz.func90 rfl (by decide) vs w⟩
instance : TFun Tryz.prog 91 := ⟨fun vs w => enter_of Tryz.func91 rfl (by decide) vs w⟩
instance : TFun Tryz.prog 92 := ⟨fun vs w => enter_of Tryz.func92 rfl (by decide) vs w⟩
instance : TFun Tryz.prog 93 := ⟨fun vs w => enter_of Tryz.func93 rfl (by decide) vs w⟩
instance : TFun Tryz.prog 94 := ⟨fun vs w => enter_of Tryz.func94 rfl (by decide) vs w⟩
instance : TFun Tryz.prog 95 := ⟨fun vs w => enter_of Tryz.func95 rfl (by decide) vs w⟩
instance : TFun Tryz.prog 96 := ⟨fun vs w => enter_of Tryz.func96 rfl (by decide) vs w⟩
instance : TFun Tryz.prog 97 := ⟨fun vs w => enter_of Tryz.func97 rfl (by decide) vs w⟩
instance : TFun Tryz.prog 98 := ⟨fun vs w => enter_of Tryz.func98 rfl (by decide) vs w⟩
instance : TFun Tryz.prog 99 := ⟨fun vs w => enter_of Tryz.func99 rfl (by decide) vs w⟩
instance : TFun Tryz.prog 100 := ⟨fun vs w => enter_of Tryz.func100 rfl (by decide) vs w⟩
instance : TFun Tryz.prog 101 := ⟨fun vs w => enter_of Tryz.func101 rfl (by decide) vs w⟩
instance : TFun Tryz.prog 102 := ⟨fun vs w => enter_of Tryz.func102 rfl (by decide) vs w⟩
instance : TFun Tryz.prog 103 := ⟨fun vs w => enter_of Tryz.func103 rfl (by decide) vs w⟩
instance : TFun Tryz.prog 104 := ⟨fun vs w => enter_of Tryz.func104 rfl (by decide) vs w⟩
instance : TFun Tryz.prog 105 := ⟨fun vs w => enter_of Tryz.func105 rfl (by decide) vs w⟩
instance : TFun Tryz.prog 106 := ⟨fun vs w => enter_of Tryz.func106 rfl (by decide) vs w⟩
instance : TFun Tryz.prog 107 := ⟨fun vs w => enter_of Tryz.func107 rfl (by decide) vs w⟩
instance : TFun Tryz.prog 108 := ⟨fun vs w => enter_of Tryz.func108 rfl (by decide) vs w⟩
instance : TFun Tryz.prog 109 := ⟨fun vs w => enter_of Tryz.func109 rfl (by decide) vs w⟩
instance : TFun Tryz.prog 110 := ⟨fun vs w => enter_of Tryz.func110 rfl (by decide) vs w⟩
instance : TFun Tryz.prog 111 := ⟨fun vs w => enter_of Tryz.func111 rfl (by decide) vs w⟩
instance : TFun Tryz.prog 112 := ⟨fun vs w => enter_of Tryz.func112 rfl (by decide) vs w⟩
instance : TFun Tryz.prog 113 := ⟨fun vs w => enter_of Tryz.func113 rfl (by decide) vs w⟩
instance : TFun Tryz.prog 114 := ⟨fun vs w => enter_of Tryz.func114 rfl (by decide) vs w⟩
instance : TFun Tryz.prog 115 := ⟨fun vs w => enter_of Tryz.func115 rfl (by decide) vs w⟩
instance : TFun Tryz.prog 116 := ⟨fun vs w => enter_of Tryz.func116 rfl (by decide) vs w⟩
instance : TFun Tryz.prog 117 := ⟨fun vs w => enter_of Tryz.func117 rfl (by decide) vs w⟩
instance : TFun Tryz.prog 118 := ⟨fun vs w => enter_of Tryz.func118 rfl (by decide) vs w⟩
instance : TFun Tryz.prog 119 := ⟨fun vs w => enter_of Tryz.func119 rfl (by decide) vs w⟩
instance : TFun Tryz.prog 120 := ⟨fun vs w => enter_of Tryz.func120 rfl (by decide) vs w⟩
instance : TFun Tryz.prog 121 := ⟨fun vs w => enter_of Tryz.func121 rfl (by decide) vs w⟩
instance : TFun Tryz.prog 122 := ⟨fun vs w => enter_of Tryz.func122 rfl (by decide) vs w⟩
instance : TFun Tryz.prog 123 := ⟨fun vs w => enter_of Tryz.func123 rfl (by decide) vs w⟩
instance : TFun Tryz.prog 124 := ⟨fun vs w => enter_of Tryz.func124 rfl (by decide) vs w⟩
instance : TFun Tryz.prog 125 := ⟨fun vs w => enter_of Tryz.func125 rfl (by decide) vs w⟩
instance : TFun Tryz.prog 126 := ⟨fun vs w => enter_of Tryz.func126 rfl (by decide) vs w⟩
instance : TFun Tryz.prog 127 := ⟨fun vs w => enter_of Tryz.func127 rfl (by decide) vs w⟩
instance : TFun Tryz.prog 128 := ⟨fun vs w => enter_of Tryz.func128 rfl (by decide) vs w⟩
instance : TFun Tryz.prog 130 := ⟨fun vs w => enter_of Tryz.func130 rfl (by decide) vs w⟩
instance : TFun Tryz.prog 131 := ⟨fun vs w => enter_of Tryz.func131 rfl (by decide) vs w⟩
instance : TFun Tryz.prog 132 := ⟨fun vs w => enter_of Tryz.func132 rfl (by decide) vs w⟩
instance : TFun Tryz.prog 133 := ⟨fun vs w => enter_of Tryz.func133 rfl (by decide) vs w⟩
instance : TFun Tryz.prog 134 := ⟨fun vs w => enter_of Tryz.func134 rfl (by decide) vs w⟩
instance : TFun Tryz.prog 135 := ⟨fun vs w => enter_of Tryz.func135 rfl (by decide) vs w⟩
instance : TFun Tryz.prog 136 := ⟨fun vs w => enter_of Tryz.func136 rfl (by decide) vs w⟩
instance : TFun Tryz.prog 137 := ⟨fun vs w => enter_of Tryz.func137 rfl (by decide) vs w⟩
instance : TFun Tryz.prog 138 := ⟨fun vs w => enter_of Tryz.func138 rfl (by decide) vs w⟩
instance : TFun Tryz.prog 139 := ⟨fun vs w => enter_of Tryz.func139 rfl (by decide) vs w⟩
instance : TFun Tryz.prog 140 := ⟨fun vs w => enter_of Tryz.func140 rfl (by decide) vs w⟩
instance : TFun Tryz.prog 141 := ⟨fun vs w => enter_of Tryz.func141 rfl (by decide) vs w⟩
instance : TFun Tryz.prog 142 := ⟨fun vs w => enter_of Tryz.func142 rfl (by decide) vs w⟩
instance : TFun Tryz.prog 143 := ⟨fun vs w => enter_of Tryz.func143 rfl (by decide) vs w⟩
instance : TFun Tryz.prog 144 := ⟨fun vs w => enter_of Tryz.func144 rfl (by decide) vs w⟩
instance : TFun Tryz.prog 145 := ⟨fun vs w => enter_of Tryz.func145 rfl (by decide) vs w⟩
instance : TFun Tryz.prog 147 := ⟨fun vs w => enter_of Tryz.func147 rfl (by decide) vs w⟩
instance : TFun Tryz.prog 148 := ⟨fun vs w => enter_of Tryz.func148 rfl (by decide) vs w⟩
instance : TFun Tryz.prog 149 := ⟨fun vs w => enter_of Tryz.func149 rfl (by decide) vs w⟩
instance : TFun Tryz.prog 150 := ⟨fun vs w => enter_of Tryz.func150 rfl (by decide) vs w⟩
instance : TFun Tryz.prog 151 := ⟨fun vs w => enter_of Tryz.func151 rfl (by decide) vs w⟩
instance : TFun Tryz.prog 152 := ⟨fun vs w => enter_of Tryz.func152 rfl (by decide) vs w⟩
instance : TFun Tryz.prog 153 := ⟨fun vs w => enter_of Tryz.func153 rfl (by decide) vs w⟩
instance : TFun Tryz.prog 154 := ⟨fun vs w => enter_of Tryz.func154 rfl (by decide) vs w⟩
instance : TFun Tryz.prog 155 := ⟨fun vs w => enter_of Tryz.func155 rfl (by decide) vs w⟩
instance : TFun Tryz.prog 156 := ⟨fun vs w => enter_of Tryz.func156 rfl (by decide) vs w⟩
instance : TFun Tryz.prog 157 := ⟨fun vs w => enter_of Tryz.func157 rfl (by decide) vs w⟩
instance : TFun Tryz.prog 158 := ⟨fun vs w => enter_of Tryz.func158 rfl (by decide) vs w⟩
instance : TFun Tryz.prog 159 := ⟨fun vs w => enter_of Tryz.func159 rfl (by decide) vs w⟩
instance : TFun Tryz.prog 160 := ⟨fun vs w => enter_of Tryz.func160 rfl (by decide) vs w⟩
instance : TFun Tryz.prog 161 := ⟨fun vs w => enter_of Tryz.func161 rfl (by decide) vs w⟩
instance : TFun Tryz.prog 162 := ⟨fun vs w => enter_of Tryz.func162 rfl (by decide) vs w⟩
instance : TFun Tryz.prog 163 := ⟨fun vs w => enter_of Tryz.func163 rfl (by decide) vs w⟩
instance : TFun Tryz.prog 164 := ⟨fun vs w => enter_of Tryz.func164 rfl (by decide) vs w⟩
instance : TFun Tryz.prog 165 := ⟨fun vs w => enter_of Tryz.func165 rfl (by decide) vs w⟩
instance : TFun Tryz.prog 166 := ⟨fun vs w => enter_of Tryz.func166 rfl (by decide) vs w⟩
instance : TFun Tryz.prog 167 := ⟨fun vs w => enter_of Tryz.func167 rfl (by decide) vs w⟩
instance : TFun Tryz.prog 168 := ⟨fun vs w => enter_of Tryz.func168 rfl (by decide) vs w⟩
instance : TFun Tryz.prog 169 := ⟨fun vs w => enter_of Tryz.func169 rfl (by decide) vs w⟩
instance : TFun Tryz.prog 170 := ⟨fun vs w => enter_of Tryz.func170 rfl (by decide) vs w⟩
instance : TFun Tryz.prog 171 := ⟨fun vs w => enter_of Tryz.func171 rfl (by decide) vs w⟩
instance : TFun Tryz.prog 172 := ⟨fun vs w => enter_of Tryz.func172 rfl (by decide) vs w⟩
instance : TFun Tryz.prog 173 := ⟨fun vs w => enter_of Tryz.func173 rfl (by decide) vs w⟩
instance : TFun Tryz.prog 174 := ⟨fun vs w => enter_of Tryz.func174 rfl (by decide) vs w⟩
instance : TFun Tryz.prog 175 := ⟨fun vs w => enter_of Tryz.func175 rfl (by decide) vs w⟩
instance : TFun Tryz.prog 176 := ⟨fun vs w => enter_of Tryz.func176 rfl (by decide) vs w⟩
instance : TFun Tryz.prog 177 := ⟨fun vs w => enter_of Tryz.func177 rfl (by decide) vs w⟩
instance : TFun Tryz.prog 178 := ⟨fun vs w => enter_of Tryz.func178 rfl (by decide) vs w⟩
instance : TFun Tryz.prog 179 := ⟨fun vs w => enter_of Tryz.func179 rfl (by decide) vs w⟩
instance : TFun Tryz.prog 180 := ⟨fun vs w => enter_of Tryz.func180 rfl (by decide) vs w⟩
instance : TFun Tryz.prog 181 := ⟨fun vs w => enter_of Tryz.func181 rfl (by decide) vs w⟩
instance : TFun Tryz.prog 182 := ⟨fun vs w => enter_of Tryz.func182 rfl (by decide) vs w⟩
instance : TFun Tryz.prog 183 := ⟨fun vs w => enter_of Tryz.func183 rfl (by decide) vs w⟩
instance : TFun Tryz.prog 184 := ⟨fun vs w => enter_of Tryz.func184 rfl (by decide) vs w⟩
instance : TFun Tryz.prog 185 := ⟨fun vs w => enter_of Tryz.func185 rfl (by decide) vs w⟩
instance : TFun Tryz.prog 186 := ⟨fun vs w => enter_of Tryz.func186 rfl (by decide) vs w⟩
instance : TFun Tryz.prog 187 := ⟨fun vs w => enter_of Tryz.func187 rfl (by decide) vs w⟩
instance : TFun Tryz.prog 188 := ⟨fun vs w => enter_of Tryz.func188 rfl (by decide) vs w⟩
instance : TFun Tryz.prog 189 := ⟨fun vs w => enter_of Tryz.func189 rfl (by decide) vs w⟩
instance : TFun Tryz.prog 190 := ⟨fun vs w => enter_of Tryz.func190 rfl (by decide) vs w⟩
instance : TFun Tryz.prog 191 := ⟨fun vs w => enter_of Tryz.func191 rfl (by decide) vs w⟩
instance : TFun Tryz.prog 192 := ⟨fun vs w => enter_of Tryz.func192 rfl (by decide) vs w⟩
instance : TFun Tryz.prog 193 := ⟨fun vs w => enter_of Tryz.func193 rfl (by decide) vs w⟩
instance : TFun Tryz.prog 194 := ⟨fun vs w => enter_of Tryz.func194 rfl (by decide) vs w⟩
instance : TFun Tryz.prog 195 := ⟨fun vs w => enter_of Tryz.func195 rfl (by decide) vs w⟩
instance : TFun Tryz.prog 196 := ⟨fun vs w => enter_of Tryz.func196 rfl (by decide) vs w⟩
instance : TFun Tryz.prog 197 := ⟨fun vs w => enter_of Tryz.func197 rfl (by decide) vs w⟩
instance : TFun Tryz.prog 198 := ⟨fun vs w => enter_of Tryz.func198 rfl (by decide) vs w⟩
instance : TFun Tryz.prog 199 := ⟨fun vs w => enter_of Tryz.func199 rfl (by decide) vs w⟩
instance : TFun Tryz.prog 200 := ⟨fun vs w => enter_of Tryz.func200 rfl (by decide) vs w⟩
instance : TFun Tryz.prog 201 := ⟨fun vs w => enter_of Tryz.func201 rfl (by decide) vs w⟩
instance : TFun Tryz.prog 202 := ⟨fun vs w => enter_of Tryz.func202 rfl (by decide) vs w⟩
instance : TFun Tryz.prog 203 := ⟨fun vs w => enter_of Tryz.func203 rfl (by decide) vs w⟩
instance : TFun Tryz.prog 204 := ⟨fun vs w => enter_of Tryz.func204 rfl (by decide) vs w⟩
instance : TFun Tryz.prog 205 := ⟨fun vs w => enter_of Tryz.func205 rfl (by decide) vs w⟩
instance : TFun Tryz.prog 206 := ⟨fun vs w => enter_of Tryz.func206 rfl (by decide) vs w⟩
instance : TFun Tryz.prog 207 := ⟨fun vs w => enter_of Tryz.func207 rfl (by decide) vs w⟩
instance : TFun Tryz.prog 208 := ⟨fun vs w => enter_of Tryz.func208 rfl (by decide) vs w⟩
instance : TFun Tryz.prog 209 := ⟨fun vs w => enter_of Tryz.func209 rfl (by decide) vs w⟩
instance : TFun Tryz.prog 210 := ⟨fun vs w => enter_of Tryz.func210 rfl (by decide) vs w⟩
instance : TFun Tryz.prog 211 := ⟨fun vs w => enter_of Tryz.func211 rfl (by decide) vs w⟩
instance : TFun Tryz.prog 212 := ⟨fun vs w => enter_of Tryz.func212 rfl (by decide) vs w⟩
instance : TFun Tryz.prog 213 := ⟨fun vs w => enter_of Tryz.func213 rfl (by decide) vs w⟩
instance : TFun Tryz.prog 214 := ⟨fun vs w => enter_of Tryz.func214 rfl (by decide) vs w⟩
instance : TFun Tryz.prog 215 := ⟨fun vs w => enter_of Tryz.func215 rfl (by decide) vs w⟩
instance : TFun Tryz.prog 216 := ⟨fun vs w => enter_of Tryz.func216 rfl (by decide) vs w⟩
instance : TFun Tryz.prog 217 := ⟨fun vs w => enter_of Tryz.func217 rfl (by decide) vs w⟩
instance : TFun Tryz.prog 218 := ⟨fun vs w => enter_of Tryz.func218 rfl (by decide) vs w⟩
instance : TFun Tryz.prog 219 := ⟨fun vs w => enter_of Tryz.func219 rfl (by decide) vs w⟩
instance : TFun Tryz.prog 220 := ⟨fun vs w => enter_of Tryz.func220 rfl (by decide) vs w⟩
instance : TFun Tryz.prog 221 := ⟨fun vs w => enter_of Tryz.func221 rfl (by decide) vs w⟩
instance : TFun Tryz.prog 222 := ⟨fun vs w => enter_of Tryz.func222 rfl (by decide) vs w⟩
instance : TFun Tryz.prog 223 := ⟨fun vs w => enter_of Tryz.func223 rfl (by decide) vs w⟩
instance : TFun Tryz.prog 224 := ⟨fun vs w => enter_of Tryz.func224 rfl (by decide) vs w⟩
instance : TFun Tryz.prog 225 := ⟨fun vs w => enter_of Tryz.func225 rfl (by decide) vs w⟩
instance : TFun Tryz.prog 226 := ⟨fun vs w => enter_of Tryz.func226 rfl (by decide) vs w⟩
instance : TFun Tryz.prog 227 := ⟨fun vs w => enter_of Tryz.func227 rfl (by decide) vs w⟩
instance : TFun Tryz.prog 228 := ⟨fun vs w => enter_of Tryz.func228 rfl (by decide) vs w⟩
instance : TFun Tryz.prog 229 := ⟨fun vs w => enter_of Tryz.func229 rfl (by decide) vs w⟩
instance : TFun Tryz.prog 230 := ⟨fun vs w => enter_of Tryz.func230 rfl (by decide) vs w⟩
instance : TFun Tryz.prog 231 := ⟨fun vs w => enter_of Tryz.func231 rfl (by decide) vs w⟩
instance : TFun Tryz.prog 232 := ⟨fun vs w => enter_of Tryz.func232 rfl (by decide) vs w⟩
instance : TFun Tryz.prog 233 := ⟨fun vs w => enter_of Tryz.func233 rfl (by decide) vs w⟩
instance : TFun Tryz.prog 234 := ⟨fun vs w => enter_of Tryz.func234 rfl (by decide) vs w⟩
instance : TFun Tryz.prog 235 := ⟨fun vs w => enter_of Tryz.func235 rfl (by decide) vs w⟩
instance : TFun Tryz.prog 236 := ⟨fun vs w => enter_of Tryz.func236 rfl (by decide) vs w⟩
instance : TFun Tryz.prog 237 := ⟨fun vs w => enter_of Tryz.func237 rfl (by decide) vs w⟩
instance : TFun Tryz.prog 238 := ⟨fun vs w => enter_of Tryz.func238 rfl (by decide) vs w⟩
instance : TFun Tryz.prog 239 := ⟨fun vs w => enter_of Tryz.func239 rfl (by decide) vs w⟩
instance : TFun Tryz.prog 240 := ⟨fun vs w => enter_of Tryz.func240 rfl (by decide) vs w⟩
instance : TFun Tryz.prog 241 := ⟨fun vs w => enter_of Tryz.func241 rfl (by decide) vs w⟩
instance : TFun Tryz.prog 242 := ⟨fun vs w => enter_of Tryz.func242 rfl (by decide) vs w⟩
instance : TFun Tryz.prog 243 := ⟨fun vs w => enter_of Tryz.func243 rfl (by decide) vs w⟩
instance : TFun Tryz.prog 244 := ⟨fun vs w => enter_of Tryz.func244 rfl (by decide) vs w⟩
instance : TFun Tryz.prog 245 := ⟨fun vs w => enter_of Tryz.func245 rfl (by decide) vs w⟩
instance : TFun Tryz.prog 246 := ⟨fun vs w => enter_of Tryz.func246 rfl (by decide) vs w⟩
instance : TFun Tryz.prog 247 := ⟨fun vs w => enter_of Tryz.func247 rfl (by decide) vs w⟩
instance : TFun Tryz.prog 248 := ⟨fun vs w => enter_of Tryz.func248 rfl (by decide) vs w⟩
instance : TFun Tryz.prog 249 := ⟨fun vs w => enter_of Tryz.func249 rfl (by decide) vs w⟩
instance : TFun Tryz.prog 250 := ⟨fun vs w => enter_of Tryz.func250 rfl (by decide) vs w⟩
instance : TFun Tryz.prog 251 := ⟨fun vs w => enter_of Tryz.func251 rfl (by decide) vs w⟩
instance : TFun Tryz.prog 252 := ⟨fun vs w => enter_of Tryz.func252 rfl (by decide) vs w⟩
instance : TFun Tryz.prog 253 := ⟨fun vs w => enter_of Tryz.func253 rfl (by decide) vs w⟩
instance : TFun Tryz.prog 254 := ⟨fun vs w => enter_of Tryz.func254 rfl (by decide) vs w⟩
instance : TFun Tryz.prog 255 := ⟨fun vs w => enter_of Tryz.func255 rfl (by decide) vs w⟩
instance : TFun Tryz.prog 256 := ⟨fun vs w => enter_of Tryz.func256 rfl (by decide) vs w⟩
instance : TFun Tryz.prog 257 := ⟨fun vs w => enter_of Tryz.func257 rfl (by decide) vs w⟩
instance : TFun Tryz.prog 258 := ⟨fun vs w => enter_of Tryz.func258 rfl (by decide) vs w⟩
instance : TFun Tryz.prog 259 := ⟨fun vs w => enter_of Tryz.func259 rfl (by decide) vs w⟩
instance : TFun Tryz.prog 260 := ⟨fun vs w => enter_of Tryz.func260 rfl (by decide) vs w⟩
instance : TFun Tryz.prog 261 := ⟨fun vs w => enter_of Tryz.func261 rfl (by decide) vs w⟩
instance : TFun Tryz.prog 262 := ⟨fun vs w => enter_of Tryz.func262 rfl (by decide) vs w⟩
instance : TFun Tryz.prog 263 := ⟨fun vs w => enter_of Tryz.func263 rfl (by decide) vs w⟩
instance : TFun Tryz.prog 264 := ⟨fun vs w => enter_of Tryz.func264 rfl (by decide) vs w⟩
instance : TFun Tryz.prog 265 := ⟨fun vs w => enter_of Tryz.func265 rfl (by decide) vs w⟩
instance : TFun Tryz.prog 266 := ⟨fun vs w => enter_of Tryz.func266 rfl (by decide) vs w⟩
instance : TFun Tryz.prog 267 := ⟨fun vs w => enter_of Tryz.func267 rfl (by decide) vs w⟩
instance : TFun Tryz.prog 268 := ⟨fun vs w => enter_of Tryz.func268 rfl (by decide) vs w⟩
instance : TFun Tryz.prog 269 := ⟨fun vs w => enter_of Tryz.func269 rfl (by decide) vs w⟩
instance : TFun Tryz.prog 270 := ⟨fun vs w => enter_of Tryz.func270 rfl (by decide) vs w⟩
instance : TFun Tryz.prog 271 := ⟨fun vs w => enter_of Tryz.func271 rfl (by decide) vs w⟩
instance : TFun Tryz.prog 272 := ⟨fun vs w => enter_of Tryz.func272 rfl (by decide) vs w⟩
instance : TFun Tryz.prog 273 := ⟨fun vs w => enter_of Tryz.func273 rfl (by decide) vs w⟩
instance : TFun Tryz.prog 274 := ⟨fun vs w => enter_of Tryz.func274 rfl (by decide) vs w⟩
instance : TFun Tryz.prog 275 := ⟨fun vs w => enter_of Tryz.func275 rfl (by decide) vs w⟩
instance : TFun Tryz.prog 276 := ⟨fun vs w => enter_of Tryz.func276 rfl (by decide) vs w⟩
instance : TFun Tryz.prog 277 := ⟨fun vs w => enter_of Tryz.func277 rfl (by decide) vs w⟩
instance : TFun Tryz.prog 278 := ⟨fun vs w => enter_of Tryz.func278 rfl (by decide) vs w⟩
instance : TFun Tryz.prog 279 := ⟨fun vs w => enter_of Tryz.func279 rfl (by decide) vs w⟩
instance : TFun Tryz.prog 280 := ⟨fun vs w => enter_of Tryz.func280 rfl (by decide) vs w⟩
instance : TFun Tryz.prog 281 := ⟨fun vs w => enter_of Tryz.func281 rfl (by decide) vs w⟩
instance : TFun Tryz.prog 282 := ⟨fun vs w => enter_of Tryz.func282 rfl (by decide) vs w⟩
instance : TFun Tryz.prog 283 := ⟨fun vs w => enter_of Tryz.func283 rfl (by decide) vs w⟩
instance : TFun Tryz.prog 285 := ⟨fun vs w => enter_of Tryz.func285 rfl (by decide) vs w⟩
instance : TFun Tryz.prog 286 := ⟨fun vs w => enter_of Tryz.func286 rfl (by decide) vs w⟩
instance : TFun Tryz.prog 287 := ⟨fun vs w => enter_of Tryz.func287 rfl (by decide) vs w⟩
instance : TFun Tryz.prog 288 := ⟨fun vs w => enter_of Tryz.func288 rfl (by decide) vs w⟩
instance : TFun Tryz.prog 289 := ⟨fun vs w => enter_of Tryz.func289 rfl (by decide) vs w⟩
instance : TFun Tryz.prog 290 := ⟨fun vs w => enter_of Tryz.func290 rfl (by decide) vs w⟩
instance : TFun Tryz.prog 291 := ⟨fun vs w => enter_of Tryz.func291 rfl (by decide) vs w⟩
instance : TFun Tryz.prog 293 := ⟨fun vs w => enter_of Tryz.func293 rfl (by decide) vs w⟩
instance : TFun Tryz.prog 294 := ⟨fun vs w => enter_of Tryz.func294 rfl (by decide) vs w⟩
instance : TFun Tryz.prog 295 := ⟨fun vs w => enter_of Tryz.func295 rfl (by decide) vs w⟩
instance : TFun Tryz.prog 296 := ⟨fun vs w => enter_of Tryz.func296 rfl (by decide) vs w⟩
instance : TFun Tryz.prog 297 := ⟨fun vs w => enter_of Tryz.func297 rfl (by decide) vs w⟩
instance : TFun Tryz.prog 298 := ⟨fun vs w => enter_of Tryz.func298 rfl (by decide) vs w⟩
instance : TFun Tryz.prog 299 := ⟨fun vs w => enter_of Tryz.func299 rfl (by decide) vs w⟩
instance : TFun Tryz.prog 300 := ⟨fun vs w => enter_of Tryz.func300 rfl (by decide) vs w⟩
instance : TFun Tryz.prog 301 := ⟨fun vs w => enter_of Tryz.func301 rfl (by decide) vs w⟩
instance : TFun Tryz.prog 302 := ⟨fun vs w => enter_of Tryz.func302 rfl (by decide) vs w⟩
instance : TFun Tryz.prog 303 := ⟨fun vs w => enter_of Tryz.func303 rfl (by decide) vs w⟩
instance : TFun Tryz.prog 326 := ⟨fun vs w => enter_of Tryz.func326 rfl (by decide) vs w⟩
end Go.Proofs
/- Plain laws: the order of digests; ascending lists. No program in sight. -/
namespace Go.Q
open Go

theorem u8_tri {a b : UInt8} (h : a ≠ b) : a < b ∨ b < a := by
  have h2 : a.toNat ≠ b.toNat := fun e => h (UInt8.toNat.inj e)
  rw [UInt8.lt_iff_toNat_lt, UInt8.lt_iff_toNat_lt]; omega
def cmpL : List UInt8 → List UInt8 → Int
  | x :: xs, y :: ys => if x < y then -1 else if y < x then 1 else cmpL xs ys
  | [], [] => 0
  | [], _ :: _ => -1
  | _ :: _, [] => 1
def cmpD (a b : Dig) : Int := cmpL a.bs b.bs

theorem cmpL_cases : ∀ a b : List UInt8, cmpL a b = -1 ∧ a < b ∨ cmpL a b = 0 ∧ a = b ∨ cmpL a b = 1 ∧ b < a
  | [], [] => .inr (.inl ⟨rfl, rfl⟩)
  | [], y :: ys => .inl ⟨rfl, List.nil_lt_cons y ys⟩
  | x :: xs, [] => .inr (.inr ⟨rfl, List.nil_lt_cons x xs⟩)
  | x :: xs, y :: ys => by
    unfold cmpL
    by_cases h1 : x < y
    · simp [h1, List.cons_lt_cons_iff]
    · by_cases h2 : y < x
      · simp [h1, h2, List.cons_lt_cons_iff]
      · have e : x = y := by
          have := u8_tri (a := x) (b := y)
          by_cases he : x = y
          · exact he
          · rcases this he with h | h
            · exact absurd h h1
            · exact absurd h h2
        subst e
        simp only [h1, if_false]
        rcases cmpL_cases xs ys with ⟨h3, h4⟩ | ⟨h3, h4⟩ | ⟨h3, h4⟩
        · exact .inl ⟨h3, by simp [List.cons_lt_cons_iff, h4]⟩
        · exact .inr (.inl ⟨h3, by rw [h4]⟩)
        · exact .inr (.inr ⟨h3, by simp [List.cons_lt_cons_iff, h4]⟩)

theorem cmpL_eq_zero {a b : List UInt8} : cmpL a b = 0 ↔ a = b := by
  rcases cmpL_cases a b with ⟨h1, h2⟩ | ⟨h1, h2⟩ | ⟨h1, h2⟩
  · exact ⟨fun h => by omega, fun h => by subst h; exact absurd h2 (List.lt_irrefl a)⟩
  · exact ⟨fun _ => h2, fun _ => h1⟩
  · exact ⟨fun h => by omega, fun h => by subst h; exact absurd h2 (List.lt_irrefl a)⟩
theorem cmpL_neg {a b : List UInt8} : cmpL a b < 0 ↔ a < b := by
  rcases cmpL_cases a b with ⟨h1, h2⟩ | ⟨h1, h2⟩ | ⟨h1, h2⟩
  · exact ⟨fun _ => h2, fun _ => by omega⟩
  · exact ⟨fun h => by omega, fun h => by subst h2; exact absurd h (List.lt_irrefl a)⟩
  · exact ⟨fun h => by omega, fun h => absurd (List.lt_trans h h2) (List.lt_irrefl a)⟩
theorem cmpL_pos {a b : List UInt8} : 0 < cmpL a b ↔ b < a := by
  rcases cmpL_cases a b with ⟨h1, h2⟩ | ⟨h1, h2⟩ | ⟨h1, h2⟩
  · exact ⟨fun h => by omega, fun h => absurd (List.lt_trans h h2) (List.lt_irrefl b)⟩
  · exact ⟨fun h => by omega, fun h => by subst h2; exact absurd h (List.lt_irrefl a)⟩
  · exact ⟨fun _ => h2, fun _ => by omega⟩

/-- Digests ascend. -/
def Dig.lt (a b : Dig) : Prop := cmpD a b < 0
instance (a b : Dig) : Decidable (Dig.lt a b) := by unfold Dig.lt; infer_instance
theorem Dig.lt_irrefl (a : Dig) : ¬ Dig.lt a a := fun h => List.lt_irrefl a.bs (cmpL_neg.1 h)
theorem Dig.lt_trans {a b c : Dig} (h : Dig.lt a b) (k : Dig.lt b c) : Dig.lt a c := cmpL_neg.2 (List.lt_trans (cmpL_neg.1 h) (cmpL_neg.1 k))
theorem Dig.lt_asymm {a b : Dig} (h : Dig.lt a b) : ¬ Dig.lt b a := fun k => Dig.lt_irrefl a (Dig.lt_trans h k)
theorem Dig.ne_of_lt {a b : Dig} (h : Dig.lt a b) : a ≠ b := fun e => by subst e; exact Dig.lt_irrefl _ h
theorem Dig.tri (a b : Dig) : Dig.lt a b ∨ a = b ∨ Dig.lt b a := by
  rcases cmpL_cases a.bs b.bs with ⟨h1, h2⟩ | ⟨h1, h2⟩ | ⟨h1, h2⟩
  · exact .inl (cmpL_neg.2 h2)
  · exact .inr (.inl (Dig.ext h2))
  · exact .inr (.inr (cmpL_neg.2 h2))
theorem cmpD_zero {a b : Dig} : cmpD a b = 0 ↔ a = b := ⟨fun h => Dig.ext (cmpL_eq_zero.1 h), fun h => by subst h; exact cmpL_eq_zero.2 rfl⟩
theorem cmpD_pos {a b : Dig} : 0 < cmpD a b ↔ Dig.lt b a := by unfold Dig.lt cmpD; rw [cmpL_pos, cmpL_neg]

/-- The first place at which two digests differ. -/
theorem cmpL_at : ∀ {a b : List UInt8} {k : Nat}, a.length = b.length → k < a.length → (∀ i, i < k → a.getD i 0 = b.getD i 0) → a.getD k 0 ≠ b.getD k 0 → cmpL a b = if a.getD k 0 < b.getD k 0 then -1 else 1
  | x :: xs, y :: ys, 0, hl, hk, he, hn => by
    simp only [List.getD_cons_zero] at hn ⊢
    unfold cmpL
    by_cases h1 : x < y
    · simp [h1]
    · have := u8_tri hn
      have h2 : y < x := this.resolve_left h1
      simp [h1, h2]
  | x :: xs, y :: ys, k + 1, hl, hk, he, hn => by
    have h0 := he 0 (by omega)
    simp only [List.getD_cons_zero] at h0
    subst h0
    simp only [List.getD_cons_succ] at hn ⊢
    unfold cmpL
    simp only [UInt8.lt_irrefl, if_false]
    exact cmpL_at (by simpa using hl) (by simpa using hk) (fun i hi => by have := he (i + 1) (by omega); simpa using this) hn
  | [], _, _, _, hk, _, _ => by simp at hk
  | _ :: _, [], _, hl, _, _, _ => by simp at hl
theorem cmpD_at {a b : Dig} {k : Nat} (hk : k < 32) (he : ∀ i, i < k → a.at i = b.at i) (hn : a.at k ≠ b.at k) : cmpD a b = if a.at k < b.at k then -1 else 1 :=
  cmpL_at (by rw [a.len, b.len]) (by rw [a.len]; exact hk) he hn

/-- An ascending list with one more. -/
def withD : List Dig → Dig → List Dig
  | [], d => [d]
  | x :: xs, d => if Dig.lt x d then x :: withD xs d else if x = d then x :: xs else d :: x :: xs

theorem withD_at : ∀ {l : List Dig} {d : Dig} {k : Nat}, k ≤ l.length → (∀ i (h : i < l.length), i < k → Dig.lt l[i] d) → (∀ h : k < l.length, ¬ Dig.lt l[k] d) →
    withD l d = if ∃ h : k < l.length, l[k] = d then l else l.take k ++ d :: l.drop k
  | [], d, k, hk, _, _ => by simp [withD]
  | x :: xs, d, 0, _, _, hk => by
    have := hk (by simp)
    simp only [List.getElem_cons_zero] at this
    simp [withD, this]
  | x :: xs, d, k + 1, hl, h1, h2 => by
    have h0 := h1 0 (by simp) (by omega)
    simp only [List.getElem_cons_zero] at h0
    have ih := withD_at (l := xs) (d := d) (k := k) (by simpa using hl) (fun i h hi => by have := h1 (i + 1) (by simpa using h) (by omega); simpa using this) (fun h => by have := h2 (by simpa using h); simpa using this)
    simp only [withD, h0, if_true, ih]
    simp only [List.length_cons, Nat.add_lt_add_iff_right, List.getElem_cons_succ, List.take_succ_cons, List.drop_succ_cons]
    split <;> rfl
end Go.Q
/- Plain laws: ascending lists of digests; closures by rounds are what can be reached. No program in sight. -/
namespace Go.Q
open Go

/-- Strictly ascending. -/
def Asc (l : List Dig) : Prop := l.Pairwise Dig.lt
theorem Asc.nil : Asc [] := List.Pairwise.nil
theorem Asc.nodup {l : List Dig} (h : Asc l) : l.Nodup := List.Pairwise.imp (fun h => Dig.ne_of_lt h) h

theorem mem_withD {x d : Dig} : ∀ {l : List Dig}, x ∈ withD l d ↔ x = d ∨ x ∈ l
  | [] => by simp [withD]
  | y :: l => by
    unfold withD
    split
    · simp only [List.mem_cons, mem_withD (l := l)]
      constructor
      · rintro (h | h | h)
        · exact .inr (.inl h)
        · exact .inl h
        · exact .inr (.inr h)
      · rintro (h | h | h)
        · exact .inr (.inl h)
        · exact .inl h
        · exact .inr (.inr h)
    · split
      · rename_i h; subst h
        simp only [List.mem_cons]
        constructor
        · exact .inr
        · rintro (h | h)
          · exact .inl h
          · exact h
      · simp only [List.mem_cons]
theorem withD_asc {d : Dig} : ∀ {l : List Dig}, Asc l → Asc (withD l d)
  | [], _ => by unfold withD; exact List.pairwise_singleton _ _
  | y :: l, h => by
    obtain ⟨h1, h2⟩ := List.pairwise_cons.1 h
    unfold withD
    split
    · rename_i hy
      refine List.pairwise_cons.2 ⟨fun z hz => ?_, withD_asc h2⟩
      rcases mem_withD.1 hz with rfl | hz
      · exact hy
      · exact h1 z hz
    · rename_i hy
      split
      · exact h
      · rename_i hne
        have hlt : Dig.lt d y := by
          rcases Dig.tri d y with h' | h' | h'
          · exact h'
          · exact absurd h'.symm hne
          · exact absurd h' hy
        refine List.pairwise_cons.2 ⟨fun z hz => ?_, h⟩
        rcases List.mem_cons.1 hz with rfl | hz
        · exact hlt
        · exact Dig.lt_trans hlt (h1 z hz)
theorem withD_len {l : List Dig} {d : Dig} : (withD l d).length ≤ l.length + 1 := by
  induction l with
  | nil => simp [withD]
  | cons y l ih =>
    unfold withD
    split
    · simp only [List.length_cons]; omega
    · split <;> simp only [List.length_cons] <;> omega
theorem Asc.ext : ∀ {l m : List Dig}, Asc l → Asc m → (∀ d, d ∈ l ↔ d ∈ m) → l = m
  | [], [], _, _, _ => rfl
  | [], y :: m, _, _, h => absurd ((h y).2 (by simp)) (by simp)
  | x :: l, [], _, _, h => absurd ((h x).1 (by simp)) (by simp)
  | x :: l, y :: m, hl, hm, h => by
    obtain ⟨l1, l2⟩ := List.pairwise_cons.1 hl
    obtain ⟨m1, m2⟩ := List.pairwise_cons.1 hm
    have e : x = y := by
      rcases List.mem_cons.1 ((h x).1 (by simp)) with h1 | h1
      · exact h1
      · rcases List.mem_cons.1 ((h y).2 (by simp)) with h2 | h2
        · exact h2.symm
        · exact absurd (l1 y h2) (Dig.lt_asymm (m1 x h1))
    subst e
    congr 1
    refine Asc.ext l2 m2 fun d => ?_
    have hd := h d
    simp only [List.mem_cons] at hd
    constructor
    · intro h1
      rcases hd.1 (.inr h1) with h2 | h2
      · subst h2; exact absurd (l1 _ h1) (Dig.lt_irrefl _)
      · exact h2
    · intro h1
      rcases hd.2 (.inr h1) with h2 | h2
      · subst h2; exact absurd (m1 _ h1) (Dig.lt_irrefl _)
      · exact h2

/-- Some more, one after the other. -/
def withAll (l m : List Dig) : List Dig := m.foldl withD l
theorem mem_withAll {x : Dig} : ∀ {m l : List Dig}, x ∈ withAll l m ↔ x ∈ l ∨ x ∈ m
  | [], l => by simp [withAll]
  | d :: m, l => by
    show x ∈ withAll (withD l d) m ↔ _
    rw [mem_withAll, mem_withD, List.mem_cons]
    constructor
    · rintro ((h | h) | h)
      · exact .inr (.inl h)
      · exact .inl h
      · exact .inr (.inr h)
    · rintro (h | h | h)
      · exact .inl (.inr h)
      · exact .inl (.inl h)
      · exact .inr h
theorem withAll_asc : ∀ {m l : List Dig}, Asc l → Asc (withAll l m)
  | [], _, h => h
  | d :: m, l, h => by show Asc (withAll (withD l d) m); exact withAll_asc (withD_asc h)
theorem withAll_len : ∀ {m l : List Dig}, (withAll l m).length ≤ l.length + m.length
  | [], _ => by simp [withAll]
  | d :: m, l => by
    show (withAll (withD l d) m).length ≤ _
    have h1 := withAll_len (m := m) (l := withD l d)
    have h2 := withD_len (l := l) (d := d)
    simp only [List.length_cons]; omega

/-- A subset of a list that has no element twice is not longer. -/
theorem nodup_len {α : Type} [DecidableEq α] {l : List α} (hl : l.Nodup) {m : List α} (h : ∀ d ∈ l, d ∈ m) : l.length ≤ m.length := by
  induction l generalizing m with
  | nil => simp
  | cons x l ih =>
    obtain ⟨h1, h2⟩ := List.nodup_cons.1 hl
    have hx : x ∈ m := h x (by simp)
    have := ih h2 (m := m.erase x) fun d hd => by
      have hne : d ≠ x := fun e => h1 (e ▸ hd)
      exact (List.mem_erase_of_ne hne).2 (h d (by simp [hd]))
    rw [List.length_erase_of_mem hx] at this
    have hp : 0 < m.length := List.length_pos_of_mem hx
    simp only [List.length_cons]; omega

/-! ### Closures -/
/-- One round: all that the present ones need. -/
def roundC (nd : Dig → List Dig) (out : List Dig) : List Dig := out.foldl (fun m x => withAll m (nd x)) out
def iterC (nd : Dig → List Dig) : Nat → List Dig → List Dig
  | 0, out => out
  | n + 1, out => iterC nd n (roundC nd out)
inductive Reach (nd : Dig → List Dig) (ids : List Dig) : Dig → Prop
  | base {d : Dig} (h : d ∈ ids) : Reach nd ids d
  | step {x d : Dig} (h : Reach nd ids x) (hd : d ∈ nd x) : Reach nd ids d

section
variable {nd : Dig → List Dig}
theorem mem_foldC {y : Dig} : ∀ {l m : List Dig}, y ∈ l.foldl (fun m x => withAll m (nd x)) m ↔ y ∈ m ∨ ∃ x ∈ l, y ∈ nd x
  | [], m => by simp
  | x :: l, m => by
    rw [List.foldl_cons, mem_foldC, mem_withAll]
    simp only [List.mem_cons, exists_eq_or_imp]
    rw [or_assoc]
theorem foldC_asc : ∀ {l m : List Dig}, Asc m → Asc (l.foldl (fun m x => withAll m (nd x)) m)
  | [], _, h => h
  | x :: l, m, h => by rw [List.foldl_cons]; exact foldC_asc (withAll_asc h)
theorem mem_roundC {y : Dig} {out : List Dig} : y ∈ roundC nd out ↔ y ∈ out ∨ ∃ x ∈ out, y ∈ nd x := mem_foldC
theorem roundC_asc {out : List Dig} (h : Asc out) : Asc (roundC nd out) := foldC_asc h
theorem iterC_asc : ∀ {n : Nat} {out : List Dig}, Asc out → Asc (iterC nd n out)
  | 0, _, h => h
  | n + 1, _, h => iterC_asc (n := n) (roundC_asc h)
theorem iterC_sound {ids : List Dig} : ∀ {n : Nat} {out : List Dig}, (∀ d ∈ out, Reach nd ids d) → ∀ d ∈ iterC nd n out, Reach nd ids d
  | 0, _, h => h
  | n + 1, out, h => iterC_sound (n := n) fun d hd => by
    rcases mem_roundC.1 hd with h1 | ⟨x, hx, h1⟩
    · exact h d h1
    · exact .step (h x hx) h1
theorem iterC_in {U : List Dig} (hU : ∀ x ∈ U, ∀ d ∈ nd x, d ∈ U) : ∀ {n : Nat} {out : List Dig}, (∀ d ∈ out, d ∈ U) → ∀ d ∈ iterC nd n out, d ∈ U
  | 0, _, h => h
  | n + 1, out, h => iterC_in hU (n := n) fun d hd => by
    rcases mem_roundC.1 hd with h1 | ⟨x, hx, h1⟩
    · exact h d h1
    · exact hU x (h x hx) d h1
theorem iterC_sub : ∀ {n : Nat} {out : List Dig} {d : Dig}, d ∈ out → d ∈ iterC nd n out
  | 0, _, _, h => h
  | n + 1, _, _, h => iterC_sub (n := n) (mem_roundC.2 (.inl h))
/-- Behind as many rounds as there are patches nothing more comes. -/
theorem iterC_closed {U : List Dig} (hU : ∀ x ∈ U, ∀ d ∈ nd x, d ∈ U) : ∀ {n : Nat} {out : List Dig}, Asc out → (∀ d ∈ out, d ∈ U) → U.length + 1 ≤ out.length + n ∨ out = [] ∨ (∀ x ∈ out, ∀ d ∈ nd x, d ∈ out) → ∀ x ∈ iterC nd n out, ∀ d ∈ nd x, d ∈ iterC nd n out
  | 0, out, ha, hu, h => by
    rcases h with h | h | h
    · have := nodup_len ha.nodup hu
      omega
    · subst h; intro x hx; cases hx
    · exact h
  | n + 1, out, ha, hu, h => by
    have hu' : ∀ d ∈ roundC nd out, d ∈ U := iterC_in hU (n := 1) hu
    refine iterC_closed hU (n := n) (roundC_asc ha) hu' ?_
    by_cases hc : ∀ x ∈ out, ∀ d ∈ nd x, d ∈ out
    · refine .inr (.inr ?_)
      have e : roundC nd out = out := Asc.ext (roundC_asc ha) ha fun d => by
        rw [mem_roundC]
        constructor
        · rintro (h1 | ⟨x, hx, h1⟩)
          · exact h1
          · exact hc x hx d h1
        · exact .inl
      rw [e]; exact hc
    · rcases h with h | h | h
      · refine .inl ?_
        have : out.length + 1 ≤ (roundC nd out).length := by
          have ⟨x, hx⟩ := Classical.not_forall.1 hc
          have ⟨hx1, hx2⟩ := Classical.not_imp.1 hx
          have ⟨d, hd⟩ := Classical.not_forall.1 hx2
          have ⟨hd1, hd2⟩ := Classical.not_imp.1 hd
          have hn : (d :: out).Nodup := List.nodup_cons.2 ⟨hd2, ha.nodup⟩
          have := nodup_len hn (m := roundC nd out) fun y hy => by
            rcases List.mem_cons.1 hy with rfl | hy
            · exact mem_roundC.2 (.inr ⟨x, hx1, hd1⟩)
            · exact mem_roundC.2 (.inl hy)
          simpa using this
        omega
      · subst h
        exact absurd (fun x hx => by cases hx) hc
      · exact absurd h hc
theorem mem_iterC {U ids : List Dig} (hU : ∀ x ∈ U, ∀ d ∈ nd x, d ∈ U) (hi : ∀ d ∈ ids, d ∈ U) {n : Nat} (hn : U.length ≤ n) {d : Dig} : d ∈ iterC nd n (withAll [] ids) ↔ Reach nd ids d := by
  have hin : ∀ d ∈ withAll [] ids, d ∈ U := fun d hd => by
    rcases mem_withAll.1 hd with h | h
    · cases h
    · exact hi d h
  refine ⟨fun h => iterC_sound (fun d hd => ?_) d h, fun h => ?_⟩
  · rcases mem_withAll.1 hd with h | h
    · cases h
    · exact .base h
  · have ha : Asc (withAll [] ids) := withAll_asc .nil
    have hcl := iterC_closed (nd := nd) hU (n := n) ha hin (by
      cases hw : withAll [] ids with
      | nil => exact .inr (.inl rfl)
      | cons x l => exact .inl (by simp; omega))
    induction h with
    | base h => exact iterC_sub (mem_withAll.2 (.inr h))
    | step h hd ih => exact hcl _ ih _ hd
theorem Reach.in_ {U ids : List Dig} (hU : ∀ x ∈ U, ∀ d ∈ nd x, d ∈ U) (hi : ∀ d ∈ ids, d ∈ U) {d : Dig} (h : Reach nd ids d) : d ∈ U := by
  induction h with
  | base h => exact hi _ h
  | step h hd ih => exact hU _ ih _ hd
end
end Go.Q
