/- Closed facts on the types and functions of this translation, printed by a program off its tables. -/
import Derived.Test.YtddlffkdpocmhaaGreatDoorProg
import Derived.Test.YtddlffkdpocmhaaGreatDoorVae
set_option linter.unusedSimpArgs false
set_option linter.unusedVariables false
namespace Go.Proofs
open Go Go.Q
def zv : PV → Value
  | .raw v => v
  | .str _ => .string ⟨#[]⟩
  | _ => .slice none 0 0
instance : TMix Tryz.prog := ⟨by kernel_rfl⟩
instance : TSz Tryz.prog 3 1 8 := TSz.of (by kernel_rfl)
instance : TScal Tryz.prog 3 := TScal.of (by kernel_rfl)
instance : TInt Tryz.prog 3 .i64 := ⟨by kernel_rfl⟩
instance : TSz Tryz.prog 4 1 1 := TSz.of (by kernel_rfl)
instance : TScal Tryz.prog 4 := TScal.of (by kernel_rfl)
instance : TBool Tryz.prog 4 := ⟨by kernel_rfl⟩
instance : TSz Tryz.prog 5 1 1 := TSz.of (by kernel_rfl)
instance : TScal Tryz.prog 5 := TScal.of (by kernel_rfl)
instance : TInt Tryz.prog 5 .u8 := ⟨by kernel_rfl⟩
instance : TSz Tryz.prog 9 1 16 := TSz.of (by kernel_rfl)
instance : TScal Tryz.prog 9 := TScal.of (by kernel_rfl)
instance : TStr Tryz.prog 9 := ⟨by kernel_rfl⟩
instance : TScal Tryz.prog 23 := TScal.of (by kernel_rfl)
instance : TSl Tryz.prog 23 59 := ⟨by kernel_rfl⟩
instance : TApp Tryz.prog 23 37 120 := TApp.of (by kernel_rfl)
instance : TSz Tryz.prog 25 1 24 := TSz.of (by kernel_rfl)
instance : TScal Tryz.prog 25 := TScal.of (by kernel_rfl)
instance : TSl Tryz.prog 25 37 := ⟨by kernel_rfl⟩
instance : TApp Tryz.prog 25 32 32 := TApp.of (by kernel_rfl)
instance : TScal Tryz.prog 26 := TScal.of (by kernel_rfl)
instance : TSl Tryz.prog 26 4 := ⟨by kernel_rfl⟩
instance : TApp Tryz.prog 26 1 1 := TApp.of (by kernel_rfl)
instance : TSz Tryz.prog 28 3 72 := TSz.of (by kernel_rfl)
instance : TAgg Tryz.prog 28 3 := TAgg.of (by kernel_rfl)
instance : TStruct Tryz.prog 28 := TStruct.of (by kernel_rfl)
instance : ZeroE Tryz.prog 28 (eBis Bis.zero) := ZeroE.of (us := (eBis Bis.zero).map zv) (by kernel_rfl) (by kernel_rfl)
instance : TFldS Tryz.prog 28 0 0 1 := TFldS.of (by kernel_rfl)
instance : TFld Tryz.prog 28 0 0 := TFld.of (by kernel_rfl)
instance : TFldS Tryz.prog 28 1 1 1 := TFldS.of (by kernel_rfl)
instance : TFld Tryz.prog 28 1 1 := TFld.of (by kernel_rfl)
instance : TFldS Tryz.prog 28 2 2 1 := TFldS.of (by kernel_rfl)
instance : TFld Tryz.prog 28 2 2 := TFld.of (by kernel_rfl)
instance : TSz Tryz.prog 37 32 32 := TSz.of (by kernel_rfl)
instance : TAgg Tryz.prog 37 32 := TAgg.of (by kernel_rfl)
instance : TArr Tryz.prog 37 32 5 := ⟨by kernel_rfl⟩
instance : ZeroE Tryz.prog 37 (eDig Dig.zero) := ZeroE.of (us := (eDig Dig.zero).map zv) (by kernel_rfl) (by kernel_rfl)
instance : TDig Tryz.prog 37 := TDig.of (E := 5) (by kernel_rfl) (by kernel_rfl) (by kernel_rfl) (by kernel_rfl)
instance : TScal Tryz.prog 55 := TScal.of (by kernel_rfl)
instance : TSl Tryz.prog 55 119 := ⟨by kernel_rfl⟩
instance : TApp Tryz.prog 55 139 264 := TApp.of (by kernel_rfl)
instance : TSz Tryz.prog 57 5 88 := TSz.of (by kernel_rfl)
instance : TAgg Tryz.prog 57 5 := TAgg.of (by kernel_rfl)
instance : TStruct Tryz.prog 57 := TStruct.of (by kernel_rfl)
instance : ZeroE Tryz.prog 57 (ePat Pat.zero) := ZeroE.of (us := (ePat Pat.zero).map zv) (by kernel_rfl) (by kernel_rfl)
instance : TFldS Tryz.prog 57 0 0 1 := TFldS.of (by kernel_rfl)
instance : TFld Tryz.prog 57 0 0 := TFld.of (by kernel_rfl)
instance : TFld Tryz.prog 57 1 1 := TFld.of (by kernel_rfl)
instance : TFldS Tryz.prog 57 2 2 1 := TFldS.of (by kernel_rfl)
instance : TFld Tryz.prog 57 2 2 := TFld.of (by kernel_rfl)
instance : TFld Tryz.prog 57 3 3 := TFld.of (by kernel_rfl)
instance : TFldS Tryz.prog 57 4 4 1 := TFldS.of (by kernel_rfl)
instance : TFld Tryz.prog 57 4 4 := TFld.of (by kernel_rfl)
instance : TSz Tryz.prog 59 37 120 := TSz.of (by kernel_rfl)
instance : TAgg Tryz.prog 59 37 := TAgg.of (by kernel_rfl)
instance : TStruct Tryz.prog 59 := TStruct.of (by kernel_rfl)
instance : ZeroE Tryz.prog 59 (eSto Sto.zero) := ZeroE.of (us := (eSto Sto.zero).map zv) (by kernel_rfl) (by kernel_rfl)
instance : TFldS Tryz.prog 59 0 0 32 := TFldS.of (by kernel_rfl)
instance : TFld Tryz.prog 59 0 0 := TFld.of (by kernel_rfl)
instance : TFldS Tryz.prog 59 1 32 5 := TFldS.of (by kernel_rfl)
instance : TFld Tryz.prog 59 1 32 := TFld.of (by kernel_rfl)
instance : TScal Tryz.prog 85 := TScal.of (by kernel_rfl)
instance : TSz Tryz.prog 87 2 32 := TSz.of (by kernel_rfl)
instance : TAgg Tryz.prog 87 2 := TAgg.of (by kernel_rfl)
instance : TStruct Tryz.prog 87 := TStruct.of (by kernel_rfl)
instance : TFldS Tryz.prog 87 0 0 1 := TFldS.of (by kernel_rfl)
instance : TFldS Tryz.prog 87 1 1 1 := TFldS.of (by kernel_rfl)
instance : TFld Tryz.prog 87 1 1 := TFld.of (by kernel_rfl)
instance : TSz Tryz.prog 107 1 8 := TSz.of (by kernel_rfl)
instance : TScal Tryz.prog 107 := TScal.of (by kernel_rfl)
instance : TSz Tryz.prog 115 33 40 := TSz.of (by kernel_rfl)
instance : TAgg Tryz.prog 115 33 := TAgg.of (by kernel_rfl)
instance : TStruct Tryz.prog 115 := TStruct.of (by kernel_rfl)
instance : ZeroE Tryz.prog 115 (eIdent Ident.zero) := ZeroE.of (us := (eIdent Ident.zero).map zv) (by kernel_rfl) (by kernel_rfl)
instance : TFld Tryz.prog 115 0 0 := TFld.of (by kernel_rfl)
instance : TFldS Tryz.prog 115 1 32 1 := TFldS.of (by kernel_rfl)
instance : TFld Tryz.prog 115 1 32 := TFld.of (by kernel_rfl)
instance : TIdent Tryz.prog 115 := TIdent.of (D := 37) (I := 3) (E := 5) (by kernel_rfl) (by kernel_rfl) (by kernel_rfl) (by kernel_rfl) (by kernel_rfl) (by kernel_rfl) (by kernel_rfl) (by kernel_rfl) (by kernel_rfl)
instance : TSz Tryz.prog 116 1 24 := TSz.of (by kernel_rfl)
instance : TScal Tryz.prog 116 := TScal.of (by kernel_rfl)
instance : TSl Tryz.prog 116 9 := ⟨by kernel_rfl⟩
instance : TSz Tryz.prog 117 1 24 := TSz.of (by kernel_rfl)
instance : TScal Tryz.prog 117 := TScal.of (by kernel_rfl)
instance : TSl Tryz.prog 117 115 := ⟨by kernel_rfl⟩
instance : TApp Tryz.prog 117 33 40 := TApp.of (by kernel_rfl)
instance : TSz Tryz.prog 119 139 264 := TSz.of (by kernel_rfl)
instance : TAgg Tryz.prog 119 139 := TAgg.of (by kernel_rfl)
instance : TStruct Tryz.prog 119 := TStruct.of (by kernel_rfl)
instance : ZeroE Tryz.prog 119 (eChg Chg.zero) := ZeroE.of (us := (eChg Chg.zero).map zv) (by kernel_rfl) (by kernel_rfl)
instance : TFldS Tryz.prog 119 0 0 1 := TFldS.of (by kernel_rfl)
instance : TFld Tryz.prog 119 0 0 := TFld.of (by kernel_rfl)
instance : TFld Tryz.prog 119 1 1 := TFld.of (by kernel_rfl)
instance : TFldS Tryz.prog 119 2 34 1 := TFldS.of (by kernel_rfl)
instance : TFld Tryz.prog 119 2 34 := TFld.of (by kernel_rfl)
instance : TFld Tryz.prog 119 3 35 := TFld.of (by kernel_rfl)
instance : TFld Tryz.prog 119 4 68 := TFld.of (by kernel_rfl)
instance : TFld Tryz.prog 119 5 69 := TFld.of (by kernel_rfl)
instance : TFld Tryz.prog 119 6 70 := TFld.of (by kernel_rfl)
instance : TFld Tryz.prog 119 7 71 := TFld.of (by kernel_rfl)
instance : TFld Tryz.prog 119 8 104 := TFld.of (by kernel_rfl)
instance : TFld Tryz.prog 119 9 137 := TFld.of (by kernel_rfl)
instance : TFld Tryz.prog 119 10 138 := TFld.of (by kernel_rfl)
instance : TSz Tryz.prog 130 1 8 := TSz.of (by kernel_rfl)
instance : TScal Tryz.prog 130 := TScal.of (by kernel_rfl)
instance : TSz Tryz.prog 135 1 24 := TSz.of (by kernel_rfl)
instance : TScal Tryz.prog 135 := TScal.of (by kernel_rfl)
instance : TSl Tryz.prog 135 139 := ⟨by kernel_rfl⟩
instance : TApp Tryz.prog 135 34 48 := TApp.of (by kernel_rfl)
instance : TScal Tryz.prog 137 := TScal.of (by kernel_rfl)
instance : TSz Tryz.prog 139 34 48 := TSz.of (by kernel_rfl)
instance : TAgg Tryz.prog 139 34 := TAgg.of (by kernel_rfl)
instance : TStruct Tryz.prog 139 := TStruct.of (by kernel_rfl)
instance : TFldS Tryz.prog 139 0 0 33 := TFldS.of (by kernel_rfl)
instance : TFld Tryz.prog 139 0 0 := TFld.of (by kernel_rfl)
instance : TFldS Tryz.prog 139 1 33 1 := TFldS.of (by kernel_rfl)
instance : TFld Tryz.prog 139 1 33 := TFld.of (by kernel_rfl)
instance : TScal Tryz.prog 142 := TScal.of (by kernel_rfl)
instance : TSz Tryz.prog 148 1 24 := TSz.of (by kernel_rfl)
instance : TScal Tryz.prog 148 := TScal.of (by kernel_rfl)
instance : TSl Tryz.prog 148 5 := ⟨by kernel_rfl⟩
instance : TByt Tryz.prog 148 := ⟨5, by kernel_rfl, by kernel_rfl⟩
instance : TApp Tryz.prog 148 1 1 := TApp.of (by kernel_rfl)
instance : TScal Tryz.prog 149 := TScal.of (by kernel_rfl)
instance : TStruct Tryz.prog 151 := TStruct.of (by kernel_rfl)
instance : TFldS Tryz.prog 151 0 0 1 := TFldS.of (by kernel_rfl)
instance : TFld Tryz.prog 151 0 0 := TFld.of (by kernel_rfl)
instance : TFldS Tryz.prog 151 1 1 1 := TFldS.of (by kernel_rfl)
instance : TFld Tryz.prog 151 1 1 := TFld.of (by kernel_rfl)
instance : TSz Tryz.prog 152 1 24 := TSz.of (by kernel_rfl)
instance : TScal Tryz.prog 152 := TScal.of (by kernel_rfl)
instance : TSl Tryz.prog 152 155 := ⟨by kernel_rfl⟩
instance : TApp Tryz.prog 152 34 48 := TApp.of (by kernel_rfl)
instance : TSz Tryz.prog 155 34 48 := TSz.of (by kernel_rfl)
instance : TAgg Tryz.prog 155 34 := TAgg.of (by kernel_rfl)
instance : TStruct Tryz.prog 155 := TStruct.of (by kernel_rfl)
instance : TFldS Tryz.prog 155 0 0 33 := TFldS.of (by kernel_rfl)
instance : TFld Tryz.prog 155 0 0 := TFld.of (by kernel_rfl)
instance : TFldS Tryz.prog 155 1 33 1 := TFldS.of (by kernel_rfl)
instance : TFld Tryz.prog 155 1 33 := TFld.of (by kernel_rfl)
instance : TSz Tryz.prog 157 172 296 := TSz.of (by kernel_rfl)
instance : TAgg Tryz.prog 157 172 := TAgg.of (by kernel_rfl)
instance : TStruct Tryz.prog 157 := TStruct.of (by kernel_rfl)
instance : ZeroE Tryz.prog 157 (eAtm Atm.zero) := ZeroE.of (us := (eAtm Atm.zero).map zv) (by kernel_rfl) (by kernel_rfl)
instance : TFldS Tryz.prog 157 0 0 33 := TFldS.of (by kernel_rfl)
instance : TFld Tryz.prog 157 0 0 := TFld.of (by kernel_rfl)
instance : TFldS Tryz.prog 157 1 33 1 := TFldS.of (by kernel_rfl)
instance : TFld Tryz.prog 157 1 33 := TFld.of (by kernel_rfl)
instance : TFldS Tryz.prog 157 2 34 33 := TFldS.of (by kernel_rfl)
instance : TFld Tryz.prog 157 2 34 := TFld.of (by kernel_rfl)
instance : TFldS Tryz.prog 157 3 67 1 := TFldS.of (by kernel_rfl)
instance : TFld Tryz.prog 157 3 67 := TFld.of (by kernel_rfl)
instance : TFldS Tryz.prog 157 4 68 33 := TFldS.of (by kernel_rfl)
instance : TFld Tryz.prog 157 4 68 := TFld.of (by kernel_rfl)
instance : TFldS Tryz.prog 157 5 101 1 := TFldS.of (by kernel_rfl)
instance : TFldS Tryz.prog 157 6 102 1 := TFldS.of (by kernel_rfl)
instance : TFldS Tryz.prog 157 7 103 1 := TFldS.of (by kernel_rfl)
instance : TFldS Tryz.prog 157 8 104 1 := TFldS.of (by kernel_rfl)
instance : TFldS Tryz.prog 157 9 105 33 := TFldS.of (by kernel_rfl)
instance : TFld Tryz.prog 157 9 105 := TFld.of (by kernel_rfl)
instance : TFldS Tryz.prog 157 10 138 33 := TFldS.of (by kernel_rfl)
instance : TFld Tryz.prog 157 10 138 := TFld.of (by kernel_rfl)
instance : TFldS Tryz.prog 157 11 171 1 := TFldS.of (by kernel_rfl)
instance : TFld Tryz.prog 157 11 171 := TFld.of (by kernel_rfl)
instance : TSz Tryz.prog 167 1 24 := TSz.of (by kernel_rfl)
instance : TScal Tryz.prog 167 := TScal.of (by kernel_rfl)
instance : TSl Tryz.prog 167 157 := ⟨by kernel_rfl⟩
instance : TApp Tryz.prog 167 172 296 := TApp.of (by kernel_rfl)
instance : TSz Tryz.prog 170 1 4 := TSz.of (by kernel_rfl)
instance : TScal Tryz.prog 170 := TScal.of (by kernel_rfl)
instance : TInt Tryz.prog 170 .u32 := ⟨by kernel_rfl⟩
instance : TSz Tryz.prog 171 8 32 := TSz.of (by kernel_rfl)
instance : TAgg Tryz.prog 171 8 := TAgg.of (by kernel_rfl)
instance : TArr Tryz.prog 171 8 170 := ⟨by kernel_rfl⟩
instance : ZeroE Tryz.prog 171 (eW (List.replicate 8 0)) := ZeroE.of (us := (eW (List.replicate 8 0)).map zv) (by kernel_rfl) (by kernel_rfl)
instance : TInt Tryz.prog 182 .u64 := ⟨by kernel_rfl⟩
instance : TInt Tryz.prog 198 .u64 := ⟨by kernel_rfl⟩
instance : TSz Tryz.prog 199 64 256 := TSz.of (by kernel_rfl)
instance : TAgg Tryz.prog 199 64 := TAgg.of (by kernel_rfl)
instance : TArr Tryz.prog 199 64 170 := ⟨by kernel_rfl⟩
instance : ZeroE Tryz.prog 199 (eW (List.replicate 64 0)) := ZeroE.of (us := (eW (List.replicate 64 0)).map zv) (by kernel_rfl) (by kernel_rfl)
instance : TSz Tryz.prog 215 1 24 := TSz.of (by kernel_rfl)
instance : TScal Tryz.prog 215 := TScal.of (by kernel_rfl)
instance : TSl Tryz.prog 215 217 := ⟨by kernel_rfl⟩
instance : TApp Tryz.prog 215 3 48 := TApp.of (by kernel_rfl)
instance : TSz Tryz.prog 217 3 48 := TSz.of (by kernel_rfl)
instance : TAgg Tryz.prog 217 3 := TAgg.of (by kernel_rfl)
instance : TStruct Tryz.prog 217 := TStruct.of (by kernel_rfl)
instance : ZeroE Tryz.prog 217 (eSx Sx.zero) := ZeroE.of (us := (eSx Sx.zero).map zv) (by kernel_rfl) (by kernel_rfl)
instance : TFldS Tryz.prog 217 0 0 1 := TFldS.of (by kernel_rfl)
instance : TFld Tryz.prog 217 0 0 := TFld.of (by kernel_rfl)
instance : TFldS Tryz.prog 217 1 1 1 := TFldS.of (by kernel_rfl)
instance : TFld Tryz.prog 217 1 1 := TFld.of (by kernel_rfl)
instance : TFldS Tryz.prog 217 2 2 1 := TFldS.of (by kernel_rfl)
instance : TFld Tryz.prog 217 2 2 := TFld.of (by kernel_rfl)
instance : TSl Tryz.prog 252 3 := ⟨by kernel_rfl⟩
instance : TApp Tryz.prog 252 1 8 := TApp.of (by kernel_rfl)
instance : TSz Tryz.prog 258 1 8 := TSz.of (by kernel_rfl)
instance : TScal Tryz.prog 258 := TScal.of (by kernel_rfl)
instance : TFld Tryz.prog 260 0 0 := TFld.of (by kernel_rfl)
instance : TFld Tryz.prog 260 1 1 := TFld.of (by kernel_rfl)
instance : TStruct Tryz.prog 276 := TStruct.of (by kernel_rfl)
instance : TFld Tryz.prog 276 0 0 := TFld.of (by kernel_rfl)
instance : TFld Tryz.prog 276 1 1 := TFld.of (by kernel_rfl)
instance : TFun Tryz.prog 15 := ⟨fun vs w => enter_of Tryz.func15 rfl (by decide) vs w⟩
instance : TFun Tryz.prog 16 := ⟨fun vs w => enter_of Tryz.func16 rfl (by decide) vs w⟩
instance : TFun Tryz.prog 17 := ⟨fun vs w => enter_of Tryz.func17 rfl (by decide) vs w⟩
instance : TFun Tryz.prog 19 := ⟨fun vs w => enter_of Tryz.func19 rfl (by decide) vs w⟩
instance : TFun Tryz.prog 22 := ⟨fun vs w => enter_of Tryz.func22 rfl (by decide) vs w⟩
instance : TFun Tryz.prog 24 := ⟨fun vs w => enter_of Tryz.func24 rfl (by decide) vs w⟩
instance : TFun Tryz.prog 29 := ⟨fun vs w => enter_of Tryz.func29 rfl (by decide) vs w⟩
instance : TFun Tryz.prog 32 := ⟨fun vs w => enter_of Tryz.func32 rfl (by decide) vs w⟩
instance : TFun Tryz.prog 33 := ⟨fun vs w => enter_of Tryz.func33 rfl (by decide) vs w⟩
instance : TFun Tryz.prog 34 := ⟨fun vs w => enter_of Tryz.func34 rfl (by decide) vs w⟩
instance : TFun Tryz.prog 35 := ⟨fun vs w => enter_of Tryz.func35 rfl (by decide) vs w⟩
instance : TFun Tryz.prog 39 := ⟨fun vs w => enter_of Tryz.func39 rfl (by decide) vs w⟩
instance : TFun Tryz.prog 40 := ⟨fun vs w => enter_of Tryz.func40 rfl (by decide) vs w⟩
instance : TFun Tryz.prog 41 := ⟨fun vs w => enter_of Tryz.func41 rfl (by decide) vs w⟩
instance : TFun Tryz.prog 42 := ⟨fun vs w => enter_of Tryz.func42 rfl (by decide) vs w⟩
instance : TFun Tryz.prog 44 := ⟨fun vs w => enter_of Tryz.func44 rfl (by decide) vs w⟩
instance : TFun Tryz.prog 45 := ⟨fun vs w => enter_of Tryz.func45 rfl (by decide) vs w⟩
instance : TFun Tryz.prog 46 := ⟨fun vs w => enter_of Tryz.func46 rfl (by decide) vs w⟩
instance : TFun Tryz.prog 47 := ⟨fun vs w => enter_of Tryz.func47 rfl (by decide) vs w⟩
instance : TFun Tryz.prog 48 := ⟨fun vs w => enter_of Tryz.func48 rfl (by decide) vs w⟩
instance : TFun Tryz.prog 49 := ⟨fun vs w => enter_of Tryz.func49 rfl (by decide) vs w⟩
instance : TFun Tryz.prog 51 := ⟨fun vs w => enter_of Tryz.func51 rfl (by decide) vs w⟩
instance : TFun Tryz.prog 55 := ⟨fun vs w => enter_of Tryz.func55 rfl (by decide) vs w⟩
instance : TFun Tryz.prog 58 := ⟨fun vs w => enter_of Tryz.func58 rfl (by decide) vs w⟩
instance : TFun Tryz.prog 59 := ⟨fun vs w => enter_of Tryz.func59 rfl (by decide) vs w⟩
instance : TFun Tryz.prog 60 := ⟨fun vs w => enter_of Tryz.func60 rfl (by decide) vs w⟩
instance : TFun Tryz.prog 62 := ⟨fun vs w => enter_of Tryz.func62 rfl (by decide) vs w⟩
instance : TFun Tryz.prog 64 := ⟨fun vs w => enter_of Tryz.func64 rfl (by decide) vs w⟩
instance : TFun Tryz.prog 65 := ⟨fun vs w => enter_of Tryz.func65 rfl (by decide) vs w⟩
instance : TFun Tryz.prog 66 := ⟨fun vs w => enter_of Tryz.func66 rfl (by decide) vs w⟩
instance : TFun Tryz.prog 67 := ⟨fun vs w => enter_of Tryz.func67 rfl (by decide) vs w⟩
instance : TFun Tryz.prog 68 := ⟨fun vs w => enter_of Tryz.func68 rfl (by decide) vs w⟩
instance : TFun Tryz.prog 70 := ⟨fun vs w => enter_of Tryz.func70 rfl (by decide) vs w⟩
instance : TFun Tryz.prog 71 := ⟨fun vs w => enter_of Tryz.func71 rfl (by decide) vs w⟩
instance : TFun Tryz.prog 74 := ⟨fun vs w => enter_of Tryz.func74 rfl (by decide) vs w⟩
instance : TFun Tryz.prog 75 := ⟨fun vs w => enter_of Tryz.func75 rfl (by decide) vs w⟩
instance : TFun Tryz.prog 76 := ⟨fun vs w => enter_of Tryz.func76 rfl (by decide) vs w⟩
instance : TFun Tryz.prog 78 := ⟨fun vs w => enter_of Tryz.func78 rfl (by decide) vs w⟩
instance : TFun Tryz.prog 79 := ⟨fun vs w => enter_of Tryz.func79 rfl (by decide) vs w⟩
instance : TFun Tryz.prog 80 := ⟨fun vs w => enter_of Tryz.func80 rfl (by decide) vs w⟩
instance : TFun Tryz.prog 81 := ⟨fun vs w => enter_of Tryz.func81 rfl (by decide) vs w⟩
instance : TFun Tryz.prog 82 := ⟨fun vs w => enter_of Tryz.func82 rfl (by decide) vs w⟩
instance : TFun Tryz.prog 83 := ⟨fun vs w => enter_of Tryz.func83 rfl (by decide) vs w⟩
instance : TFun Tryz.prog 84 := ⟨fun vs w => enter_of Tryz.func84 rfl (by decide) vs w⟩
instance : TFun Tryz.prog 85 := ⟨fun vs w => enter_of Tryz.func85 rfl (by decide) vs w⟩
instance : TFun Tryz.prog 86 := ⟨fun vs w => enter_of Tryz.func86 rfl (by decide) vs w⟩
instance : TFun Tryz.prog 87 := ⟨fun vs w => enter_of Tryz.func87 rfl (by decide) vs w⟩
instance : TFun Tryz.prog 88 := ⟨fun vs w => enter_of Tryz.func88 rfl (by decide) vs w⟩
instance : TFun Tryz.prog 89 := ⟨fun vs w => enter_of Tryz.func89 rfl (by decide) vs w⟩
instance : TFun Tryz.prog 90 := ⟨fun vs w => enter_of Tryz.func90 rfl (by decide) vs w⟩
instance : TFun Tryz.prog 91 := ⟨fun vs w => enter_of Tryz.func91 rfl (by decide) vs w⟩
instance : TFun Tryz.prog 92 := ⟨fun vs w => enter_of Tryz.func92 rfl (by decide) vs w⟩
instance : TFun Tryz.prog 93 := ⟨fun vs w => enter_of Tryz.func93 rfl (by decide) vs w⟩
instance : TFun Tryz.prog 94 := ⟨fun vs w => enter_of Tryz.func94 rfl (by decide) vs w⟩
instance : TFun Tryz.prog 95 := ⟨fun vs w => enter_of Tryz.func95 rfl (by decide) vs w⟩
instance : TFun Tryz.prog 99 := ⟨fun vs w => enter_of Tryz.func99 rfl (by decide) vs w⟩
instance : TFun Tryz.prog 100 := ⟨fun vs w => enter_of Tryz.func100 rfl (by decide) vs w⟩
instance : TFun Tryz.prog 102 := ⟨fun vs w => enter_of Tryz.func102 rfl (by decide) vs w⟩
instance : TFun Tryz.prog 103 := ⟨fun vs w => enter_of Tryz.func103 rfl (by decide) vs w⟩
instance : TFun Tryz.prog 104 := ⟨fun vs w => enter_of Tryz.func104 rfl (by decide) vs w⟩
instance : TFun Tryz.prog 105 := ⟨fun vs w => enter_of Tryz.func105 rfl (by decide) vs w⟩
instance : TFun Tryz.prog 106 := ⟨fun vs w => enter_of Tryz.func106 rfl (by decide) vs w⟩
instance : TFun Tryz.prog 107 := ⟨fun vs w => enter_of Tryz.func107 rfl (by decide) vs w⟩
instance : TFun Tryz.prog 108 := ⟨fun vs w => enter_of Tryz.func108 rfl (by decide) vs w⟩
instance : TFun Tryz.prog 109 := ⟨fun vs w => enter_of Tryz.func109 rfl (by decide) vs w⟩
instance : TFun Tryz.prog 110 := ⟨fun vs w => enter_of Tryz.func110 rfl (by decide) vs w⟩
instance : TFun Tryz.prog 111 := ⟨fun vs w => enter_of Tryz.func111 rfl (by decide) vs w⟩
instance : TFun Tryz.prog 112 := ⟨fun vs w => enter_of Tryz.func112 rfl (by decide) vs w⟩
instance : TFun Tryz.prog 114 := ⟨fun vs w => enter_of Tryz.func114 rfl (by decide) vs w⟩
instance : TFun Tryz.prog 115 := ⟨fun vs w => enter_of Tryz.func115 rfl (by decide) vs w⟩
instance : TFun Tryz.prog 116 := ⟨fun vs w => enter_of Tryz.func116 rfl (by decide) vs w⟩
instance : TFun Tryz.prog 117 := ⟨fun vs w => enter_of Tryz.func117 rfl (by decide) vs w⟩
instance : TFun Tryz.prog 118 := ⟨fun vs w => enter_of Tryz.func118 rfl (by decide) vs w⟩
instance : TFun Tryz.prog 119 := ⟨fun vs w => enter_of Tryz.func119 rfl (by decide) vs w⟩
instance : TFun Tryz.prog 120 := ⟨fun vs w => enter_of Tryz.func120 rfl (by decide) vs w⟩
instance : TFun Tryz.prog 121 := ⟨fun vs w => enter_of Tryz.func121 rfl (by decide) vs w⟩
instance : TFun Tryz.prog 122 := ⟨fun vs w => enter_of Tryz.func122 rfl (by decide) vs w⟩
instance : TFun Tryz.prog 123 := ⟨fun vs w => enter_of Tryz.func123 rfl (by decide) vs w⟩
instance : TFun Tryz.prog 124 := ⟨fun vs w => enter_of Tryz.func124 rfl (by decide) vs w⟩
instance : TFun Tryz.prog 125 := ⟨fun vs w => enter_of Tryz.func125 rfl (by decide) vs w⟩
instance : TFun Tryz.prog 126 := ⟨fun vs w => enter_of Tryz.func126 rfl (by decide) vs w⟩
instance : TFun Tryz.prog 127 := ⟨fun vs w => enter_of Tryz.func127 rfl (by decide) vs w⟩
instance : TFun Tryz.prog 128 := ⟨fun vs w => enter_of Tryz.func128 rfl (by decide) vs w⟩
instance : TFun Tryz.prog 131 := ⟨fun vs w => enter_of Tryz.func131 rfl (by decide) vs w⟩
instance : TFun Tryz.prog 132 := ⟨fun vs w => enter_of Tryz.func132 rfl (by decide) vs w⟩
instance : TFun Tryz.prog 133 := ⟨fun vs w => enter_of Tryz.func133 rfl (by decide) vs w⟩
instance : TFun Tryz.prog 134 := ⟨fun vs w => enter_of Tryz.func134 rfl (by decide) vs w⟩
instance : TFun Tryz.prog 135 := ⟨fun vs w => enter_of Tryz.func135 rfl (by decide) vs w⟩
instance : TFun Tryz.prog 136 := ⟨fun vs w => enter_of Tryz.func136 rfl (by decide) vs w⟩
instance : TFun Tryz.prog 137 := ⟨fun vs w => enter_of Tryz.func137 rfl (by decide) vs w⟩
instance : TFun Tryz.prog 138 := ⟨fun vs w => enter_of Tryz.func138 rfl (by decide) vs w⟩
instance : TFun Tryz.prog 139 := ⟨fun vs w => enter_of Tryz.func139 rfl (by decide) vs w⟩
instance : TFun Tryz.prog 140 := ⟨fun vs w => enter_of Tryz.func140 rfl (by decide) vs w⟩
instance : TFun Tryz.prog 141 := ⟨fun vs w => enter_of Tryz.func141 rfl (by decide) vs w⟩
instance : TFun Tryz.prog 142 := ⟨fun vs w => enter_of Tryz.func142 rfl (by decide) vs w⟩
instance : TFun Tryz.prog 143 := ⟨fun vs w => enter_of Tryz.func143 rfl (by decide) vs w⟩
instance : TFun Tryz.prog 147 := ⟨fun vs w => enter_of Tryz.func147 rfl (by decide) vs w⟩
instance : TFun Tryz.prog 148 := ⟨fun vs w => enter_of Tryz.func148 rfl (by decide) vs w⟩
instance : TFun Tryz.prog 149 := ⟨fun vs w => enter_of Tryz.func149 rfl (by decide) vs w⟩
instance : TFun Tryz.prog 150 := ⟨fun vs w => enter_of Tryz.func150 rfl (by decide) vs w⟩
instance : TFun Tryz.prog 151 := ⟨fun vs w => enter_of Tryz.func151 rfl (by decide) vs w⟩
instance : TFun Tryz.prog 152 := ⟨fun vs w => enter_of Tryz.func152 rfl (by decide) vs w⟩
instance : TFun Tryz.prog 153 := ⟨fun vs w => enter_of Tryz.func153 rfl (by decide) vs w⟩
instance : TFun Tryz.prog 154 := ⟨fun vs w => enter_of Tryz.func154 rfl (by decide) vs w⟩
instance : TFun Tryz.prog 155 := ⟨fun vs w => enter_of Tryz.func155 rfl (by decide) vs w⟩
instance : TFun Tryz.prog 156 := ⟨fun vs w => enter_of Tryz.func156 rfl (by decide) vs w⟩
instance : TFun Tryz.prog 157 := ⟨fun vs w => enter_of Tryz.func157 rfl (by decide) vs w⟩
instance : TFun Tryz.prog 158 := ⟨fun vs w => enter_of Tryz.func158 rfl (by decide) vs w⟩
instance : TFun Tryz.prog 159 := ⟨fun vs w => enter_of Tryz.func159 rfl (by decide) vs w⟩
instance : TFun Tryz.prog 160 := ⟨fun vs w => enter_of Tryz.func160 rfl (by decide) vs w⟩
instance : TFun Tryz.prog 161 := ⟨fun vs w => enter_of Tryz.func161 rfl (by decide) vs w⟩
instance : TFun Tryz.prog 162 := ⟨fun vs w => enter_of Tryz.func162 rfl (by decide) vs w⟩
instance : TFun Tryz.prog 163 := ⟨fun vs w => enter_of Tryz.func163 rfl (by decide) vs w⟩
instance : TFun Tryz.prog 164 := ⟨fun vs w => enter_of Tryz.func164 rfl (by decide) vs w⟩
instance : TFun Tryz.prog 165 := ⟨fun vs w => enter_of Tryz.func165 rfl (by decide) vs w⟩
instance : TFun Tryz.prog 167 := ⟨fun vs w => enter_of Tryz.func167 rfl (by decide) vs w⟩
instance : TFun Tryz.prog 168 := ⟨fun vs w => enter_of Tryz.func168 rfl (by decide) vs w⟩
instance : TFun Tryz.prog 169 := ⟨fun vs w => enter_of Tryz.func169 rfl (by decide) vs w⟩
instance : TFun Tryz.prog 170 := ⟨fun vs w => enter_of Tryz.func170 rfl (by decide) vs w⟩
instance : TFun Tryz.prog 171 := ⟨fun vs w => enter_of Tryz.func171 rfl (by decide) vs w⟩
instance : TFun Tryz.prog 172 := ⟨fun vs w => enter_of Tryz.func172 rfl (by decide) vs w⟩
instance : TFun Tryz.prog 173 := ⟨fun vs w => enter_of Tryz.func173 rfl (by decide) vs w⟩
instance : TFun Tryz.prog 174 := ⟨fun vs w => enter_of Tryz.func174 rfl (by decide) vs w⟩
instance : TFun Tryz.prog 175 := ⟨fun vs w => enter_of Tryz.func175 rfl (by decide) vs w⟩
instance : TFun Tryz.prog 186 := ⟨fun vs w => enter_of Tryz.func186 rfl (by decide) vs w⟩
instance : TFun Tryz.prog 187 := ⟨fun vs w => enter_of Tryz.func187 rfl (by decide) vs w⟩
instance : TFun Tryz.prog 188 := ⟨fun vs w => enter_of Tryz.func188 rfl (by decide) vs w⟩
instance : TFun Tryz.prog 189 := ⟨fun vs w => enter_of Tryz.func189 rfl (by decide) vs w⟩
instance : TFun Tryz.prog 190 := ⟨fun vs w => enter_of Tryz.func190 rfl (by decide) vs w⟩
instance : TFun Tryz.prog 191 := ⟨fun vs w => enter_of Tryz.func191 rfl (by decide) vs w⟩
instance : TFun Tryz.prog 192 := ⟨fun vs w => enter_of Tryz.func192 rfl (by decide) vs w⟩
instance : TFun Tryz.prog 193 := ⟨fun vs w => enter_of Tryz.func193 rfl (by decide) vs w⟩
instance : TFun Tryz.prog 194 := ⟨fun vs w => enter_of Tryz.func194 rfl (by decide) vs w⟩
instance : TFun Tryz.prog 195 := ⟨fun vs w => enter_of Tryz.func195 rfl (by decide) vs w⟩
instance : TFun Tryz.prog 196 := ⟨fun vs w => enter_of Tryz.func196 rfl (by decide) vs w⟩
instance : TFun Tryz.prog 197 := ⟨fun vs w => enter_of Tryz.func197 rfl (by decide) vs w⟩
instance : TFun Tryz.prog 198 := ⟨fun vs w => enter_of Tryz.func198 rfl (by decide) vs w⟩
instance : TFun Tryz.prog 199 := ⟨fun vs w => enter_of Tryz.func199 rfl (by decide) vs w⟩
instance : TFun Tryz.prog 200 := ⟨fun vs w => enter_of Tryz.func200 rfl (by decide) vs w⟩
instance : TFun Tryz.prog 201 := ⟨fun vs w => enter_of Tryz.func201 rfl (by decide) vs w⟩
instance : TFun Tryz.prog 202 := ⟨fun vs w => enter_of Tryz.func202 rfl (by decide) vs w⟩
instance : TFun Tryz.prog 203 := ⟨fun vs w => enter_of Tryz.func203 rfl (by decide) vs w⟩
instance : TFun Tryz.prog 205 := ⟨fun vs w => enter_of Tryz.func205 rfl (by decide) vs w⟩
instance : TFun Tryz.prog 206 := ⟨fun vs w => enter_of Tryz.func206 rfl (by decide) vs w⟩
instance : TFun Tryz.prog 207 := ⟨fun vs w => enter_of Tryz.func207 rfl (by decide) vs w⟩
instance : TFun Tryz.prog 208 := ⟨fun vs w => enter_of Tryz.func208 rfl (by decide) vs w⟩
instance : TFun Tryz.prog 209 := ⟨fun vs w => enter_of Tryz.func209 rfl (by decide) vs w⟩
instance : TFun Tryz.prog 210 := ⟨fun vs w => enter_of Tryz.func210 rfl (by decide) vs w⟩
instance : TFun Tryz.prog 211 := ⟨fun vs w => enter_of Tryz.func211 rfl (by decide) vs w⟩
instance : TFun Tryz.prog 212 := ⟨fun vs w => enter_of Tryz.func212 rfl (by decide) vs w⟩
instance : TFun Tryz.prog 213 := ⟨fun vs w => enter_of Tryz.func213 rfl (by decide) vs w⟩
instance : TFun Tryz.prog 214 := ⟨fun vs w => enter_of Tryz.func214 rfl (by decide) vs w⟩
instance : TFun Tryz.prog 215 := ⟨fun vs w => enter_of Tryz.func215 rfl (by decide) vs w⟩
instance : TFun Tryz.prog 216 := ⟨fun vs w => enter_of Tryz.func216 rfl (by decide) vs w⟩
instance : TFun Tryz.prog 222 := ⟨fun vs w => enter_of Tryz.func222 rfl (by decide) vs w⟩
instance : TFun Tryz.prog 223 := ⟨fun vs w => enter_of Tryz.func223 rfl (by decide) vs w⟩
instance : TFun Tryz.prog 224 := ⟨fun vs w => enter_of Tryz.func224 rfl (by decide) vs w⟩
instance : TFun Tryz.prog 225 := ⟨fun vs w => enter_of Tryz.func225 rfl (by decide) vs w⟩
instance : TFun Tryz.prog 226 := ⟨fun vs w => enter_of Tryz.func226 rfl (by decide) vs w⟩
instance : TFun Tryz.prog 227 := ⟨fun vs w => enter_of Tryz.func227 rfl (by decide) vs w⟩
instance : TFun Tryz.prog 228 := ⟨fun vs w => enter_of Tryz.func228 rfl (by decide) vs w⟩
instance : TFun Tryz.prog 229 := ⟨fun vs w => enter_of Tryz.func229 rfl (by decide) vs w⟩
instance : TFun Tryz.prog 230 := ⟨fun vs w => enter_of Tryz.func230 rfl (by decide) vs w⟩
instance : TFun Tryz.prog 231 := ⟨fun vs w => enter_of Tryz.func231 rfl (by decide) vs w⟩
instance : TFun Tryz.prog 232 := ⟨fun vs w => enter_of Tryz.func232 rfl (by decide) vs w⟩
instance : TFun Tryz.prog 233 := ⟨fun vs w => enter_of Tryz.func233 rfl (by decide) vs w⟩
instance : TFun Tryz.prog 234 := ⟨fun vs w => enter_of Tryz.func234 rfl (by decide) vs w⟩
instance : TFun Tryz.prog 235 := ⟨fun vs w => enter_of Tryz.func235 rfl (by decide) vs w⟩
instance : TFun Tryz.prog 236 := ⟨fun vs w => enter_of Tryz.func236 rfl (by decide) vs w⟩
instance : TFun Tryz.prog 237 := ⟨fun vs w => enter_of Tryz.func237 rfl (by decide) vs w⟩
instance : TFun Tryz.prog 238 := ⟨fun vs w => enter_of Tryz.func238 rfl (by decide) vs w⟩
instance : TFun Tryz.prog 239 := ⟨fun vs w => enter_of Tryz.func239 rfl (by decide) vs w⟩
instance : TFun Tryz.prog 240 := ⟨fun vs w => enter_of Tryz.func240 rfl (by decide) vs w⟩
instance : TFun Tryz.prog 241 := ⟨fun vs w => enter_of Tryz.func241 rfl (by decide) vs w⟩
instance : TFun Tryz.prog 242 := ⟨fun vs w => enter_of Tryz.func242 rfl (by decide) vs w⟩
instance : TFun Tryz.prog 243 := ⟨fun vs w => enter_of Tryz.func243 rfl (by decide) vs w⟩
instance : TFun Tryz.prog 244 := ⟨fun vs w => enter_of Tryz.func244 rfl (by decide) vs w⟩
instance : TFun Tryz.prog 245 := ⟨fun vs w => enter_of Tryz.func245 rfl (by decide) vs w⟩
instance : TFun Tryz.prog 246 := ⟨fun vs w => enter_of Tryz.func246 rfl (by decide) vs w⟩
instance : TFun Tryz.prog 247 := ⟨fun vs w => enter_of Tryz.func247 rfl (by decide) vs w⟩
instance : TFun Tryz.prog 248 := ⟨fun vs w => enter_of Tryz.func248 rfl (by decide) vs w⟩
instance : TFun Tryz.prog 249 := ⟨fun vs w => enter_of Tryz.func249 rfl (by decide) vs w⟩
instance : TFun Tryz.prog 250 := ⟨fun vs w => enter_of Tryz.func250 rfl (by decide) vs w⟩
instance : TFun Tryz.prog 251 := ⟨fun vs w => enter_of Tryz.func251 rfl (by decide) vs w⟩
instance : TFun Tryz.prog 252 := ⟨fun vs w => enter_of Tryz.func252 rfl (by decide) vs w⟩
instance : TFun Tryz.prog 255 := ⟨fun vs w => enter_of Tryz.func255 rfl (by decide) vs w⟩
instance : TFun Tryz.prog 256 := ⟨fun vs w => enter_of Tryz.func256 rfl (by decide) vs w⟩
instance : TFun Tryz.prog 257 := ⟨fun vs w => enter_of Tryz.func257 rfl (by decide) vs w⟩
instance : TFun Tryz.prog 258 := ⟨fun vs w => enter_of Tryz.func258 rfl (by decide) vs w⟩
instance : TFun Tryz.prog 259 := ⟨fun vs w => enter_of Tryz.func259 rfl (by decide) vs w⟩
instance : TFun Tryz.prog 260 := ⟨fun vs w => enter_of Tryz.func260 rfl (by decide) vs w⟩
instance : TFun Tryz.prog 261 := ⟨fun vs w => enter_of Tryz.func261 rfl (by decide) vs w⟩
instance : TFun Tryz.prog 262 := ⟨fun vs w => enter_of Tryz.func262 rfl (by decide) vs w⟩
instance : TFun Tryz.prog 263 := ⟨fun vs w => enter_of Tryz.func263 rfl (by decide) vs w⟩
instance : TFun Tryz.prog 264 := ⟨fun vs w => enter_of Tryz.func264 rfl (by decide) vs w⟩
instance : TFun Tryz.prog 265 := ⟨fun vs w => enter_of Tryz.func265 rfl (by decide) vs w⟩
instance : TFun Tryz.prog 266 := ⟨fun vs w => enter_of Tryz.func266 rfl (by decide) vs w⟩
instance : TFun Tryz.prog 267 := ⟨fun vs w => enter_of Tryz.func267 rfl (by decide) vs w⟩
instance : TFun Tryz.prog 268 := ⟨fun vs w => enter_of Tryz.func268 rfl (by decide) vs w⟩
instance : TFun Tryz.prog 269 := ⟨fun vs w => enter_of Tryz.func269 rfl (by decide) vs w⟩
instance : TFun Tryz.prog 270 := ⟨fun vs w => enter_of Tryz.func270 rfl (by decide) vs w⟩
instance : TFun Tryz.prog 271 := ⟨fun vs w => enter_of Tryz.func271 rfl (by decide) vs w⟩
instance : TFun Tryz.prog 272 := ⟨fun vs w => enter_of Tryz.func272 rfl (by decide) vs w⟩
instance : TFun Tryz.prog 281 := ⟨fun vs w => enter_of Tryz.func281 rfl (by decide) vs w⟩
instance : TFun Tryz.prog 282 := ⟨fun vs w => enter_of Tryz.func282 rfl (by decide) vs w⟩
instance : TFun Tryz.prog 283 := ⟨fun vs w => enter_of Tryz.func283 rfl (by decide) vs w⟩
instance : TFun Tryz.prog 286 := ⟨fun vs w => enter_of Tryz.func286 rfl (by decide) vs w⟩
instance : TFun Tryz.prog 290 := ⟨fun vs w => enter_of Tryz.func290 rfl (by decide) vs w⟩
end Go.Proofs
