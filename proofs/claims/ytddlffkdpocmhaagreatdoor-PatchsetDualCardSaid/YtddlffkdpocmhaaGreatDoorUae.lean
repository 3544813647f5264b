/- Closed facts on the types and functions of this translation, printed by a program off its tables. -/
import Derived.Test.YtddlffkdpocmhaaGreatDoorProg
import Derived.Test.YtddlffkdpocmhaaGreatDoorUad
set_option linter.unusedSimpArgs false
set_option linter.unusedVariables false
namespace Go.Proofs
open Go Go.Q
def zv:PV→Value
 | .raw v=>v
 | .str _=> .string ⟨#[]⟩
 |_=> .slice none 0 0
instance :TMix Tryz.prog:=⟨by kernel_rfl⟩
instance :TSz Tryz.prog 3 1 8:=TSz.of (by kernel_rfl)
instance :TScal Tryz.prog 3:=TScal.of (by kernel_rfl)
instance :TInt Tryz.prog 3 .i64:=⟨by kernel_rfl⟩
instance :TScal Tryz.prog 4:=TScal.of (by kernel_rfl)
instance :TBool Tryz.prog 4:=⟨by kernel_rfl⟩
instance :TSz Tryz.prog 5 1 1:=TSz.of (by kernel_rfl)
instance :TScal Tryz.prog 5:=TScal.of (by kernel_rfl)
instance :TInt Tryz.prog 5 .u8:=⟨by kernel_rfl⟩
instance :TSz Tryz.prog 9 1 16:=TSz.of (by kernel_rfl)
instance :TScal Tryz.prog 9:=TScal.of (by kernel_rfl)
instance :TStr Tryz.prog 9:=⟨by kernel_rfl⟩
instance :TSl Tryz.prog 22 59:=⟨by kernel_rfl⟩
instance :TScal Tryz.prog 23:=TScal.of (by kernel_rfl)
instance :TSl Tryz.prog 23 59:=⟨by kernel_rfl⟩
instance :TApp Tryz.prog 23 37 120:=TApp.of (by kernel_rfl)
instance :TSz Tryz.prog 25 1 24:=TSz.of (by kernel_rfl)
instance :TScal Tryz.prog 25:=TScal.of (by kernel_rfl)
instance :TSl Tryz.prog 25 37:=⟨by kernel_rfl⟩
instance :TApp Tryz.prog 25 32 32:=TApp.of (by kernel_rfl)
instance :TSz Tryz.prog 37 32 32:=TSz.of (by kernel_rfl)
instance :TAgg Tryz.prog 37 32:=TAgg.of (by kernel_rfl)
instance :TArr Tryz.prog 37 32 5:=⟨by kernel_rfl⟩
instance :ZeroE Tryz.prog 37 (eDig Dig.zero):=ZeroE.of (us:=(eDig Dig.zero).map zv) (by kernel_rfl) (by kernel_rfl)
instance :TDig Tryz.prog 37:=TDig.of (E:=5) (by kernel_rfl) (by kernel_rfl) (by kernel_rfl) (by kernel_rfl)
instance :TScal Tryz.prog 55:=TScal.of (by kernel_rfl)
instance :TSl Tryz.prog 55 119:=⟨by kernel_rfl⟩
instance :TApp Tryz.prog 55 139 264:=TApp.of (by kernel_rfl)
instance :TSz Tryz.prog 57 5 88:=TSz.of (by kernel_rfl)
instance :TAgg Tryz.prog 57 5:=TAgg.of (by kernel_rfl)
instance :TStruct Tryz.prog 57:=TStruct.of (by kernel_rfl)
instance :ZeroE Tryz.prog 57 (ePat Pat.zero):=ZeroE.of (us:=(ePat Pat.zero).map zv) (by kernel_rfl) (by kernel_rfl)
instance :TFldS Tryz.prog 57 0 0 1:=TFldS.of (by kernel_rfl)
instance :TFld Tryz.prog 57 0 0:=TFld.of (by kernel_rfl)
instance :TFld Tryz.prog 57 1 1:=TFld.of (by kernel_rfl)
instance :TFld Tryz.prog 57 2 2:=TFld.of (by kernel_rfl)
instance :TFld Tryz.prog 57 3 3:=TFld.of (by kernel_rfl)
instance :TFldS Tryz.prog 57 4 4 1:=TFldS.of (by kernel_rfl)
instance :TFld Tryz.prog 57 4 4:=TFld.of (by kernel_rfl)
instance :TSz Tryz.prog 59 37 120:=TSz.of (by kernel_rfl)
instance :TAgg Tryz.prog 59 37:=TAgg.of (by kernel_rfl)
instance :TStruct Tryz.prog 59:=TStruct.of (by kernel_rfl)
instance :ZeroE Tryz.prog 59 (eSto Sto.zero):=ZeroE.of (us:=(eSto Sto.zero).map zv) (by kernel_rfl) (by kernel_rfl)
instance :TFldS Tryz.prog 59 0 0 32:=TFldS.of (by kernel_rfl)
instance :TFld Tryz.prog 59 0 0:=TFld.of (by kernel_rfl)
instance :TFldS Tryz.prog 59 1 32 5:=TFldS.of (by kernel_rfl)
instance :TFld Tryz.prog 59 1 32:=TFld.of (by kernel_rfl)
instance :TArr Tryz.prog 74 2 37:=⟨by kernel_rfl⟩
instance :TSz Tryz.prog 107 1 8:=TSz.of (by kernel_rfl)
instance :TScal Tryz.prog 107:=TScal.of (by kernel_rfl)
instance :TSz Tryz.prog 115 33 40:=TSz.of (by kernel_rfl)
instance :TAgg Tryz.prog 115 33:=TAgg.of (by kernel_rfl)
instance :TStruct Tryz.prog 115:=TStruct.of (by kernel_rfl)
instance :ZeroE Tryz.prog 115 (eIdent Ident.zero):=ZeroE.of (us:=(eIdent Ident.zero).map zv) (by kernel_rfl) (by kernel_rfl)
instance :TFldS Tryz.prog 115 0 0 32:=TFldS.of (by kernel_rfl)
instance :TFld Tryz.prog 115 0 0:=TFld.of (by kernel_rfl)
instance :TFldS Tryz.prog 115 1 32 1:=TFldS.of (by kernel_rfl)
instance :TFld Tryz.prog 115 1 32:=TFld.of (by kernel_rfl)
instance :TIdent Tryz.prog 115:=TIdent.of (D:=37) (I:=3) (E:=5) (by kernel_rfl) (by kernel_rfl) (by kernel_rfl) (by kernel_rfl) (by kernel_rfl) (by kernel_rfl) (by kernel_rfl) (by kernel_rfl) (by kernel_rfl)
instance :TSz Tryz.prog 116 1 24:=TSz.of (by kernel_rfl)
instance :TScal Tryz.prog 116:=TScal.of (by kernel_rfl)
instance :TSl Tryz.prog 116 9:=⟨by kernel_rfl⟩
instance :TApp Tryz.prog 116 1 16:=TApp.of (by kernel_rfl)
instance :TSz Tryz.prog 117 1 24:=TSz.of (by kernel_rfl)
instance :TScal Tryz.prog 117:=TScal.of (by kernel_rfl)
instance :TSl Tryz.prog 117 115:=⟨by kernel_rfl⟩
instance :TApp Tryz.prog 117 33 40:=TApp.of (by kernel_rfl)
instance :TSz Tryz.prog 119 139 264:=TSz.of (by kernel_rfl)
instance :TAgg Tryz.prog 119 139:=TAgg.of (by kernel_rfl)
instance :TStruct Tryz.prog 119:=TStruct.of (by kernel_rfl)
instance :ZeroE Tryz.prog 119 (eChg Chg.zero):=ZeroE.of (us:=(eChg Chg.zero).map zv) (by kernel_rfl) (by kernel_rfl)
instance :TFldS Tryz.prog 119 0 0 1:=TFldS.of (by kernel_rfl)
instance :TFld Tryz.prog 119 0 0:=TFld.of (by kernel_rfl)
instance :TFldS Tryz.prog 119 1 1 33:=TFldS.of (by kernel_rfl)
instance :TFld Tryz.prog 119 1 1:=TFld.of (by kernel_rfl)
instance :TFldS Tryz.prog 119 2 34 1:=TFldS.of (by kernel_rfl)
instance :TFld Tryz.prog 119 2 34:=TFld.of (by kernel_rfl)
instance :TFld Tryz.prog 119 3 35:=TFld.of (by kernel_rfl)
instance :TFld Tryz.prog 119 4 68:=TFld.of (by kernel_rfl)
instance :TFld Tryz.prog 119 5 69:=TFld.of (by kernel_rfl)
instance :TFld Tryz.prog 119 6 70:=TFld.of (by kernel_rfl)
instance :TFldS Tryz.prog 119 7 71 33:=TFldS.of (by kernel_rfl)
instance :TFld Tryz.prog 119 7 71:=TFld.of (by kernel_rfl)
instance :TFldS Tryz.prog 119 8 104 33:=TFldS.of (by kernel_rfl)
instance :TFld Tryz.prog 119 8 104:=TFld.of (by kernel_rfl)
instance :TFldS Tryz.prog 119 9 137 1:=TFldS.of (by kernel_rfl)
instance :TFld Tryz.prog 119 9 137:=TFld.of (by kernel_rfl)
instance :TFld Tryz.prog 119 10 138:=TFld.of (by kernel_rfl)
instance :TSz Tryz.prog 130 1 8:=TSz.of (by kernel_rfl)
instance :TScal Tryz.prog 130:=TScal.of (by kernel_rfl)
instance :TSz Tryz.prog 135 1 24:=TSz.of (by kernel_rfl)
instance :TScal Tryz.prog 135:=TScal.of (by kernel_rfl)
instance :TSl Tryz.prog 135 139:=⟨by kernel_rfl⟩
instance :TApp Tryz.prog 135 34 48:=TApp.of (by kernel_rfl)
instance :TScal Tryz.prog 137:=TScal.of (by kernel_rfl)
instance :TSz Tryz.prog 139 34 48:=TSz.of (by kernel_rfl)
instance :TAgg Tryz.prog 139 34:=TAgg.of (by kernel_rfl)
instance :TStruct Tryz.prog 139:=TStruct.of (by kernel_rfl)
instance :TFldS Tryz.prog 139 0 0 33:=TFldS.of (by kernel_rfl)
instance :TFld Tryz.prog 139 0 0:=TFld.of (by kernel_rfl)
instance :TFldS Tryz.prog 139 1 33 1:=TFldS.of (by kernel_rfl)
instance :TFld Tryz.prog 139 1 33:=TFld.of (by kernel_rfl)
instance :TSz Tryz.prog 148 1 24:=TSz.of (by kernel_rfl)
instance :TScal Tryz.prog 148:=TScal.of (by kernel_rfl)
instance :TSl Tryz.prog 148 5:=⟨by kernel_rfl⟩
instance :TByt Tryz.prog 148:=⟨5,by kernel_rfl,by kernel_rfl⟩
instance :TApp Tryz.prog 148 1 1:=TApp.of (by kernel_rfl)
instance :TScal Tryz.prog 149:=TScal.of (by kernel_rfl)
instance :TStruct Tryz.prog 151:=TStruct.of (by kernel_rfl)
instance :TFldS Tryz.prog 151 0 0 1:=TFldS.of (by kernel_rfl)
instance :TFld Tryz.prog 151 0 0:=TFld.of (by kernel_rfl)
instance :TFldS Tryz.prog 151 1 1 1:=TFldS.of (by kernel_rfl)
instance :TFld Tryz.prog 151 1 1:=TFld.of (by kernel_rfl)
instance :TSz Tryz.prog 152 1 24:=TSz.of (by kernel_rfl)
instance :TScal Tryz.prog 152:=TScal.of (by kernel_rfl)
instance :TSl Tryz.prog 152 155:=⟨by kernel_rfl⟩
instance :TApp Tryz.prog 152 34 48:=TApp.of (by kernel_rfl)
instance :TSz Tryz.prog 155 34 48:=TSz.of (by kernel_rfl)
instance :TAgg Tryz.prog 155 34:=TAgg.of (by kernel_rfl)
instance :TStruct Tryz.prog 155:=TStruct.of (by kernel_rfl)
instance :TFldS Tryz.prog 155 0 0 33:=TFldS.of (by kernel_rfl)
instance :TFld Tryz.prog 155 0 0:=TFld.of (by kernel_rfl)
instance :TFldS Tryz.prog 155 1 33 1:=TFldS.of (by kernel_rfl)
instance :TFld Tryz.prog 155 1 33:=TFld.of (by kernel_rfl)
instance :TSz Tryz.prog 157 172 296:=TSz.of (by kernel_rfl)
instance :TAgg Tryz.prog 157 172:=TAgg.of (by kernel_rfl)
instance :TStruct Tryz.prog 157:=TStruct.of (by kernel_rfl)
instance :ZeroE Tryz.prog 157 (eAtm Atm.zero):=ZeroE.of (us:=(eAtm Atm.zero).map zv) (by kernel_rfl) (by kernel_rfl)
instance :TFldS Tryz.prog 157 0 0 33:=TFldS.of (by kernel_rfl)
instance :TFld Tryz.prog 157 0 0:=TFld.of (by kernel_rfl)
instance :TFldS Tryz.prog 157 1 33 1:=TFldS.of (by kernel_rfl)
instance :TFld Tryz.prog 157 1 33:=TFld.of (by kernel_rfl)
instance :TFldS Tryz.prog 157 2 34 33:=TFldS.of (by kernel_rfl)
instance :TFld Tryz.prog 157 2 34:=TFld.of (by kernel_rfl)
instance :TFldS Tryz.prog 157 3 67 1:=TFldS.of (by kernel_rfl)
instance :TFld Tryz.prog 157 3 67:=TFld.of (by kernel_rfl)
instance :TFldS Tryz.prog 157 4 68 33:=TFldS.of (by kernel_rfl)
instance :TFld Tryz.prog 157 4 68:=TFld.of (by kernel_rfl)
instance :TFldS Tryz.prog 157 5 101 1:=TFldS.of (by kernel_rfl)
instance :TFldS Tryz.prog 157 6 102 1:=TFldS.of (by kernel_rfl)
instance :TFldS Tryz.prog 157 7 103 1:=TFldS.of (by kernel_rfl)
instance :TFldS Tryz.prog 157 8 104 1:=TFldS.of (by kernel_rfl)
instance :TFldS Tryz.prog 157 9 105 33:=TFldS.of (by kernel_rfl)
instance :TFld Tryz.prog 157 9 105:=TFld.of (by kernel_rfl)
instance :TFldS Tryz.prog 157 10 138 33:=TFldS.of (by kernel_rfl)
instance :TFld Tryz.prog 157 10 138:=TFld.of (by kernel_rfl)
instance :TFldS Tryz.prog 157 11 171 1:=TFldS.of (by kernel_rfl)
instance :TFld Tryz.prog 157 11 171:=TFld.of (by kernel_rfl)
instance :TSz Tryz.prog 167 1 24:=TSz.of (by kernel_rfl)
instance :TScal Tryz.prog 167:=TScal.of (by kernel_rfl)
instance :TSl Tryz.prog 167 157:=⟨by kernel_rfl⟩
instance :TApp Tryz.prog 167 172 296:=TApp.of (by kernel_rfl)
instance :TSz Tryz.prog 170 1 4:=TSz.of (by kernel_rfl)
instance :TScal Tryz.prog 170:=TScal.of (by kernel_rfl)
instance :TInt Tryz.prog 170 .u32:=⟨by kernel_rfl⟩
instance :TSz Tryz.prog 171 8 32:=TSz.of (by kernel_rfl)
instance :TAgg Tryz.prog 171 8:=TAgg.of (by kernel_rfl)
instance :TArr Tryz.prog 171 8 170:=⟨by kernel_rfl⟩
instance :ZeroE Tryz.prog 171 (eW (List.replicate 8 0)):=ZeroE.of (us:=(eW (List.replicate 8 0)).map zv) (by kernel_rfl) (by kernel_rfl)
instance :TInt Tryz.prog 182 .u64:=⟨by kernel_rfl⟩
instance :TInt Tryz.prog 198 .u64:=⟨by kernel_rfl⟩
instance :TSz Tryz.prog 199 64 256:=TSz.of (by kernel_rfl)
instance :TAgg Tryz.prog 199 64:=TAgg.of (by kernel_rfl)
instance :TArr Tryz.prog 199 64 170:=⟨by kernel_rfl⟩
instance :ZeroE Tryz.prog 199 (eW (List.replicate 64 0)):=ZeroE.of (us:=(eW (List.replicate 64 0)).map zv) (by kernel_rfl) (by kernel_rfl)
instance :TSz Tryz.prog 215 1 24:=TSz.of (by kernel_rfl)
instance :TScal Tryz.prog 215:=TScal.of (by kernel_rfl)
instance :TSl Tryz.prog 215 217:=⟨by kernel_rfl⟩
instance :TApp Tryz.prog 215 3 48:=TApp.of (by kernel_rfl)
instance :TSz Tryz.prog 217 3 48:=TSz.of (by kernel_rfl)
instance :TAgg Tryz.prog 217 3:=TAgg.of (by kernel_rfl)
instance :TStruct Tryz.prog 217:=TStruct.of (by kernel_rfl)
instance :ZeroE Tryz.prog 217 (eSx Sx.zero):=ZeroE.of (us:=(eSx Sx.zero).map zv) (by kernel_rfl) (by kernel_rfl)
instance :TFldS Tryz.prog 217 0 0 1:=TFldS.of (by kernel_rfl)
instance :TFld Tryz.prog 217 0 0:=TFld.of (by kernel_rfl)
instance :TFldS Tryz.prog 217 1 1 1:=TFldS.of (by kernel_rfl)
instance :TFld Tryz.prog 217 1 1:=TFld.of (by kernel_rfl)
instance :TFldS Tryz.prog 217 2 2 1:=TFldS.of (by kernel_rfl)
instance :TFld Tryz.prog 217 2 2:=TFld.of (by kernel_rfl)
instance :TSl Tryz.prog 252 3:=⟨by kernel_rfl⟩
instance :TApp Tryz.prog 252 1 8:=TApp.of (by kernel_rfl)
instance :TSz Tryz.prog 258 1 8:=TSz.of (by kernel_rfl)
instance :TScal Tryz.prog 258:=TScal.of (by kernel_rfl)
instance :TFld Tryz.prog 260 0 0:=TFld.of (by kernel_rfl)
instance :TFld Tryz.prog 260 1 1:=TFld.of (by kernel_rfl)
instance :TStruct Tryz.prog 276:=TStruct.of (by kernel_rfl)
instance :TFld Tryz.prog 276 0 0:=TFld.of (by kernel_rfl)
instance :TFld Tryz.prog 276 1 1:=TFld.of (by kernel_rfl)
instance :TFun Tryz.prog 31:=⟨fun vs w=>enter_of Tryz.func31 rfl (by decide) vs w⟩
instance :TFun Tryz.prog 33:=⟨fun vs w=>enter_of Tryz.func33 rfl (by decide) vs w⟩
instance :TFun Tryz.prog 34:=⟨fun vs w=>enter_of Tryz.func34 rfl (by decide) vs w⟩
instance :TFun Tryz.prog 35:=⟨fun vs w=>enter_of Tryz.func35 rfl (by decide) vs w⟩
instance :TFun Tryz.prog 39:=⟨fun vs w=>enter_of Tryz.func39 rfl (by decide) vs w⟩
instance :TFun Tryz.prog 40:=⟨fun vs w=>enter_of Tryz.func40 rfl (by decide) vs w⟩
instance :TFun Tryz.prog 41:=⟨fun vs w=>enter_of Tryz.func41 rfl (by decide) vs w⟩
instance :TFun Tryz.prog 42:=⟨fun vs w=>enter_of Tryz.func42 rfl (by decide) vs w⟩
instance :TFun Tryz.prog 43:=⟨fun vs w=>enter_of Tryz.func43 rfl (by decide) vs w⟩
instance :TFun Tryz.prog 44:=⟨fun vs w=>enter_of Tryz.func44 rfl (by decide) vs w⟩
instance :TFun Tryz.prog 45:=⟨fun vs w=>enter_of Tryz.func45 rfl (by decide) vs w⟩
instance :TFun Tryz.prog 46:=⟨fun vs w=>enter_of Tryz.func46 rfl (by decide) vs w⟩
instance :TFun Tryz.prog 47:=⟨fun vs w=>enter_of Tryz.func47 rfl (by decide) vs w⟩
instance :TFun Tryz.prog 48:=⟨fun vs w=>enter_of Tryz.func48 rfl (by decide) vs w⟩
instance :TFun Tryz.prog 49:=⟨fun vs w=>enter_of Tryz.func49 rfl (by decide) vs w⟩
instance :TFun Tryz.prog 50:=⟨fun vs w=>enter_of Tryz.func50 rfl (by decide) vs w⟩
instance :TFun Tryz.prog 51:=⟨fun vs w=>enter_of Tryz.func51 rfl (by decide) vs w⟩
instance :TFun Tryz.prog 52:=⟨fun vs w=>enter_of Tryz.func52 rfl (by decide) vs w⟩
instance :TFun Tryz.prog 53:=⟨fun vs w=>enter_of Tryz.func53 rfl (by decide) vs w⟩
instance :TFun Tryz.prog 54:=⟨fun vs w=>enter_of Tryz.func54 rfl (by decide) vs w⟩
instance :TFun Tryz.prog 55:=⟨fun vs w=>enter_of Tryz.func55 rfl (by decide) vs w⟩
instance :TFun Tryz.prog 56:=⟨fun vs w=>enter_of Tryz.func56 rfl (by decide) vs w⟩
instance :TFun Tryz.prog 57:=⟨fun vs w=>enter_of Tryz.func57 rfl (by decide) vs w⟩
instance :TFun Tryz.prog 58:=⟨fun vs w=>enter_of Tryz.func58 rfl (by decide) vs w⟩
instance :TFun Tryz.prog 59:=⟨fun vs w=>enter_of Tryz.func59 rfl (by decide) vs w⟩
instance :TFun Tryz.prog 60:=⟨fun vs w=>enter_of Tryz.func60 rfl (by decide) vs w⟩
instance :TFun Tryz.prog 61:=⟨fun vs w=>enter_of Tryz.func61 rfl (by decide) vs w⟩
instance :TFun Tryz.prog 62:=⟨fun vs w=>enter_of Tryz.func62 rfl (by decide) vs w⟩
instance :TFun Tryz.prog 63:=⟨fun vs w=>enter_of Tryz.func63 rfl (by decide) vs w⟩
instance :TFun Tryz.prog 64:=⟨fun vs w=>enter_of Tryz.func64 rfl (by decide) vs w⟩
instance :TFun Tryz.prog 65:=⟨fun vs w=>enter_of Tryz.func65 rfl (by decide) vs w⟩
instance :TFun Tryz.prog 75:=⟨fun vs w=>enter_of Tryz.func75 rfl (by decide) vs w⟩
instance :TFun Tryz.prog 78:=⟨fun vs w=>enter_of Tryz.func78 rfl (by decide) vs w⟩
instance :TFun Tryz.prog 79:=⟨fun vs w=>enter_of Tryz.func79 rfl (by decide) vs w⟩
instance :TFun Tryz.prog 80:=⟨fun vs w=>enter_of Tryz.func80 rfl (by decide) vs w⟩
instance :TFun Tryz.prog 81:=⟨fun vs w=>enter_of Tryz.func81 rfl (by decide) vs w⟩
instance :TFun Tryz.prog 82:=⟨fun vs w=>enter_of Tryz.func82 rfl (by decide) vs w⟩
instance :TFun Tryz.prog 83:=⟨fun vs w=>enter_of Tryz.func83 rfl (by decide) vs w⟩
instance :TFun Tryz.prog 84:=⟨fun vs w=>enter_of Tryz.func84 rfl (by decide) vs w⟩
instance :TFun Tryz.prog 85:=⟨fun vs w=>enter_of Tryz.func85 rfl (by decide) vs w⟩
instance :TFun Tryz.prog 86:=⟨fun vs w=>enter_of Tryz.func86 rfl (by decide) vs w⟩
instance :TFun Tryz.prog 87:=⟨fun vs w=>enter_of Tryz.func87 rfl (by decide) vs w⟩
instance :TFun Tryz.prog 88:=⟨fun vs w=>enter_of Tryz.func88 rfl (by decide) vs w⟩
instance :TFun Tryz.prog 89:=⟨fun vs w=>enter_of Tryz.func89 rfl (by decide) vs w⟩
instance :TFun Tryz.prog 90:=⟨fun vs w=>enter_of Tryz.func90 rfl (by decide) vs w⟩
instance :TFun Tryz.prog 91:=⟨fun vs w=>enter_of Tryz.func91 rfl (by decide) vs w⟩
instance :TFun Tryz.prog 92:=⟨fun vs w=>enter_of Tryz.func92 rfl (by decide) vs w⟩
instance :TFun Tryz.prog 93:=⟨fun vs w=>enter_of Tryz.func93 rfl (by decide) vs w⟩
instance :TFun Tryz.prog 94:=⟨fun vs w=>enter_of Tryz.func94 rfl (by decide) vs w⟩
instance :TFun Tryz.prog 95:=⟨fun vs w=>enter_of Tryz.func95 rfl (by decide) vs w⟩
instance :TFun Tryz.prog 96:=⟨fun vs w=>enter_of Tryz.func96 rfl (by decide) vs w⟩
instance :TFun Tryz.prog 97:=⟨fun vs w=>enter_of Tryz.func97 rfl (by decide) vs w⟩
instance :TFun Tryz.prog 98:=⟨fun vs w=>enter_of Tryz.func98 rfl (by decide) vs w⟩
instance :TFun Tryz.prog 99:=⟨fun vs w=>enter_of Tryz.func99 rfl (by decide) vs w⟩
instance :TFun Tryz.prog 100:=⟨fun vs w=>enter_of Tryz.func100 rfl (by decide) vs w⟩
instance :TFun Tryz.prog 101:=⟨fun vs w=>enter_of Tryz.func101 rfl (by decide) vs w⟩
instance :TFun Tryz.prog 102:=⟨fun vs w=>enter_of Tryz.func102 rfl (by decide) vs w⟩
instance :TFun Tryz.prog 103:=⟨fun vs w=>enter_of Tryz.func103 rfl (by decide) vs w⟩
instance :TFun Tryz.prog 104:=⟨fun vs w=>enter_of Tryz.func104 rfl (by decide) vs w⟩
instance :TFun Tryz.prog 105:=⟨fun vs w=>enter_of Tryz.func105 rfl (by decide) vs w⟩
instance :TFun Tryz.prog 106:=⟨fun vs w=>enter_of Tryz.func106 rfl (by decide) vs w⟩
instance :TFun Tryz.prog 107:=⟨fun vs w=>enter_of Tryz.func107 rfl (by decide) vs w⟩
instance :TFun Tryz.prog 108:=⟨fun vs w=>enter_of Tryz.func108 rfl (by decide) vs w⟩
instance :TFun Tryz.prog 109:=⟨fun vs w=>enter_of Tryz.func109 rfl (by decide) vs w⟩
instance :TFun Tryz.prog 110:=⟨fun vs w=>enter_of Tryz.func110 rfl (by decide) vs w⟩
instance :TFun Tryz.prog 111:=⟨fun vs w=>enter_of Tryz.func111 rfl (by decide) vs w⟩
instance :TFun Tryz.prog 115:=⟨fun vs w=>enter_of Tryz.func115 rfl (by decide) vs w⟩
instance :TFun Tryz.prog 116:=⟨fun vs w=>enter_of Tryz.func116 rfl (by decide) vs w⟩
instance :TFun Tryz.prog 117:=⟨fun vs w=>enter_of Tryz.func117 rfl (by decide) vs w⟩
instance :TFun Tryz.prog 118:=⟨fun vs w=>enter_of Tryz.func118 rfl (by decide) vs w⟩
instance :TFun Tryz.prog 119:=⟨fun vs w=>enter_of Tryz.func119 rfl (by decide) vs w⟩
instance :TFun Tryz.prog 120:=⟨fun vs w=>enter_of Tryz.func120 rfl (by decide) vs w⟩
instance :TFun Tryz.prog 121:=⟨fun vs w=>enter_of Tryz.func121 rfl (by decide) vs w⟩
instance :TFun Tryz.prog 122:=⟨fun vs w=>enter_of Tryz.func122 rfl (by decide) vs w⟩
instance :TFun Tryz.prog 123:=⟨fun vs w=>enter_of Tryz.func123 rfl (by decide) vs w⟩
instance :TFun Tryz.prog 124:=⟨fun vs w=>enter_of Tryz.func124 rfl (by decide) vs w⟩
instance :TFun Tryz.prog 125:=⟨fun vs w=>enter_of Tryz.func125 rfl (by decide) vs w⟩
instance :TFun Tryz.prog 126:=⟨fun vs w=>enter_of Tryz.func126 rfl (by decide) vs w⟩
instance :TFun Tryz.prog 127:=⟨fun vs w=>enter_of Tryz.func127 rfl (by decide) vs w⟩
instance :TFun Tryz.prog 128:=⟨fun vs w=>enter_of Tryz.func128 rfl (by decide) vs w⟩
instance :TFun Tryz.prog 131:=⟨fun vs w=>enter_of Tryz.func131 rfl (by decide) vs w⟩
instance :TFun Tryz.prog 132:=⟨fun vs w=>enter_of Tryz.func132 rfl (by decide) vs w⟩
instance :TFun Tryz.prog 133:=⟨fun vs w=>enter_of Tryz.func133 rfl (by decide) vs w⟩
instance :TFun Tryz.prog 134:=⟨fun vs w=>enter_of Tryz.func134 rfl (by decide) vs w⟩
instance :TFun Tryz.prog 135:=⟨fun vs w=>enter_of Tryz.func135 rfl (by decide) vs w⟩
instance :TFun Tryz.prog 136:=⟨fun vs w=>enter_of Tryz.func136 rfl (by decide) vs w⟩
instance :TFun Tryz.prog 137:=⟨fun vs w=>enter_of Tryz.func137 rfl (by decide) vs w⟩
instance :TFun Tryz.prog 138:=⟨fun vs w=>enter_of Tryz.func138 rfl (by decide) vs w⟩
instance :TFun Tryz.prog 139:=⟨fun vs w=>enter_of Tryz.func139 rfl (by decide) vs w⟩
instance :TFun Tryz.prog 140:=⟨fun vs w=>enter_of Tryz.func140 rfl (by decide) vs w⟩
instance :TFun Tryz.prog 141:=⟨fun vs w=>enter_of Tryz.func141 rfl (by decide) vs w⟩
instance :TFun Tryz.prog 142:=⟨fun vs w=>enter_of Tryz.func142 rfl (by decide) vs w⟩
instance :TFun Tryz.prog 143:=⟨fun vs w=>enter_of Tryz.func143 rfl (by decide) vs w⟩
instance :TFun Tryz.prog 147:=⟨fun vs w=>enter_of Tryz.func147 rfl (by decide) vs w⟩
instance :TFun Tryz.prog 148:=⟨fun vs w=>enter_of Tryz.func148 rfl (by decide) vs w⟩
instance :TFun Tryz.prog 149:=⟨fun vs w=>enter_of Tryz.func149 rfl (by decide) vs w⟩
instance :TFun Tryz.prog 150:=⟨fun vs w=>enter_of Tryz.func150 rfl (by decide) vs w⟩
instance :TFun Tryz.prog 151:=⟨fun vs w=>enter_of Tryz.func151 rfl (by decide) vs w⟩
instance :TFun Tryz.prog 152:=⟨fun vs w=>enter_of Tryz.func152 rfl (by decide) vs w⟩
instance :TFun Tryz.prog 153:=⟨fun vs w=>enter_of Tryz.func153 rfl (by decide) vs w⟩
instance :TFun Tryz.prog 154:=⟨fun vs w=>enter_of Tryz.func154 rfl (by decide) vs w⟩
instance :TFun Tryz.prog 155:=⟨fun vs w=>enter_of Tryz.func155 rfl (by decide) vs w⟩
instance :TFun Tryz.prog 156:=⟨fun vs w=>enter_of Tryz.func156 rfl (by decide) vs w⟩
instance :TFun Tryz.prog 157:=⟨fun vs w=>enter_of Tryz.func157 rfl (by decide) vs w⟩
instance :TFun Tryz.prog 158:=⟨fun vs w=>enter_of Tryz.func158 rfl (by decide) vs w⟩
instance :TFun Tryz.prog 159:=⟨fun vs w=>enter_of Tryz.func159 rfl (by decide) vs w⟩
instance :TFun Tryz.prog 160:=⟨fun vs w=>enter_of Tryz.func160 rfl (by decide) vs w⟩
instance :TFun Tryz.prog 161:=⟨fun vs w=>enter_of Tryz.func161 rfl (by decide) vs w⟩
instance :TFun Tryz.prog 162:=⟨fun vs w=>enter_of Tryz.func162 rfl (by decide) vs w⟩
instance :TFun Tryz.prog 163:=⟨fun vs w=>enter_of Tryz.func163 rfl (by decide) vs w⟩
instance :TFun Tryz.prog 164:=⟨fun vs w=>enter_of Tryz.func164 rfl (by decide) vs w⟩
instance :TFun Tryz.prog 165:=⟨fun vs w=>enter_of Tryz.func165 rfl (by decide) vs w⟩
instance :TFun Tryz.prog 167:=⟨fun vs w=>enter_of Tryz.func167 rfl (by decide) vs w⟩
instance :TFun Tryz.prog 168:=⟨fun vs w=>enter_of Tryz.func168 rfl (by decide) vs w⟩
instance :TFun Tryz.prog 169:=⟨fun vs w=>enter_of Tryz.func169 rfl (by decide) vs w⟩
instance :TFun Tryz.prog 170:=⟨fun vs w=>enter_of Tryz.func170 rfl (by decide) vs w⟩
instance :TFun Tryz.prog 171:=⟨fun vs w=>enter_of Tryz.func171 rfl (by decide) vs w⟩
instance :TFun Tryz.prog 172:=⟨fun vs w=>enter_of Tryz.func172 rfl (by decide) vs w⟩
instance :TFun Tryz.prog 173:=⟨fun vs w=>enter_of Tryz.func173 rfl (by decide) vs w⟩
instance :TFun Tryz.prog 174:=⟨fun vs w=>enter_of Tryz.func174 rfl (by decide) vs w⟩
instance :TFun Tryz.prog 175:=⟨fun vs w=>enter_of Tryz.func175 rfl (by decide) vs w⟩
instance :TFun Tryz.prog 186:=⟨fun vs w=>enter_of Tryz.func186 rfl (by decide) vs w⟩
instance :TFun Tryz.prog 187:=⟨fun vs w=>enter_of Tryz.func187 rfl (by decide) vs w⟩
instance :TFun Tryz.prog 188:=⟨fun vs w=>enter_of Tryz.func188 rfl (by decide) vs w⟩
instance :TFun Tryz.prog 189:=⟨fun vs w=>enter_of Tryz.func189 rfl (by decide) vs w⟩
instance :TFun Tryz.prog 190:=⟨fun vs w=>enter_of Tryz.func190 rfl (by decide) vs w⟩
instance :TFun Tryz.prog 191:=⟨fun vs w=>enter_of Tryz.func191 rfl (by decide) vs w⟩
instance :TFun Tryz.prog 192:=⟨fun vs w=>enter_of Tryz.func192 rfl (by decide) vs w⟩
instance :TFun Tryz.prog 193:=⟨fun vs w=>enter_of Tryz.func193 rfl (by decide) vs w⟩
instance :TFun Tryz.prog 194:=⟨fun vs w=>enter_of Tryz.func194 rfl (by decide) vs w⟩
instance :TFun Tryz.prog 195:=⟨fun vs w=>enter_of Tryz.func195 rfl (by decide) vs w⟩
instance :TFun Tryz.prog 196:=⟨fun vs w=>enter_of Tryz.func196 rfl (by decide) vs w⟩
instance :TFun Tryz.prog 197:=⟨fun vs w=>enter_of Tryz.func197 rfl (by decide) vs w⟩
instance :TFun Tryz.prog 198:=⟨fun vs w=>enter_of Tryz.func198 rfl (by decide) vs w⟩
instance :TFun Tryz.prog 199:=⟨fun vs w=>enter_of Tryz.func199 rfl (by decide) vs w⟩
instance :TFun Tryz.prog 200:=⟨fun vs w=>enter_of Tryz.func200 rfl (by decide) vs w⟩
instance :TFun Tryz.prog 201:=⟨fun vs w=>enter_of Tryz.func201 rfl (by decide) vs w⟩
instance :TFun Tryz.prog 202:=⟨fun vs w=>enter_of Tryz.func202 rfl (by decide) vs w⟩
instance :TFun Tryz.prog 203:=⟨fun vs w=>enter_of Tryz.func203 rfl (by decide) vs w⟩
instance :TFun Tryz.prog 205:=⟨fun vs w=>enter_of Tryz.func205 rfl (by decide) vs w⟩
instance :TFun Tryz.prog 206:=⟨fun vs w=>enter_of Tryz.func206 rfl (by decide) vs w⟩
instance :TFun Tryz.prog 207:=⟨fun vs w=>enter_of Tryz.func207 rfl (by decide) vs w⟩
instance :TFun Tryz.prog 208:=⟨fun vs w=>enter_of Tryz.func208 rfl (by decide) vs w⟩
instance :TFun Tryz.prog 209:=⟨fun vs w=>enter_of Tryz.func209 rfl (by decide) vs w⟩
instance :TFun Tryz.prog 210:=⟨fun vs w=>enter_of Tryz.func210 rfl (by decide) vs w⟩
instance :TFun Tryz.prog 211:=⟨fun vs w=>enter_of Tryz.func211 rfl (by decide) vs w⟩
instance :TFun Tryz.prog 212:=⟨fun vs w=>enter_of Tryz.func212 rfl (by decide) vs w⟩
instance :TFun Tryz.prog 213:=⟨fun vs w=>enter_of Tryz.func213 rfl (by decide) vs w⟩
instance :TFun Tryz.prog 214:=⟨fun vs w=>enter_of Tryz.func214 rfl (by decide) vs w⟩
instance :TFun Tryz.prog 215:=⟨fun vs w=>enter_of Tryz.func215 rfl (by decide) vs w⟩
instance :TFun Tryz.prog 216:=⟨fun vs w=>enter_of Tryz.func216 rfl (by decide) vs w⟩
instance :TFun Tryz.prog 222:=⟨fun vs w=>enter_of Tryz.func222 rfl (by decide) vs w⟩
instance :TFun Tryz.prog 223:=⟨fun vs w=>enter_of Tryz.func223 rfl (by decide) vs w⟩
instance :TFun Tryz.prog 224:=⟨fun vs w=>enter_of Tryz.func224 rfl (by decide) vs w⟩
instance :TFun Tryz.prog 225:=⟨fun vs w=>enter_of Tryz.func225 rfl (by decide) vs w⟩
instance :TFun Tryz.prog 226:=⟨fun vs w=>enter_of Tryz.func226 rfl (by decide) vs w⟩
instance :TFun Tryz.prog 227:=⟨fun vs w=>enter_of Tryz.func227 rfl (by decide) vs w⟩
instance :TFun Tryz.prog 228:=⟨fun vs w=>enter_of Tryz.func228 rfl (by decide) vs w⟩
instance :TFun Tryz.prog 229:=⟨fun vs w=>enter_of Tryz.func229 rfl (by decide) vs w⟩
instance :TFun Tryz.prog 230:=⟨fun vs w=>enter_of Tryz.func230 rfl (by decide) vs w⟩
instance :TFun Tryz.prog 231:=⟨fun vs w=>enter_of Tryz.func231 rfl (by decide) vs w⟩
instance :TFun Tryz.prog 232:=⟨fun vs w=>enter_of Tryz.func232 rfl (by decide) vs w⟩
instance :TFun Tryz.prog 233:=⟨fun vs w=>enter_of Tryz.func233 rfl (by decide) vs w⟩
instance :TFun Tryz.prog 234:=⟨fun vs w=>enter_of Tryz.func234 rfl (by decide) vs w⟩
instance :TFun Tryz.prog 235:=⟨fun vs w=>enter_of Tryz.func235 rfl (by decide) vs w⟩
instance :TFun Tryz.prog 236:=⟨fun vs w=>enter_of Tryz.func236 rfl (by decide) vs w⟩
instance :TFun Tryz.prog 237:=⟨fun vs w=>enter_of Tryz.func237 rfl (by decide) vs w⟩
instance :TFun Tryz.prog 238:=⟨fun vs w=>enter_of Tryz.func238 rfl (by decide) vs w⟩
instance :TFun Tryz.prog 239:=⟨fun vs w=>enter_of Tryz.func239 rfl (by decide) vs w⟩
instance :TFun Tryz.prog 240:=⟨fun vs w=>enter_of Tryz.func240 rfl (by decide) vs w⟩
instance :TFun Tryz.prog 241:=⟨fun vs w=>enter_of Tryz.func241 rfl (by decide) vs w⟩
instance :TFun Tryz.prog 242:=⟨fun vs w=>enter_of Tryz.func242 rfl (by decide) vs w⟩
instance :TFun Tryz.prog 243:=⟨fun vs w=>enter_of Tryz.func243 rfl (by decide) vs w⟩
instance :TFun Tryz.prog 244:=⟨fun vs w=>enter_of Tryz.func244 rfl (by decide) vs w⟩
instance :TFun Tryz.prog 245:=⟨fun vs w=>enter_of Tryz.func245 rfl (by decide) vs w⟩
instance :TFun Tryz.prog 246:=⟨fun vs w=>enter_of Tryz.func246 rfl (by decide) vs w⟩
instance :TFun Tryz.prog 247:=⟨fun vs w=>enter_of Tryz.func247 rfl (by decide) vs w⟩
instance :TFun Tryz.prog 248:=⟨fun vs w=>enter_of Tryz.func248 rfl (by decide) vs w⟩
instance :TFun Tryz.prog 249:=⟨fun vs w=>enter_of Tryz.func249 rfl (by decide) vs w⟩
instance :TFun Tryz.prog 250:=⟨fun vs w=>enter_of Tryz.func250 rfl (by decide) vs w⟩
instance :TFun Tryz.prog 251:=⟨fun vs w=>enter_of Tryz.func251 rfl (by decide) vs w⟩
instance :TFun Tryz.prog 252:=⟨fun vs w=>enter_of Tryz.func252 rfl (by decide) vs w⟩
instance :TFun Tryz.prog 255:=⟨fun vs w=>enter_of Tryz.func255 rfl (by decide) vs w⟩
instance :TFun Tryz.prog 256:=⟨fun vs w=>enter_of Tryz.func256 rfl (by decide) vs w⟩
instance :TFun Tryz.prog 257:=⟨fun vs w=>enter_of Tryz.func257 rfl (by decide) vs w⟩
instance :TFun Tryz.prog 258:=⟨fun vs w=>enter_of Tryz.func258 rfl (by decide) vs w⟩
instance :TFun Tryz.prog 259:=⟨fun vs w=>enter_of Tryz.func259 rfl (by decide) vs w⟩
instance :TFun Tryz.prog 260:=⟨fun vs w=>enter_of Tryz.func260 rfl (by decide) vs w⟩
instance :TFun Tryz.prog 261:=⟨fun vs w=>enter_of Tryz.func261 rfl (by decide) vs w⟩
instance :TFun Tryz.prog 262:=⟨fun vs w=>enter_of Tryz.func262 rfl (by decide) vs w⟩
instance :TFun Tryz.prog 263:=⟨fun vs w=>enter_of Tryz.func263 rfl (by decide) vs w⟩
instance :TFun Tryz.prog 264:=⟨fun vs w=>enter_of Tryz.func264 rfl (by decide) vs w⟩
instance :TFun Tryz.prog 265:=⟨fun vs w=>enter_of Tryz.func265 rfl (by decide) vs w⟩
instance :TFun Tryz.prog 266:=⟨fun vs w=>enter_of Tryz.func266 rfl (by decide) vs w⟩
instance :TFun Tryz.prog 267:=⟨fun vs w=>enter_of Tryz.func267 rfl (by decide) vs w⟩
instance :TFun Tryz.prog 268:=⟨fun vs w=>enter_of Tryz.func268 rfl (by decide) vs w⟩
instance :TFun Tryz.prog 269:=⟨fun vs w=>enter_of Tryz.func269 rfl (by decide) vs w⟩
instance :TFun Tryz.prog 270:=⟨fun vs w=>enter_of Tryz.func270 rfl (by decide) vs w⟩
instance :TFun Tryz.prog 271:=⟨fun vs w=>enter_of Tryz.func271 rfl (by decide) vs w⟩
instance :TFun Tryz.prog 272:=⟨fun vs w=>enter_of Tryz.func272 rfl (by decide) vs w⟩
instance :TFun Tryz.prog 281:=⟨fun vs w=>enter_of Tryz.func281 rfl (by decide) vs w⟩
instance :TFun Tryz.prog 282:=⟨fun vs w=>enter_of Tryz.func282 rfl (by decide) vs w⟩
instance :TFun Tryz.prog 283:=⟨fun vs w=>enter_of Tryz.func283 rfl (by decide) vs w⟩
instance :TFun Tryz.prog 286:=⟨fun vs w=>enter_of Tryz.func286 rfl (by decide) vs w⟩
instance :TFun Tryz.prog 290:=⟨fun vs w=>enter_of Tryz.func290 rfl (by decide) vs w⟩
end Go.Proofs
namespace Go.Q
open Go
section
variable {P:Program} {N:Nat} {all:Array Oper} {K:Env→List Res→Prop} {fl:List Bool} {os:List Oper} {ρ:Env} {L:List Res} {Q:PPost} {c:Code} {ty:TypeId} {pos:String} {af:Array Edge}
theorem g_guard {j:Nat} {b:Bool} {o:Op} {dst:Option Nat} (k:pops P N all K fl (⟨dst,o,ty,pos,af,some (j,b)⟩::os) ρ L):pops P N all K fl (⟨dst,o,ty,pos,af,some (j,b)⟩::os) ρ L:=k
theorem g_move {x:Operand} {dst:Option Nat} (k:pops P N all K fl (⟨dst,.move x,ty,pos,af,none⟩::os) ρ L):pops P N all K fl (⟨dst,.move x,ty,pos,af,none⟩::os) ρ L:=k
theorem g_assign {x:Operand} {dst:Option Nat} (k:pops P N all K fl (⟨dst,.assign x,ty,pos,af,none⟩::os) ρ L):pops P N all K fl (⟨dst,.assign x,ty,pos,af,none⟩::os) ρ L:=k
theorem g_load {T:TypeId} {x:Operand} {dst:Option Nat} (k:pops P N all K fl (⟨dst,.load T x,ty,pos,af,none⟩::os) ρ L):pops P N all K fl (⟨dst,.load T x,ty,pos,af,none⟩::os) ρ L:=k
theorem g_fld {S f:Nat} {x:Operand} {dst:Option Nat} (k:pops P N all K fl (⟨dst,.fieldAddr S x f,ty,pos,af,none⟩::os) ρ L):pops P N all K fl (⟨dst,.fieldAddr S x f,ty,pos,af,none⟩::os) ρ L:=k
theorem g_len {x:Operand} {T:TypeId} {dst:Option Nat} (k:pops P N all K fl (⟨dst,.call { callee:= .builtin .len,args:= #[x],argTypes:= #[T] },ty,pos,af,none⟩::os) ρ L):pops P N all K fl (⟨dst,.call { callee:= .builtin .len,args:= #[x],argTypes:= #[T] },ty,pos,af,none⟩::os) ρ L:=k
theorem g_call {f:Nat} {xs:Array Operand} {ats:Array TypeId} {dst:Option Nat} (k:pops P N all K fl (⟨dst,.call { callee:= .value (.func f),args:=xs,argTypes:=ats },ty,pos,af,none⟩::os) ρ L):pops P N all K fl (⟨dst,.call { callee:= .value (.func f),args:=xs,argTypes:=ats },ty,pos,af,none⟩::os) ρ L:=k
theorem g_bin {o:BinOp} {T T₂:TypeId} {x y:Operand} {dst:Option Nat} (k:pops P N all K fl (⟨dst,.binOp o T x y T₂,ty,pos,af,none⟩::os) ρ L):pops P N all K fl (⟨dst,.binOp o T x y T₂,ty,pos,af,none⟩::os) ρ L:=k
theorem g_ix {T:TypeId} {x y:Operand} {dst:Option Nat} (k:pops P N all K fl (⟨dst,.indexAddr T x y,ty,pos,af,none⟩::os) ρ L):pops P N all K fl (⟨dst,.indexAddr T x y,ty,pos,af,none⟩::os) ρ L:=k
theorem g_ext {i:Nat} {x:Operand} {dst:Option Nat} (k:pops P N all K fl (⟨dst,.extract x i,ty,pos,af,none⟩::os) ρ L):pops P N all K fl (⟨dst,.extract x i,ty,pos,af,none⟩::os) ρ L:=k
theorem g_pick {c x y:Operand} {dst:Option Nat} (k:pops P N all K fl (⟨dst,.pick c x y,ty,pos,af,none⟩::os) ρ L):pops P N all K fl (⟨dst,.pick c x y,ty,pos,af,none⟩::os) ρ L:=k
theorem g_un {o:UnOp} {T:TypeId} {x:Operand} {dst:Option Nat} (k:pops P N all K fl (⟨dst,.unOp o T x,ty,pos,af,none⟩::os) ρ L):pops P N all K fl (⟨dst,.unOp o T x,ty,pos,af,none⟩::os) ρ L:=k
theorem g_store {T:TypeId} {x y:Operand} {dst:Option Nat} (k:pops P N all K fl (⟨dst,.store T x y,ty,pos,af,none⟩::os) ρ L):pops P N all K fl (⟨dst,.store T x y,ty,pos,af,none⟩::os) ρ L:=k
theorem g_bs {T n:Nat} {ps:Array (Nat × Operand)} {dst:Option Nat} (k:pops P N all K fl (⟨dst,.buildSlice T n ps,ty,pos,af,none⟩::os) ρ L):pops P N all K fl (⟨dst,.buildSlice T n ps,ty,pos,af,none⟩::os) ρ L:=k
theorem g_build {T:Nat} {ps:Array (Nat × Operand)} {dst:Option Nat} (k:pops P N all K fl (⟨dst,.build T ps,ty,pos,af,none⟩::os) ρ L):pops P N all K fl (⟨dst,.build T ps,ty,pos,af,none⟩::os) ρ L:=k
theorem g_slice {T:TypeId} {x:Operand} {lo hi mx:Option Operand} {dst:Option Nat} (k:pops P N all K fl (⟨dst,.slice T x lo hi mx,ty,pos,af,none⟩::os) ρ L):pops P N all K fl (⟨dst,.slice T x lo hi mx,ty,pos,af,none⟩::os) ρ L:=k
theorem g_conv {S T:TypeId} {x:Operand} {dst:Option Nat} (k:pops P N all K fl (⟨dst,.convert S T x,ty,pos,af,none⟩::os) ρ L):pops P N all K fl (⟨dst,.convert S T x,ty,pos,af,none⟩::os) ρ L:=k
theorem g_index {T:TypeId} {x y:Operand} {dst:Option Nat} (k:pops P N all K fl (⟨dst,.index T x y,ty,pos,af,none⟩::os) ρ L):pops P N all K fl (⟨dst,.index T x y,ty,pos,af,none⟩::os) ρ L:=k
theorem g_nck {x:Operand} {dst:Option Nat} (k:pops P N all K fl (⟨dst,.nilCheck x,ty,pos,af,none⟩::os) ρ L):pops P N all K fl (⟨dst,.nilCheck x,ty,pos,af,none⟩::os) ρ L:=k
structure Wrap (B:Prop):Prop where
 out:B
structure WrapF {α:Type} (B:α→Prop):Prop where
 out: ∀ a,B a
theorem walk {A B:Prop} (k:B) (h:Wrap B→A:=by
  intro hB
  repeat(first
   |refine pops_nil ?_
   |(refine g_guard ?_;first|refine pops_yes rfl (by rfl) ?_|refine pops_yesA rfl (by first|((conv=>lhs;whnf);done)|fail) (by assumption) ?_|refine pops_noT rfl (by first|((conv=>lhs;whnf);done)|fail) (by assumption) ?_|refine pops_noF rfl (by first|((conv=>lhs;whnf);done)|fail) (by assumption) ?_|refine pops_noU rfl (by rfl) ?_|refine pops_noT rfl (by rfl) rfl ?_|refine pops_noF rfl (by rfl) rfl ?_)
   |(refine g_move ?_;first|refine s_moveN (by(conv=>lhs;whnf);done) ?_)
   |(refine g_assign ?_;first|refine s_assignN (by(conv=>lhs;whnf);done) ?_)
   |(refine g_load ?_;first|refine s_loadAL (by rfl) (hl:=(by first|infer_instance|fail)) ?_|refine s_loadS (by rfl) rfl ?_|refine s_loadBL (by rfl) (by repeat(first|exact List.mem_cons_self|apply List.mem_cons_of_mem)) (hl:=(by first|infer_instance|fail)) ?_|refine s_loadBF (by rfl) (by repeat(first|exact List.mem_cons_self|apply List.mem_cons_of_mem)) (hs:=(by first|infer_instance|fail)) ?_|refine s_loadBG (by rfl) (by repeat(first|exact List.mem_cons_self|apply List.mem_cons_of_mem)) (hs:=(by first|infer_instance|fail)) ?_|refine s_loadD (by rfl) (by repeat(first|exact List.mem_cons_self|apply List.mem_cons_of_mem)) (by omega) ?_|refine s_loadW (by rfl) (by repeat(first|exact List.mem_cons_self|apply List.mem_cons_of_mem)) (by omega) ?_)
   |(refine g_fld ?_;first|refine s_fldF (by rfl) (hr:=(by first|infer_instance|fail)) ?_|refine s_fldBq (by rfl) (by(conv=>lhs;whnf);done) ?_)
   |(refine g_len ?_;first|refine s_lenM (by rfl) ?_|refine s_lenS (by(conv=>lhs;whnf);done) (jx:=(by first|infer_instance|fail)) ?_|refine s_len (by rfl) ?_)
   |(refine g_call ?_;first|refine j_call1 (by(conv=>lhs;whnf);done) (hN0:=(by first|infer_instance|fail)) (hc:=(by first|infer_instance|fail)) ?_|refine j_call2 (by(conv=>lhs;whnf);done) (by(conv=>lhs;whnf);done) (hN0:=(by first|infer_instance|fail)) (hN1:=(by first|infer_instance|fail)) (hc:=(by first|infer_instance|fail)) ?_|refine j_call3 (by(conv=>lhs;whnf);done) (by(conv=>lhs;whnf);done) (by(conv=>lhs;whnf);done) (hN0:=(by first|infer_instance|fail)) (hN1:=(by first|infer_instance|fail)) (hN2:=(by first|infer_instance|fail)) (hc:=(by first|infer_instance|fail)) ?_|refine j_call0 (hc:=(by first|infer_instance|fail)) ?_|refine j_call4 (by(conv=>lhs;whnf);done) (by(conv=>lhs;whnf);done) (by(conv=>lhs;whnf);done) (by(conv=>lhs;whnf);done) (hN0:=(by first|infer_instance|fail)) (hN1:=(by first|infer_instance|fail)) (hN2:=(by first|infer_instance|fail)) (hN3:=(by first|infer_instance|fail)) (hc:=(by first|infer_instance|fail)) ?_|refine j_call5 (by(conv=>lhs;whnf);done) (by(conv=>lhs;whnf);done) (by(conv=>lhs;whnf);done) (by(conv=>lhs;whnf);done) (by(conv=>lhs;whnf);done) (hN0:=(by first|infer_instance|fail)) (hN1:=(by first|infer_instance|fail)) (hN2:=(by first|infer_instance|fail)) (hN3:=(by first|infer_instance|fail)) (hN4:=(by first|infer_instance|fail)) (hc:=(by first|infer_instance|fail)) ?_|refine j_call6 (by(conv=>lhs;whnf);done) (by(conv=>lhs;whnf);done) (by(conv=>lhs;whnf);done) (by(conv=>lhs;whnf);done) (by(conv=>lhs;whnf);done) (by(conv=>lhs;whnf);done) (hN0:=(by first|infer_instance|fail)) (hN1:=(by first|infer_instance|fail)) (hN2:=(by first|infer_instance|fail)) (hN3:=(by first|infer_instance|fail)) (hN4:=(by first|infer_instance|fail)) (hN5:=(by first|infer_instance|fail)) (hc:=(by first|infer_instance|fail)) ?_)
   |(refine g_bi ?_;first|refine s_min (by rfl) (by rfl) ?_|refine s_max (by rfl) (by rfl) ?_)
   |(refine g_bin ?_;first|refine s_lss (by rfl) (by rfl) ?_|refine s_leq (by rfl) (by rfl) ?_|refine s_gtr (by rfl) (by rfl) ?_|refine s_geq (by rfl) (by rfl) ?_|refine s_eqi (by rfl) (by rfl) ?_|refine s_nei (by rfl) (by rfl) ?_|refine s_add (by rfl) (by rfl) (by constructor<;>omega) ?_|refine s_sub (by rfl) (by rfl) (by constructor<;>omega) ?_|refine s_eqDig (by rfl) (by rfl) ?_|refine s_neDig (by rfl) (by rfl) ?_|refine s_eqId (by rfl) (by rfl) ?_|refine s_neId (by rfl) (by rfl) ?_|refine s_eqS (by(conv=>lhs;whnf);done) (by(conv=>lhs;whnf);done) (jx:=(by first|infer_instance|fail)) (jy:=(by first|infer_instance|fail)) ?_|refine s_neS (by(conv=>lhs;whnf);done) (by(conv=>lhs;whnf);done) (jx:=(by first|infer_instance|fail)) (jy:=(by first|infer_instance|fail)) ?_|refine s_eqB (by rfl) (by rfl) ?_|refine s_neB (by rfl) (by rfl) ?_|refine s_cat (by(conv=>lhs;whnf);done) (by(conv=>lhs;whnf);done) (jx:=(by first|infer_instance|fail)) (jy:=(by first|infer_instance|fail)) (by first|omega|(simp only[List.length_append,List.length_cons,List.length_nil,Nat.zero_add];omega)) ?_|refine s_mul (by rfl) (by rfl) (by constructor<;>omega) ?_|refine s_quo (by rfl) (by rfl) (by omega) (by omega) ?_|refine s_rem (by rfl) (by rfl) (by omega) ?_|refine s_addW (by rfl) (by rfl) ?_|refine s_xorW (by rfl) (by rfl) ?_|refine s_andW (by rfl) (by rfl) ?_|refine s_orW (by rfl) (by rfl) ?_|refine s_shrW (by rfl) (by rfl) ?_|refine s_shlW (by rfl) (by rfl) ?_|refine s_shrU (by rfl) (by rfl) ?_|refine s_subU (by rfl) (by rfl) (by omega) (by omega) ?_|refine s_mulU (by rfl) (by rfl) (by omega) ?_)
   |(refine g_ix ?_;first|refine s_indexN (by rfl) (by rfl) (by omega) ?_|refine s_indexB (by rfl) (by rfl) (by omega) ?_|refine s_indexZ (by rfl) (by rfl) (by omega) (by omega) ?_)
   |(refine g_ext ?_;first|refine s_extract (by rfl) rfl ?_)
   |(refine g_pick ?_;first|refine s_pickTA (by rfl) rfl (by(conv=>lhs;whnf);done) ?_|refine s_pickFA (by rfl) rfl (by(conv=>lhs;whnf);done) ?_|refine s_pickTA (by first|((conv=>lhs;whnf);done)|fail) (by assumption) (by(conv=>lhs;whnf);done) ?_|refine s_pickFA (by first|((conv=>lhs;whnf);done)|fail) (by assumption) (by(conv=>lhs;whnf);done) ?_)
   |(refine g_un ?_;first|refine s_not (by rfl) ?_|refine s_neg (by rfl) (by constructor<;>omega) ?_|refine s_notW (by rfl) ?_)
   |(refine g_store ?_;first|refine s_storeC (by rfl) (by(conv=>lhs;whnf);done) (hC:=(by first|infer_instance|fail)) (hB:=(by first|infer_instance|fail)) (hp:=(by first|infer_instance|fail)) (hu:=(by first|infer_instance|fail)) (hf:=(by first|infer_instance|fail)) (hlen:=(by first|infer_instance|fail)) ?_|refine s_storeX (by rfl) (by rfl) (hB:=(by first|infer_instance|fail)) (hu:=(by first|infer_instance|fail)) (hf:=(by first|infer_instance|fail)) (hlen:=(by first|infer_instance|fail)) (hcs:=(by first|infer_instance|fail)) ?_|refine s_storeW32 (by rfl) (by rfl) (by repeat(first|exact List.mem_cons_self|apply List.mem_cons_of_mem)) (by omega) (hu:=(by first|infer_instance|fail)) ?_|refine s_storeD (by rfl) (by rfl) (by repeat(first|exact List.mem_cons_self|apply List.mem_cons_of_mem)) (by omega) (hu:=(by first|infer_instance|fail)) ?_)
   |(refine g_bs ?_;first|refine s_bs0 ?_|refine s_bs1 (by(conv=>lhs;whnf);done) (hC0:=(by first|infer_instance|fail)) (hf:=(by first|infer_instance|fail)) (by decide) ?_|refine s_bs2 (by(conv=>lhs;whnf);done) (by(conv=>lhs;whnf);done) (hC0:=(by first|infer_instance|fail)) (hC1:=(by first|infer_instance|fail)) (hf:=(by first|infer_instance|fail)) (by decide) ?_|refine s_bs3 (by(conv=>lhs;whnf);done) (by(conv=>lhs;whnf);done) (by(conv=>lhs;whnf);done) (hC0:=(by first|infer_instance|fail)) (hC1:=(by first|infer_instance|fail)) (hC2:=(by first|infer_instance|fail)) (hf:=(by first|infer_instance|fail)) (by decide) ?_|refine s_bs4 (by(conv=>lhs;whnf);done) (by(conv=>lhs;whnf);done) (by(conv=>lhs;whnf);done) (by(conv=>lhs;whnf);done) (hC0:=(by first|infer_instance|fail)) (hC1:=(by first|infer_instance|fail)) (hC2:=(by first|infer_instance|fail)) (hC3:=(by first|infer_instance|fail)) (hf:=(by first|infer_instance|fail)) (by decide) ?_|refine s_bs5 (by(conv=>lhs;whnf);done) (by(conv=>lhs;whnf);done) (by(conv=>lhs;whnf);done) (by(conv=>lhs;whnf);done) (by(conv=>lhs;whnf);done) (hC0:=(by first|infer_instance|fail)) (hC1:=(by first|infer_instance|fail)) (hC2:=(by first|infer_instance|fail)) (hC3:=(by first|infer_instance|fail)) (hC4:=(by first|infer_instance|fail)) (hf:=(by first|infer_instance|fail)) (by decide) ?_|refine s_bs6 (by(conv=>lhs;whnf);done) (by(conv=>lhs;whnf);done) (by(conv=>lhs;whnf);done) (by(conv=>lhs;whnf);done) (by(conv=>lhs;whnf);done) (by(conv=>lhs;whnf);done) (hC0:=(by first|infer_instance|fail)) (hC1:=(by first|infer_instance|fail)) (hC2:=(by first|infer_instance|fail)) (hC3:=(by first|infer_instance|fail)) (hC4:=(by first|infer_instance|fail)) (hC5:=(by first|infer_instance|fail)) (hf:=(by first|infer_instance|fail)) (by decide) ?_)
   |(refine g_build ?_;first|refine s_build0 ?_|refine s_buildA0 ?_|refine b_build1 (by(conv=>lhs;whnf);done) (hC0:=(by first|infer_instance|fail)) (hP0:=(by first|infer_instance|fail)) (hl0:=(by first|infer_instance|fail)) ?_|refine b_build2 (by(conv=>lhs;whnf);done) (by(conv=>lhs;whnf);done) (hC0:=(by first|infer_instance|fail)) (hC1:=(by first|infer_instance|fail)) (hP0:=(by first|infer_instance|fail)) (hP1:=(by first|infer_instance|fail)) (hl0:=(by first|infer_instance|fail)) (hl1:=(by first|infer_instance|fail)) ?_|refine b_build3 (by(conv=>lhs;whnf);done) (by(conv=>lhs;whnf);done) (by(conv=>lhs;whnf);done) (hC0:=(by first|infer_instance|fail)) (hC1:=(by first|infer_instance|fail)) (hC2:=(by first|infer_instance|fail)) (hP0:=(by first|infer_instance|fail)) (hP1:=(by first|infer_instance|fail)) (hP2:=(by first|infer_instance|fail)) (hl0:=(by first|infer_instance|fail)) (hl1:=(by first|infer_instance|fail)) (hl2:=(by first|infer_instance|fail)) ?_|refine b_build4 (by(conv=>lhs;whnf);done) (by(conv=>lhs;whnf);done) (by(conv=>lhs;whnf);done) (by(conv=>lhs;whnf);done) (hC0:=(by first|infer_instance|fail)) (hC1:=(by first|infer_instance|fail)) (hC2:=(by first|infer_instance|fail)) (hC3:=(by first|infer_instance|fail)) (hP0:=(by first|infer_instance|fail)) (hP1:=(by first|infer_instance|fail)) (hP2:=(by first|infer_instance|fail)) (hP3:=(by first|infer_instance|fail)) (hl0:=(by first|infer_instance|fail)) (hl1:=(by first|infer_instance|fail)) (hl2:=(by first|infer_instance|fail)) (hl3:=(by first|infer_instance|fail)) ?_|refine b_build5 (by(conv=>lhs;whnf);done) (by(conv=>lhs;whnf);done) (by(conv=>lhs;whnf);done) (by(conv=>lhs;whnf);done) (by(conv=>lhs;whnf);done) (hC0:=(by first|infer_instance|fail)) (hC1:=(by first|infer_instance|fail)) (hC2:=(by first|infer_instance|fail)) (hC3:=(by first|infer_instance|fail)) (hC4:=(by first|infer_instance|fail)) (hP0:=(by first|infer_instance|fail)) (hP1:=(by first|infer_instance|fail)) (hP2:=(by first|infer_instance|fail)) (hP3:=(by first|infer_instance|fail)) (hP4:=(by first|infer_instance|fail)) (hl0:=(by first|infer_instance|fail)) (hl1:=(by first|infer_instance|fail)) (hl2:=(by first|infer_instance|fail)) (hl3:=(by first|infer_instance|fail)) (hl4:=(by first|infer_instance|fail)) ?_|refine b_build6 (by(conv=>lhs;whnf);done) (by(conv=>lhs;whnf);done) (by(conv=>lhs;whnf);done) (by(conv=>lhs;whnf);done) (by(conv=>lhs;whnf);done) (by(conv=>lhs;whnf);done) (hC0:=(by first|infer_instance|fail)) (hC1:=(by first|infer_instance|fail)) (hC2:=(by first|infer_instance|fail)) (hC3:=(by first|infer_instance|fail)) (hC4:=(by first|infer_instance|fail)) (hC5:=(by first|infer_instance|fail)) (hP0:=(by first|infer_instance|fail)) (hP1:=(by first|infer_instance|fail)) (hP2:=(by first|infer_instance|fail)) (hP3:=(by first|infer_instance|fail)) (hP4:=(by first|infer_instance|fail)) (hP5:=(by first|infer_instance|fail)) (hl0:=(by first|infer_instance|fail)) (hl1:=(by first|infer_instance|fail)) (hl2:=(by first|infer_instance|fail)) (hl3:=(by first|infer_instance|fail)) (hl4:=(by first|infer_instance|fail)) (hl5:=(by first|infer_instance|fail)) ?_|refine b_build7 (by(conv=>lhs;whnf);done) (by(conv=>lhs;whnf);done) (by(conv=>lhs;whnf);done) (by(conv=>lhs;whnf);done) (by(conv=>lhs;whnf);done) (by(conv=>lhs;whnf);done) (by(conv=>lhs;whnf);done) (hC0:=(by first|infer_instance|fail)) (hC1:=(by first|infer_instance|fail)) (hC2:=(by first|infer_instance|fail)) (hC3:=(by first|infer_instance|fail)) (hC4:=(by first|infer_instance|fail)) (hC5:=(by first|infer_instance|fail)) (hC6:=(by first|infer_instance|fail)) (hP0:=(by first|infer_instance|fail)) (hP1:=(by first|infer_instance|fail)) (hP2:=(by first|infer_instance|fail)) (hP3:=(by first|infer_instance|fail)) (hP4:=(by first|infer_instance|fail)) (hP5:=(by first|infer_instance|fail)) (hP6:=(by first|infer_instance|fail)) (hl0:=(by first|infer_instance|fail)) (hl1:=(by first|infer_instance|fail)) (hl2:=(by first|infer_instance|fail)) (hl3:=(by first|infer_instance|fail)) (hl4:=(by first|infer_instance|fail)) (hl5:=(by first|infer_instance|fail)) (hl6:=(by first|infer_instance|fail)) ?_|refine b_build8 (by(conv=>lhs;whnf);done) (by(conv=>lhs;whnf);done) (by(conv=>lhs;whnf);done) (by(conv=>lhs;whnf);done) (by(conv=>lhs;whnf);done) (by(conv=>lhs;whnf);done) (by(conv=>lhs;whnf);done) (by(conv=>lhs;whnf);done) (hC0:=(by first|infer_instance|fail)) (hC1:=(by first|infer_instance|fail)) (hC2:=(by first|infer_instance|fail)) (hC3:=(by first|infer_instance|fail)) (hC4:=(by first|infer_instance|fail)) (hC5:=(by first|infer_instance|fail)) (hC6:=(by first|infer_instance|fail)) (hC7:=(by first|infer_instance|fail)) (hP0:=(by first|infer_instance|fail)) (hP1:=(by first|infer_instance|fail)) (hP2:=(by first|infer_instance|fail)) (hP3:=(by first|infer_instance|fail)) (hP4:=(by first|infer_instance|fail)) (hP5:=(by first|infer_instance|fail)) (hP6:=(by first|infer_instance|fail)) (hP7:=(by first|infer_instance|fail)) (hl0:=(by first|infer_instance|fail)) (hl1:=(by first|infer_instance|fail)) (hl2:=(by first|infer_instance|fail)) (hl3:=(by first|infer_instance|fail)) (hl4:=(by first|infer_instance|fail)) (hl5:=(by first|infer_instance|fail)) (hl6:=(by first|infer_instance|fail)) (hl7:=(by first|infer_instance|fail)) ?_)
   |(refine g_slice ?_;first|refine s_cutL (by rfl) (by rfl) (by omega) ?_|refine s_cutH (by rfl) (by rfl) (by omega) ?_|refine s_cutS (by(conv=>lhs;whnf);done) (by rfl) (by rfl) (jx:=(by first|infer_instance|fail)) (by omega) (by omega) (by omega) ?_|refine s_cutSL (by(conv=>lhs;whnf);done) (by rfl) (jx:=(by first|infer_instance|fail)) (by omega) (by omega) ?_|refine s_sliceD (by rfl) ?_)
   |(refine g_conv ?_;first|refine s_convB (by rfl) ?_|refine s_convW (by rfl) ?_|refine s_convU (by rfl) (by omega) ?_|refine s_strB (by rfl) ?_|refine s_strBox (by rfl) (by repeat(first|exact List.mem_cons_self|apply List.mem_cons_of_mem)) (hs:=(by first|infer_instance|fail)) ?_)
   |(refine g_index ?_;first|refine s_indexS (by(conv=>lhs;whnf);done) (by rfl) (jx:=(by first|infer_instance|fail)) (by omega) ?_)
   |(refine g_nck ?_;first|refine s_nilCheckP (by rfl) ?_)
   |refine pwp_seq ?_
   |refine pwp_region (by kernel_rfl) ?_
   |refine pwp_block ?_
   |refine pwp_skip ?_
   |refine pwp_ret ?_
   |refine pwp_exit ?_
   |refine pwp_drawQ (by decide+kernel) ?_
   |refine pwp_condT (by rfl) ?_
   |refine pwp_condF (by rfl) ?_)
  exact hB.out):A:=h ⟨k⟩
theorem walkp {A B:Prop} (k:B) (h:Wrap B→A:=by
  intro hB
  refine walk ?_
  exact hB.out):A:=h ⟨k⟩
theorem walkb {A:Prop} {B:Nat→Prop} (k: ∀ b,B b) (h:WrapF B→A:=by
  intro hB
  refine walk ?_
  first|refine s_box (by rfl) fun b=>?_|refine s_alloc fun b=>?_
  refine walk ?_
  exact hB.out b):A:=h ⟨k⟩
theorem walkbp {A:Prop} {B:Nat→Prop} (k: ∀ b,B b) (h:WrapF B→A:=by
  intro hB
  refine walkb fun b=>?_
  exact hB.out b):A:=h ⟨k⟩
theorem walka {A:Prop} {B:Tag→Prop} (k: ∀ t,B t) (h:WrapF B→A:=by
  intro hB
  refine walk ?_
  first|refine s_append0 (by rfl) (by rfl) (by simp only[List.length_append,List.length_cons,List.length_nil,List.length_map,List.length_take,List.length_drop,Nat.zero_add];omega) (by simp only[List.length_append,List.length_cons,List.length_nil,List.length_map,List.length_take,List.length_drop,Nat.zero_add];omega) fun t=>?_|refine s_append (by rfl) (by rfl) (by simp only[List.length_append,List.length_cons,List.length_nil,List.length_map,List.length_take,List.length_drop,Nat.zero_add];omega) (by simp only[List.length_append,List.length_cons,List.length_nil,List.length_map,List.length_take,List.length_drop,Nat.zero_add];omega) (fun t=>by first|exact .here|exact(.there .here)|exact(.there (.there .here))|exact(.there (.there (.there .here)))|exact(.there (.there (.there (.there .here))))|exact(.there (.there (.there (.there (.there .here)))))|exact(.there (.there (.there (.there (.there (.there .here))))))|exact(.there (.there (.there (.there (.there (.there (.there .here)))))))|exact(.there (.there (.there (.there (.there (.there (.there (.there .here))))))))) fun t=>?_
  refine walk ?_
  exact hB.out t):A:=h ⟨k⟩
theorem walkap {A:Prop} {B:Tag→Prop} (k: ∀ t,B t) (h:WrapF B→A:=by
  intro hB
  refine walka fun t=>?_
  exact hB.out t):A:=h ⟨k⟩
end
end Go.Q
namespace Go.Q
open Go
theorem u8_tri {a b:UInt8} (h:a≠b):a < b∨b < a:=by
 have h2:a.toNat≠b.toNat:=fun e=>h (UInt8.toNat.inj e)
 rw[UInt8.lt_iff_toNat_lt,UInt8.lt_iff_toNat_lt];omega
def cmpL:List UInt8→List UInt8→Int
 |x::xs,y::ys=>if x < y then -1 else if y < x then 1 else cmpL xs ys
 | [],[]=>0
 | [],_::_=> -1
 |_::_,[]=>1
def cmpD (a b:Dig):Int:=cmpL a.bs b.bs
theorem cmpL_cases: ∀ a b:List UInt8,cmpL a b= -1∧a < b∨cmpL a b=0∧a=b∨cmpL a b=1∧b < a
 | [],[]=> .inr (.inl ⟨rfl,rfl⟩)
 | [],y::ys=> .inl ⟨rfl,List.nil_lt_cons y ys⟩
 |x::xs,[]=> .inr (.inr ⟨rfl,List.nil_lt_cons x xs⟩)
 |x::xs,y::ys=>by
  unfold cmpL
  by_cases h1:x < y
  ·simp[h1,List.cons_lt_cons_iff]
  ·by_cases h2:y < x
   ·simp[h1,h2,List.cons_lt_cons_iff]
   ·have e:x=y:=by
     have:=u8_tri (a:=x) (b:=y)
     by_cases he:x=y
     ·exact he
     ·rcases this he with h|h
      ·exact absurd h h1
      ·exact absurd h h2
    subst e
    simp only[h1,if_false]
    rcases cmpL_cases xs ys with ⟨h3,h4⟩|⟨h3,h4⟩|⟨h3,h4⟩
    ·exact .inl ⟨h3,by simp[List.cons_lt_cons_iff,h4]⟩
    ·exact .inr (.inl ⟨h3,by rw[h4]⟩)
    ·exact .inr (.inr ⟨h3,by simp[List.cons_lt_cons_iff,h4]⟩)
theorem cmpL_eq_zero {a b:List UInt8}:cmpL a b=0↔a=b:=by
 rcases cmpL_cases a b with ⟨h1,h2⟩|⟨h1,h2⟩|⟨h1,h2⟩
 ·exact⟨fun h=>by omega,fun h=>by subst h;exact absurd h2 (List.lt_irrefl a)⟩
 ·exact⟨fun _=>h2,fun _=>h1⟩
 ·exact⟨fun h=>by omega,fun h=>by subst h;exact absurd h2 (List.lt_irrefl a)⟩
theorem cmpL_neg {a b:List UInt8}:cmpL a b < 0↔a < b:=by
 rcases cmpL_cases a b with ⟨h1,h2⟩|⟨h1,h2⟩|⟨h1,h2⟩
 ·exact⟨fun _=>h2,fun _=>by omega⟩
 ·exact⟨fun h=>by omega,fun h=>by subst h2;exact absurd h (List.lt_irrefl a)⟩
 ·exact⟨fun h=>by omega,fun h=>absurd (List.lt_trans h h2) (List.lt_irrefl a)⟩
def Dig.lt (a b:Dig):Prop:=cmpD a b < 0
instance (a b:Dig):Decidable (Dig.lt a b):=by unfold Dig.lt;infer_instance
theorem Dig.lt_irrefl (a:Dig): ¬Dig.lt a a:=fun h=>List.lt_irrefl a.bs (cmpL_neg.1 h)
theorem Dig.lt_trans {a b c:Dig} (h:Dig.lt a b) (k:Dig.lt b c):Dig.lt a c:=cmpL_neg.2 (List.lt_trans (cmpL_neg.1 h) (cmpL_neg.1 k))
theorem Dig.lt_asymm {a b:Dig} (h:Dig.lt a b): ¬Dig.lt b a:=fun k=>Dig.lt_irrefl a (Dig.lt_trans h k)
theorem Dig.ne_of_lt {a b:Dig} (h:Dig.lt a b):a≠b:=fun e=>by subst e;exact Dig.lt_irrefl _ h
theorem Dig.tri (a b:Dig):Dig.lt a b∨a=b∨Dig.lt b a:=by
 rcases cmpL_cases a.bs b.bs with ⟨h1,h2⟩|⟨h1,h2⟩|⟨h1,h2⟩
 ·exact .inl (cmpL_neg.2 h2)
 ·exact .inr (.inl (Dig.ext h2))
 ·exact .inr (.inr (cmpL_neg.2 h2))
theorem cmpD_zero {a b:Dig}:cmpD a b=0↔a=b:=⟨fun h=>Dig.ext (cmpL_eq_zero.1 h),fun h=>by subst h;exact cmpL_eq_zero.2 rfl⟩
theorem cmpL_at: ∀ {a b:List UInt8} {k:Nat},a.length=b.length→k < a.length→(∀ i,i < k→a.getD i 0=b.getD i 0)→a.getD k 0≠b.getD k 0→cmpL a b=if a.getD k 0 < b.getD k 0 then -1 else 1
 |x::xs,y::ys,0,hl,hk,he,hn=>by
  simp only[List.getD_cons_zero]at hn ⊢
  unfold cmpL
  by_cases h1:x < y
  ·simp[h1]
  ·have:=u8_tri hn
   have h2:y < x:=this.resolve_left h1
   simp[h1,h2]
 |x::xs,y::ys,k+1,hl,hk,he,hn=>by
  have h0:=he 0 (by omega)
  simp only[List.getD_cons_zero]at h0
  subst h0
  simp only[List.getD_cons_succ]at hn ⊢
  unfold cmpL
  simp only[UInt8.lt_irrefl,if_false]
  exact cmpL_at (by simpa using hl) (by simpa using hk) (fun i hi=>by have:=he (i+1) (by omega);simpa using this) hn
 | [],_,_,_,hk,_,_=>by simp at hk
 |_::_,[],_,hl,_,_,_=>by simp at hl
theorem cmpD_at {a b:Dig} {k:Nat} (hk:k < 32) (he: ∀ i,i < k→a.at i=b.at i) (hn:a.at k≠b.at k):cmpD a b=if a.at k < b.at k then -1 else 1:=
 cmpL_at (by rw[a.len,b.len]) (by rw[a.len];exact hk) he hn
def withD:List Dig→Dig→List Dig
 | [],d=> [d]
 |x::xs,d=>if Dig.lt x d then x::withD xs d else if x=d then x::xs else d::x::xs
theorem withD_at: ∀ {l:List Dig} {d:Dig} {k:Nat},k≤l.length→(∀ i (h:i < l.length),i < k→Dig.lt l[i] d)→(∀ h:k < l.length,¬Dig.lt l[k] d)→
  withD l d=if ∃ h:k < l.length,l[k]=d then l else l.take k++d::l.drop k
 | [],d,k,hk,_,_=>by simp[withD]
 |x::xs,d,0,_,_,hk=>by
  have:=hk (by simp)
  simp only[List.getElem_cons_zero]at this
  simp[withD,this]
 |x::xs,d,k+1,hl,h1,h2=>by
  have h0:=h1 0 (by simp) (by omega)
  simp only[List.getElem_cons_zero]at h0
  have ih:=withD_at (l:=xs) (d:=d) (k:=k) (by simpa using hl) (fun i h hi=>by have:=h1 (i+1) (by simpa using h) (by omega);simpa using this) (fun h=>by have:=h2 (by simpa using h);simpa using this)
  simp only[withD,h0,if_true,ih]
  simp only[List.length_cons,Nat.add_lt_add_iff_right,List.getElem_cons_succ,List.take_succ_cons,List.drop_succ_cons]
  split<;>rfl
end Go.Q
namespace Go.Proofs
open Go Go.Q
attribute [local irreducible] pwp pops PCalls OpN
instance Compare_ct (a b:Dig):FnC Tryz.prog 64 [.agg (eDig a),.agg (eDig b)] (.raw (.int .i64 (cmpD a b))):=⟨by
 refine fn_of Tryz.func64 Tryz.ntmps64 rfl (rs:= [.tmp 4]) rfl rfl fun hb LF=>?_
 refine walkb fun p=>?_
 refine walkbp fun q=>?_
 refine pwp_loopS (σ:=Nat) (fun k=>k≤32∧ ∀ i,i < k→a.at i=b.at i) (fun k=>32 - k) (fun k=> [(2,.raw (.pointer (some ⟨p,0,none⟩))),(3,.raw (.pointer (some ⟨q,0,none⟩))),(5,.raw (.int .i64 k))]) (fun _=> .box q 37 (eDig b):: .box p 37 (eDig a)::LF) 0 ⟨by simp,by simp⟩ ⟨rfl,rfl,rfl⟩ (.refl _) ?_
 rintro k ⟨hk,he⟩
 refine walk ?_
 refine pwp_condD (fun hc=>?_) (fun hc=>?_)
 ·refine walk ?_
  refine pwp_condD (fun h1=>?_) (fun h1=>?_)
  ·refine walk ?_
   refine end1 (.of_eq ?_)
   have h2:a.at k < b.at k:=by rw[UInt8.lt_iff_toNat_lt];omega
   rw[cmpD_at (by omega) he (fun e=>by rw[e]at h2;exact UInt8.lt_irrefl _ h2),if_pos h2]
  ·refine walk ?_
   refine pwp_condD (fun h2=>?_) (fun h2=>?_)
   ·refine walk ?_
    refine end1 (.of_eq ?_)
    have h3: ¬a.at k < b.at k:=by rw[UInt8.lt_iff_toNat_lt];omega
    rw[cmpD_at (by omega) he (fun e=>by rw[e]at h2;omega),if_neg h3]
   ·refine walk ?_
    refine⟨k+1,⟨by omega,fun i hi=>?_⟩,by dsimp only;omega,⟨rfl,rfl,rfl⟩,.refl _⟩
    rcases Nat.lt_or_ge i k with h'|h'
    ·exact he i h'
    ·have:i=k:=by omega
     subst this
     exact UInt8.toNat.inj (by omega)
 ·refine walk ?_
  refine end1 (.of_eq ?_)
  rw[cmpD_zero.2 (Dig.ext_at fun i hi=>he i (by omega))]⟩
instance zero_ct (a:Dig):FnC Tryz.prog 123 [.agg (eDig a)] (.raw (.bool (decide (a=Dig.zero)))):=⟨by
 refine fn_of Tryz.func123 Tryz.ntmps123 rfl (rs:= [.tmp 2]) rfl rfl fun hb LF=>?_
 refine walkb fun p=>?_
 exact⟨trivial,_,[],.cons (.tmp 2) .nil,.cons _ (.refl _),.refl _,rfl⟩⟩
instance SameD_ct (l m:List Dig) (t u:Tag):FnC Tryz.prog 41 [.slice (l.map eDig) t,.slice (m.map eDig) u] (.raw (.bool (decide (l=m)))):=⟨by
 refine fn_of Tryz.func41 Tryz.ntmps41 rfl (rs:= [.tmp 4]) rfl rfl fun hb LF=>?_
 have hlen:l.length≤140737488355328:=(hb (.slice (l.map eDig) t) (by simp)).slice_map
 refine walk ?_
 refine pwp_condN (fun h1=>?_) (fun h1=>?_)
 ·refine walk ?_
  refine end1 (.of_eq ?_)
  have: ¬l=m:=fun e=>h1 (by rw[e])
  simp[this]
 ·refine walk ?_
  have hl:l.length=m.length:=by omega
  refine pwp_loopS (σ:=Nat) (fun k=>k≤l.length∧l.take k=m.take k) (fun k=>l.length - k) (fun k=> [(0,.slice (l.map eDig) t),(1,.slice (m.map eDig) u),(5,.raw (.int .i64 k))]) (fun _=>LF) 0 ⟨by simp,by simp⟩ ⟨rfl,rfl,rfl⟩ (.refl _) ?_
  rintro k ⟨hk,he⟩
  refine walk ?_
  refine pwp_condD (fun hc=>?_) (fun hc=>?_)
  ·refine walk ?_
   refine pwp_condN (fun h2=>?_) (fun h2=>?_)
   ·refine walk ?_
    refine end1 (.of_eq ?_)
    have: ¬l=m:=fun e=>h2 (by simp[e])
    simp[this]
   ·refine walk ?_
    refine⟨k+1,⟨by omega,?_⟩,by dsimp only;omega,⟨rfl,rfl,rfl⟩,.refl _⟩
    rw[List.take_succ_eq_append_getElem (by omega),List.take_succ_eq_append_getElem (by omega),he,h2]
  ·refine walk ?_
   refine end1 (.of_eq ?_)
   have:l=m:=by
    rw[List.take_of_length_le (by omega),List.take_of_length_le (by omega)]at he
    exact he
   simp[this]⟩
end Go.Proofs
