/- Closed facts on the types and functions of this translation, printed by a program off its tables. -/
import Derived.Test.YtmkdlelpipefbaaGreatDoorProg
import Derived.Test.YtmkdlelpipefbaaGreatDoorUad
import Derived.Test.YtmkdlelpipefbaaGreatDoorUag
import Derived.Test.YtmkdlelpipefbaaGreatDoorRows
import Derived.LaidMore
import Derived.Stop.Joined
import Derived.Test.YtmkdlelpipefbaaGreatDoorCards
import Derived.Test.YtmkdlelpipefbaaGreatDoorTie
import Derived.Test.YtmkdlelpipefbaaGreatDoorUaf
set_option linter.unusedSimpArgs false
set_option linter.unusedVariables false
namespace Go.Proofs
open Go Go.Q
def zv:PV→Value
 | .raw v=>v
 | .str _=> .string ⟨#[]⟩
 |_=> .slice none 0 0
instance :TMix Tryz.prog:=⟨by kernel_rfl⟩
instance :TSz Tryz.prog 3 1 8:=TSz.of (by kernel_rfl)
instance :TScal Tryz.prog 3:=TScal.of (by kernel_rfl)
instance :TInt Tryz.prog 3 .i64:=⟨by kernel_rfl⟩
instance :TScal Tryz.prog 4:=TScal.of (by kernel_rfl)
instance :TBool Tryz.prog 4:=⟨by kernel_rfl⟩
instance :TSz Tryz.prog 5 1 1:=TSz.of (by kernel_rfl)
instance :TScal Tryz.prog 5:=TScal.of (by kernel_rfl)
instance :TInt Tryz.prog 5 .u8:=⟨by kernel_rfl⟩
instance :TSz Tryz.prog 9 1 16:=TSz.of (by kernel_rfl)
instance :TScal Tryz.prog 9:=TScal.of (by kernel_rfl)
instance :TStr Tryz.prog 9:=⟨by kernel_rfl⟩
instance :TSl Tryz.prog 22 70:=⟨by kernel_rfl⟩
instance :TApp Tryz.prog 22 37 120:=TApp.of (by kernel_rfl)
instance :TScal Tryz.prog 23:=TScal.of (by kernel_rfl)
instance :TSl Tryz.prog 23 70:=⟨by kernel_rfl⟩
instance :TApp Tryz.prog 23 37 120:=TApp.of (by kernel_rfl)
instance :TSz Tryz.prog 25 32 32:=TSz.of (by kernel_rfl)
instance :TAgg Tryz.prog 25 32:=TAgg.of (by kernel_rfl)
instance :TArr Tryz.prog 25 32 5:=⟨by kernel_rfl⟩
instance :ZeroE Tryz.prog 25 (eDig Dig.zero):=ZeroE.of (us:=(eDig Dig.zero).map zv) (by kernel_rfl) (by kernel_rfl)
instance :TDig Tryz.prog 25:=TDig.of (E:=5) (by kernel_rfl) (by kernel_rfl) (by kernel_rfl) (by kernel_rfl)
instance :TSz Tryz.prog 31 1 24:=TSz.of (by kernel_rfl)
instance :TScal Tryz.prog 31:=TScal.of (by kernel_rfl)
instance :TSl Tryz.prog 31 25:=⟨by kernel_rfl⟩
instance :TApp Tryz.prog 31 32 32:=TApp.of (by kernel_rfl)
instance :TScal Tryz.prog 42:=TScal.of (by kernel_rfl)
instance :TSl Tryz.prog 42 88:=⟨by kernel_rfl⟩
instance :TApp Tryz.prog 42 139 264:=TApp.of (by kernel_rfl)
instance :TSz Tryz.prog 44 5 88:=TSz.of (by kernel_rfl)
instance :TAgg Tryz.prog 44 5:=TAgg.of (by kernel_rfl)
instance :TStruct Tryz.prog 44:=TStruct.of (by kernel_rfl)
instance :ZeroE Tryz.prog 44 (ePat Pat.zero):=ZeroE.of (us:=(ePat Pat.zero).map zv) (by kernel_rfl) (by kernel_rfl)
instance :TFldS Tryz.prog 44 0 0 1:=TFldS.of (by kernel_rfl)
instance :TFld Tryz.prog 44 0 0:=TFld.of (by kernel_rfl)
instance :TFld Tryz.prog 44 1 1:=TFld.of (by kernel_rfl)
instance :TFldS Tryz.prog 44 2 2 1:=TFldS.of (by kernel_rfl)
instance :TFld Tryz.prog 44 2 2:=TFld.of (by kernel_rfl)
instance :TFldS Tryz.prog 44 3 3 1:=TFldS.of (by kernel_rfl)
instance :TFld Tryz.prog 44 3 3:=TFld.of (by kernel_rfl)
instance :TFldS Tryz.prog 44 4 4 1:=TFldS.of (by kernel_rfl)
instance :TFld Tryz.prog 44 4 4:=TFld.of (by kernel_rfl)
instance :TSl Tryz.prog 63 3:=⟨by kernel_rfl⟩
instance :TApp Tryz.prog 63 1 8:=TApp.of (by kernel_rfl)
instance :TSz Tryz.prog 65 1 8:=TSz.of (by kernel_rfl)
instance :TScal Tryz.prog 65:=TScal.of (by kernel_rfl)
instance :TSz Tryz.prog 68 1 8:=TSz.of (by kernel_rfl)
instance :TScal Tryz.prog 68:=TScal.of (by kernel_rfl)
instance :TSz Tryz.prog 70 37 120:=TSz.of (by kernel_rfl)
instance :TAgg Tryz.prog 70 37:=TAgg.of (by kernel_rfl)
instance :TStruct Tryz.prog 70:=TStruct.of (by kernel_rfl)
instance :ZeroE Tryz.prog 70 (eSto Sto.zero):=ZeroE.of (us:=(eSto Sto.zero).map zv) (by kernel_rfl) (by kernel_rfl)
instance :TFldS Tryz.prog 70 0 0 32:=TFldS.of (by kernel_rfl)
instance :TFld Tryz.prog 70 0 0:=TFld.of (by kernel_rfl)
instance :TFldS Tryz.prog 70 1 32 5:=TFldS.of (by kernel_rfl)
instance :TFld Tryz.prog 70 1 32:=TFld.of (by kernel_rfl)
instance :TSz Tryz.prog 73 1 24:=TSz.of (by kernel_rfl)
instance :TScal Tryz.prog 73:=TScal.of (by kernel_rfl)
instance :TSl Tryz.prog 73 70:=⟨by kernel_rfl⟩
instance :TApp Tryz.prog 73 37 120:=TApp.of (by kernel_rfl)
instance :TSz Tryz.prog 84 33 40:=TSz.of (by kernel_rfl)
instance :TAgg Tryz.prog 84 33:=TAgg.of (by kernel_rfl)
instance :TStruct Tryz.prog 84:=TStruct.of (by kernel_rfl)
instance :ZeroE Tryz.prog 84 (eIdent Ident.zero):=ZeroE.of (us:=(eIdent Ident.zero).map zv) (by kernel_rfl) (by kernel_rfl)
instance :TFld Tryz.prog 84 0 0:=TFld.of (by kernel_rfl)
instance :TFldS Tryz.prog 84 1 32 1:=TFldS.of (by kernel_rfl)
instance :TFld Tryz.prog 84 1 32:=TFld.of (by kernel_rfl)
instance :TIdent Tryz.prog 84:=TIdent.of (D:=25) (I:=3) (E:=5) (by kernel_rfl) (by kernel_rfl) (by kernel_rfl) (by kernel_rfl) (by kernel_rfl) (by kernel_rfl) (by kernel_rfl) (by kernel_rfl) (by kernel_rfl)
instance :TSz Tryz.prog 85 1 24:=TSz.of (by kernel_rfl)
instance :TScal Tryz.prog 85:=TScal.of (by kernel_rfl)
instance :TSl Tryz.prog 85 9:=⟨by kernel_rfl⟩
instance :TSz Tryz.prog 86 1 24:=TSz.of (by kernel_rfl)
instance :TScal Tryz.prog 86:=TScal.of (by kernel_rfl)
instance :TSl Tryz.prog 86 84:=⟨by kernel_rfl⟩
instance :TApp Tryz.prog 86 33 40:=TApp.of (by kernel_rfl)
instance :TSz Tryz.prog 88 139 264:=TSz.of (by kernel_rfl)
instance :TAgg Tryz.prog 88 139:=TAgg.of (by kernel_rfl)
instance :TStruct Tryz.prog 88:=TStruct.of (by kernel_rfl)
instance :ZeroE Tryz.prog 88 (eChg Chg.zero):=ZeroE.of (us:=(eChg Chg.zero).map zv) (by kernel_rfl) (by kernel_rfl)
instance :TFldS Tryz.prog 88 0 0 1:=TFldS.of (by kernel_rfl)
instance :TFld Tryz.prog 88 0 0:=TFld.of (by kernel_rfl)
instance :TFld Tryz.prog 88 1 1:=TFld.of (by kernel_rfl)
instance :TFldS Tryz.prog 88 2 34 1:=TFldS.of (by kernel_rfl)
instance :TFld Tryz.prog 88 2 34:=TFld.of (by kernel_rfl)
instance :TFld Tryz.prog 88 3 35:=TFld.of (by kernel_rfl)
instance :TFld Tryz.prog 88 4 68:=TFld.of (by kernel_rfl)
instance :TFld Tryz.prog 88 5 69:=TFld.of (by kernel_rfl)
instance :TFld Tryz.prog 88 6 70:=TFld.of (by kernel_rfl)
instance :TFld Tryz.prog 88 7 71:=TFld.of (by kernel_rfl)
instance :TFld Tryz.prog 88 8 104:=TFld.of (by kernel_rfl)
instance :TFld Tryz.prog 88 9 137:=TFld.of (by kernel_rfl)
instance :TFld Tryz.prog 88 10 138:=TFld.of (by kernel_rfl)
instance :TSz Tryz.prog 89 1 24:=TSz.of (by kernel_rfl)
instance :TScal Tryz.prog 89:=TScal.of (by kernel_rfl)
instance :TSl Tryz.prog 89 93:=⟨by kernel_rfl⟩
instance :TApp Tryz.prog 89 34 48:=TApp.of (by kernel_rfl)
instance :TScal Tryz.prog 91:=TScal.of (by kernel_rfl)
instance :TSz Tryz.prog 93 34 48:=TSz.of (by kernel_rfl)
instance :TAgg Tryz.prog 93 34:=TAgg.of (by kernel_rfl)
instance :TStruct Tryz.prog 93:=TStruct.of (by kernel_rfl)
instance :TFldS Tryz.prog 93 0 0 33:=TFldS.of (by kernel_rfl)
instance :TFld Tryz.prog 93 0 0:=TFld.of (by kernel_rfl)
instance :TFldS Tryz.prog 93 1 33 1:=TFldS.of (by kernel_rfl)
instance :TFld Tryz.prog 93 1 33:=TFld.of (by kernel_rfl)
instance :TSz Tryz.prog 120 1 24:=TSz.of (by kernel_rfl)
instance :TScal Tryz.prog 120:=TScal.of (by kernel_rfl)
instance :TSl Tryz.prog 120 125:=⟨by kernel_rfl⟩
instance :TApp Tryz.prog 120 172 296:=TApp.of (by kernel_rfl)
instance :TSz Tryz.prog 125 172 296:=TSz.of (by kernel_rfl)
instance :TAgg Tryz.prog 125 172:=TAgg.of (by kernel_rfl)
instance :TStruct Tryz.prog 125:=TStruct.of (by kernel_rfl)
instance :ZeroE Tryz.prog 125 (eAtm Atm.zero):=ZeroE.of (us:=(eAtm Atm.zero).map zv) (by kernel_rfl) (by kernel_rfl)
instance :TFldS Tryz.prog 125 0 0 33:=TFldS.of (by kernel_rfl)
instance :TFld Tryz.prog 125 0 0:=TFld.of (by kernel_rfl)
instance :TFldS Tryz.prog 125 1 33 1:=TFldS.of (by kernel_rfl)
instance :TFld Tryz.prog 125 1 33:=TFld.of (by kernel_rfl)
instance :TFldS Tryz.prog 125 2 34 33:=TFldS.of (by kernel_rfl)
instance :TFld Tryz.prog 125 2 34:=TFld.of (by kernel_rfl)
instance :TFldS Tryz.prog 125 3 67 1:=TFldS.of (by kernel_rfl)
instance :TFld Tryz.prog 125 3 67:=TFld.of (by kernel_rfl)
instance :TFldS Tryz.prog 125 4 68 33:=TFldS.of (by kernel_rfl)
instance :TFld Tryz.prog 125 4 68:=TFld.of (by kernel_rfl)
instance :TFldS Tryz.prog 125 5 101 1:=TFldS.of (by kernel_rfl)
instance :TFldS Tryz.prog 125 6 102 1:=TFldS.of (by kernel_rfl)
instance :TFldS Tryz.prog 125 7 103 1:=TFldS.of (by kernel_rfl)
instance :TFldS Tryz.prog 125 8 104 1:=TFldS.of (by kernel_rfl)
instance :TFldS Tryz.prog 125 9 105 33:=TFldS.of (by kernel_rfl)
instance :TFld Tryz.prog 125 9 105:=TFld.of (by kernel_rfl)
instance :TFldS Tryz.prog 125 10 138 33:=TFldS.of (by kernel_rfl)
instance :TFld Tryz.prog 125 10 138:=TFld.of (by kernel_rfl)
instance :TFldS Tryz.prog 125 11 171 1:=TFldS.of (by kernel_rfl)
instance :TFld Tryz.prog 125 11 171:=TFld.of (by kernel_rfl)
instance :TInt Tryz.prog 130 .u64:=⟨by kernel_rfl⟩
instance :TSz Tryz.prog 132 1 24:=TSz.of (by kernel_rfl)
instance :TScal Tryz.prog 132:=TScal.of (by kernel_rfl)
instance :TSl Tryz.prog 132 5:=⟨by kernel_rfl⟩
instance :TByt Tryz.prog 132:=⟨5,by kernel_rfl,by kernel_rfl⟩
instance :TApp Tryz.prog 132 1 1:=TApp.of (by kernel_rfl)
instance :TScal Tryz.prog 137:=TScal.of (by kernel_rfl)
instance :TStruct Tryz.prog 139:=TStruct.of (by kernel_rfl)
instance :TFldS Tryz.prog 139 0 0 1:=TFldS.of (by kernel_rfl)
instance :TFld Tryz.prog 139 0 0:=TFld.of (by kernel_rfl)
instance :TFldS Tryz.prog 139 1 1 1:=TFldS.of (by kernel_rfl)
instance :TFld Tryz.prog 139 1 1:=TFld.of (by kernel_rfl)
instance :TSz Tryz.prog 140 1 24:=TSz.of (by kernel_rfl)
instance :TScal Tryz.prog 140:=TScal.of (by kernel_rfl)
instance :TSl Tryz.prog 140 143:=⟨by kernel_rfl⟩
instance :TApp Tryz.prog 140 34 48:=TApp.of (by kernel_rfl)
instance :TSz Tryz.prog 143 34 48:=TSz.of (by kernel_rfl)
instance :TAgg Tryz.prog 143 34:=TAgg.of (by kernel_rfl)
instance :TStruct Tryz.prog 143:=TStruct.of (by kernel_rfl)
instance :TFldS Tryz.prog 143 0 0 33:=TFldS.of (by kernel_rfl)
instance :TFld Tryz.prog 143 0 0:=TFld.of (by kernel_rfl)
instance :TFldS Tryz.prog 143 1 33 1:=TFldS.of (by kernel_rfl)
instance :TFld Tryz.prog 143 1 33:=TFld.of (by kernel_rfl)
instance :TSz Tryz.prog 170 1 4:=TSz.of (by kernel_rfl)
instance :TScal Tryz.prog 170:=TScal.of (by kernel_rfl)
instance :TInt Tryz.prog 170 .u32:=⟨by kernel_rfl⟩
instance :TInt Tryz.prog 172 .u64:=⟨by kernel_rfl⟩
instance :TSz Tryz.prog 173 8 32:=TSz.of (by kernel_rfl)
instance :TAgg Tryz.prog 173 8:=TAgg.of (by kernel_rfl)
instance :TArr Tryz.prog 173 8 170:=⟨by kernel_rfl⟩
instance :ZeroE Tryz.prog 173 (eW (List.replicate 8 0)):=ZeroE.of (us:=(eW (List.replicate 8 0)).map zv) (by kernel_rfl) (by kernel_rfl)
instance :TSz Tryz.prog 195 1 24:=TSz.of (by kernel_rfl)
instance :TScal Tryz.prog 195:=TScal.of (by kernel_rfl)
instance :TSl Tryz.prog 195 197:=⟨by kernel_rfl⟩
instance :TApp Tryz.prog 195 3 48:=TApp.of (by kernel_rfl)
instance :TSz Tryz.prog 197 3 48:=TSz.of (by kernel_rfl)
instance :TAgg Tryz.prog 197 3:=TAgg.of (by kernel_rfl)
instance :TStruct Tryz.prog 197:=TStruct.of (by kernel_rfl)
instance :ZeroE Tryz.prog 197 (eSx Sx.zero):=ZeroE.of (us:=(eSx Sx.zero).map zv) (by kernel_rfl) (by kernel_rfl)
instance :TFldS Tryz.prog 197 0 0 1:=TFldS.of (by kernel_rfl)
instance :TFld Tryz.prog 197 0 0:=TFld.of (by kernel_rfl)
instance :TFldS Tryz.prog 197 1 1 1:=TFldS.of (by kernel_rfl)
instance :TFld Tryz.prog 197 1 1:=TFld.of (by kernel_rfl)
instance :TFldS Tryz.prog 197 2 2 1:=TFldS.of (by kernel_rfl)
instance :TFld Tryz.prog 197 2 2:=TFld.of (by kernel_rfl)
instance :TSz Tryz.prog 211 64 256:=TSz.of (by kernel_rfl)
instance :TAgg Tryz.prog 211 64:=TAgg.of (by kernel_rfl)
instance :TArr Tryz.prog 211 64 170:=⟨by kernel_rfl⟩
instance :ZeroE Tryz.prog 211 (eW (List.replicate 64 0)):=ZeroE.of (us:=(eW (List.replicate 64 0)).map zv) (by kernel_rfl) (by kernel_rfl)
instance :TSz Tryz.prog 235 1 8:=TSz.of (by kernel_rfl)
instance :TScal Tryz.prog 235:=TScal.of (by kernel_rfl)
instance :TFld Tryz.prog 237 0 0:=TFld.of (by kernel_rfl)
instance :TFld Tryz.prog 237 1 1:=TFld.of (by kernel_rfl)
instance :TStruct Tryz.prog 252:=TStruct.of (by kernel_rfl)
instance :TFld Tryz.prog 252 0 0:=TFld.of (by kernel_rfl)
instance :TFld Tryz.prog 252 1 1:=TFld.of (by kernel_rfl)
instance :TFun Tryz.prog 10:=⟨fun vs w=>enter_of Tryz.func10 rfl (by decide) vs w⟩
instance :TFun Tryz.prog 11:=⟨fun vs w=>enter_of Tryz.func11 rfl (by decide) vs w⟩
instance :TFun Tryz.prog 12:=⟨fun vs w=>enter_of Tryz.func12 rfl (by decide) vs w⟩
instance :TFun Tryz.prog 13:=⟨fun vs w=>enter_of Tryz.func13 rfl (by decide) vs w⟩
instance :TFun Tryz.prog 14:=⟨fun vs w=>enter_of Tryz.func14 rfl (by decide) vs w⟩
instance :TFun Tryz.prog 15:=⟨fun vs w=>enter_of Tryz.func15 rfl (by decide) vs w⟩
instance :TFun Tryz.prog 16:=⟨fun vs w=>enter_of Tryz.func16 rfl (by decide) vs w⟩
instance :TFun Tryz.prog 17:=⟨fun vs w=>enter_of Tryz.func17 rfl (by decide) vs w⟩
instance :TFun Tryz.prog 18:=⟨fun vs w=>enter_of Tryz.func18 rfl (by decide) vs w⟩
instance :TFun Tryz.prog 19:=⟨fun vs w=>enter_of Tryz.func19 rfl (by decide) vs w⟩
instance :TFun Tryz.prog 20:=⟨fun vs w=>enter_of Tryz.func20 rfl (by decide) vs w⟩
instance :TFun Tryz.prog 21:=⟨fun vs w=>enter_of Tryz.func21 rfl (by decide) vs w⟩
instance :TFun Tryz.prog 22:=⟨fun vs w=>enter_of Tryz.func22 rfl (by decide) vs w⟩
instance :TFun Tryz.prog 23:=⟨fun vs w=>enter_of Tryz.func23 rfl (by decide) vs w⟩
instance :TFun Tryz.prog 24:=⟨fun vs w=>enter_of Tryz.func24 rfl (by decide) vs w⟩
instance :TFun Tryz.prog 25:=⟨fun vs w=>enter_of Tryz.func25 rfl (by decide) vs w⟩
instance :TFun Tryz.prog 26:=⟨fun vs w=>enter_of Tryz.func26 rfl (by decide) vs w⟩
instance :TFun Tryz.prog 27:=⟨fun vs w=>enter_of Tryz.func27 rfl (by decide) vs w⟩
instance :TFun Tryz.prog 28:=⟨fun vs w=>enter_of Tryz.func28 rfl (by decide) vs w⟩
instance :TFun Tryz.prog 29:=⟨fun vs w=>enter_of Tryz.func29 rfl (by decide) vs w⟩
instance :TFun Tryz.prog 30:=⟨fun vs w=>enter_of Tryz.func30 rfl (by decide) vs w⟩
instance :TFun Tryz.prog 31:=⟨fun vs w=>enter_of Tryz.func31 rfl (by decide) vs w⟩
instance :TFun Tryz.prog 32:=⟨fun vs w=>enter_of Tryz.func32 rfl (by decide) vs w⟩
instance :TFun Tryz.prog 33:=⟨fun vs w=>enter_of Tryz.func33 rfl (by decide) vs w⟩
instance :TFun Tryz.prog 34:=⟨fun vs w=>enter_of Tryz.func34 rfl (by decide) vs w⟩
instance :TFun Tryz.prog 35:=⟨fun vs w=>enter_of Tryz.func35 rfl (by decide) vs w⟩
instance :TFun Tryz.prog 36:=⟨fun vs w=>enter_of Tryz.func36 rfl (by decide) vs w⟩
instance :TFun Tryz.prog 37:=⟨fun vs w=>enter_of Tryz.func37 rfl (by decide) vs w⟩
instance :TFun Tryz.prog 38:=⟨fun vs w=>enter_of Tryz.func38 rfl (by decide) vs w⟩
instance :TFun Tryz.prog 39:=⟨fun vs w=>enter_of Tryz.func39 rfl (by decide) vs w⟩
instance :TFun Tryz.prog 40:=⟨fun vs w=>enter_of Tryz.func40 rfl (by decide) vs w⟩
instance :TFun Tryz.prog 41:=⟨fun vs w=>enter_of Tryz.func41 rfl (by decide) vs w⟩
instance :TFun Tryz.prog 42:=⟨fun vs w=>enter_of Tryz.func42 rfl (by decide) vs w⟩
instance :TFun Tryz.prog 43:=⟨fun vs w=>enter_of Tryz.func43 rfl (by decide) vs w⟩
instance :TFun Tryz.prog 44:=⟨fun vs w=>enter_of Tryz.func44 rfl (by decide) vs w⟩
instance :TFun Tryz.prog 45:=⟨fun vs w=>enter_of Tryz.func45 rfl (by decide) vs w⟩
instance :TFun Tryz.prog 46:=⟨fun vs w=>enter_of Tryz.func46 rfl (by decide) vs w⟩
instance :TFun Tryz.prog 47:=⟨fun vs w=>enter_of Tryz.func47 rfl (by decide) vs w⟩
instance :TFun Tryz.prog 48:=⟨fun vs w=>enter_of Tryz.func48 rfl (by decide) vs w⟩
instance :TFun Tryz.prog 49:=⟨fun vs w=>enter_of Tryz.func49 rfl (by decide) vs w⟩
instance :TFun Tryz.prog 50:=⟨fun vs w=>enter_of Tryz.func50 rfl (by decide) vs w⟩
instance :TFun Tryz.prog 51:=⟨fun vs w=>enter_of Tryz.func51 rfl (by decide) vs w⟩
instance :TFun Tryz.prog 52:=⟨fun vs w=>enter_of Tryz.func52 rfl (by decide) vs w⟩
instance :TFun Tryz.prog 53:=⟨fun vs w=>enter_of Tryz.func53 rfl (by decide) vs w⟩
instance :TFun Tryz.prog 54:=⟨fun vs w=>enter_of Tryz.func54 rfl (by decide) vs w⟩
instance :TFun Tryz.prog 55:=⟨fun vs w=>enter_of Tryz.func55 rfl (by decide) vs w⟩
instance :TFun Tryz.prog 56:=⟨fun vs w=>enter_of Tryz.func56 rfl (by decide) vs w⟩
instance :TFun Tryz.prog 57:=⟨fun vs w=>enter_of Tryz.func57 rfl (by decide) vs w⟩
instance :TFun Tryz.prog 58:=⟨fun vs w=>enter_of Tryz.func58 rfl (by decide) vs w⟩
instance :TFun Tryz.prog 59:=⟨fun vs w=>enter_of Tryz.func59 rfl (by decide) vs w⟩
instance :TFun Tryz.prog 60:=⟨fun vs w=>enter_of Tryz.func60 rfl (by decide) vs w⟩
instance :TFun Tryz.prog 61:=⟨fun vs w=>enter_of Tryz.func61 rfl (by decide) vs w⟩
instance :TFun Tryz.prog 62:=⟨fun vs w=>enter_of Tryz.func62 rfl (by decide) vs w⟩
instance :TFun Tryz.prog 63:=⟨fun vs w=>enter_of Tryz.func63 rfl (by decide) vs w⟩
instance :TFun Tryz.prog 64:=⟨fun vs w=>enter_of Tryz.func64 rfl (by decide) vs w⟩
instance :TFun Tryz.prog 65:=⟨fun vs w=>enter_of Tryz.func65 rfl (by decide) vs w⟩
instance :TFun Tryz.prog 66:=⟨fun vs w=>enter_of Tryz.func66 rfl (by decide) vs w⟩
instance :TFun Tryz.prog 67:=⟨fun vs w=>enter_of Tryz.func67 rfl (by decide) vs w⟩
instance :TFun Tryz.prog 68:=⟨fun vs w=>enter_of Tryz.func68 rfl (by decide) vs w⟩
instance :TFun Tryz.prog 69:=⟨fun vs w=>enter_of Tryz.func69 rfl (by decide) vs w⟩
instance :TFun Tryz.prog 70:=⟨fun vs w=>enter_of Tryz.func70 rfl (by decide) vs w⟩
instance :TFun Tryz.prog 71:=⟨fun vs w=>enter_of Tryz.func71 rfl (by decide) vs w⟩
instance :TFun Tryz.prog 72:=⟨fun vs w=>enter_of Tryz.func72 rfl (by decide) vs w⟩
instance :TFun Tryz.prog 73:=⟨fun vs w=>enter_of Tryz.func73 rfl (by decide) vs w⟩
instance :TFun Tryz.prog 74:=⟨fun vs w=>enter_of Tryz.func74 rfl (by decide) vs w⟩
instance :TFun Tryz.prog 75:=⟨fun vs w=>enter_of Tryz.func75 rfl (by decide) vs w⟩
instance :TFun Tryz.prog 76:=⟨fun vs w=>enter_of Tryz.func76 rfl (by decide) vs w⟩
instance :TFun Tryz.prog 77:=⟨fun vs w=>enter_of Tryz.func77 rfl (by decide) vs w⟩
instance :TFun Tryz.prog 78:=⟨fun vs w=>enter_of Tryz.func78 rfl (by decide) vs w⟩
instance :TFun Tryz.prog 79:=⟨fun vs w=>enter_of Tryz.func79 rfl (by decide) vs w⟩
instance :TFun Tryz.prog 80:=⟨fun vs w=>enter_of Tryz.func80 rfl (by decide) vs w⟩
instance :TFun Tryz.prog 81:=⟨fun vs w=>enter_of Tryz.func81 rfl (by decide) vs w⟩
instance :TFun Tryz.prog 82:=⟨fun vs w=>enter_of Tryz.func82 rfl (by decide) vs w⟩
instance :TFun Tryz.prog 83:=⟨fun vs w=>enter_of Tryz.func83 rfl (by decide) vs w⟩
instance :TFun Tryz.prog 84:=⟨fun vs w=>enter_of Tryz.func84 rfl (by decide) vs w⟩
instance :TFun Tryz.prog 85:=⟨fun vs w=>enter_of Tryz.func85 rfl (by decide) vs w⟩
instance :TFun Tryz.prog 86:=⟨fun vs w=>enter_of Tryz.func86 rfl (by decide) vs w⟩
instance :TFun Tryz.prog 87:=⟨fun vs w=>enter_of Tryz.func87 rfl (by decide) vs w⟩
instance :TFun Tryz.prog 88:=⟨fun vs w=>enter_of Tryz.func88 rfl (by decide) vs w⟩
instance :TFun Tryz.prog 89:=⟨fun vs w=>enter_of Tryz.func89 rfl (by decide) vs w⟩
instance :TFun Tryz.prog 90:=⟨fun vs w=>enter_of Tryz.func90 rfl (by decide) vs w⟩
instance :TFun Tryz.prog 91:=⟨fun vs w=>enter_of Tryz.func91 rfl (by decide) vs w⟩
instance :TFun Tryz.prog 94:=⟨fun vs w=>enter_of Tryz.func94 rfl (by decide) vs w⟩
instance :TFun Tryz.prog 95:=⟨fun vs w=>enter_of Tryz.func95 rfl (by decide) vs w⟩
instance :TFun Tryz.prog 96:=⟨fun vs w=>enter_of Tryz.func96 rfl (by decide) vs w⟩
instance :TFun Tryz.prog 97:=⟨fun vs w=>enter_of Tryz.func97 rfl (by decide) vs w⟩
instance :TFun Tryz.prog 98:=⟨fun vs w=>enter_of Tryz.func98 rfl (by decide) vs w⟩
instance :TFun Tryz.prog 99:=⟨fun vs w=>enter_of Tryz.func99 rfl (by decide) vs w⟩
instance :TFun Tryz.prog 100:=⟨fun vs w=>enter_of Tryz.func100 rfl (by decide) vs w⟩
instance :TFun Tryz.prog 101:=⟨fun vs w=>enter_of Tryz.func101 rfl (by decide) vs w⟩
instance :TFun Tryz.prog 102:=⟨fun vs w=>enter_of Tryz.func102 rfl (by decide) vs w⟩
instance :TFun Tryz.prog 103:=⟨fun vs w=>enter_of Tryz.func103 rfl (by decide) vs w⟩
instance :TFun Tryz.prog 104:=⟨fun vs w=>enter_of Tryz.func104 rfl (by decide) vs w⟩
instance :TFun Tryz.prog 105:=⟨fun vs w=>enter_of Tryz.func105 rfl (by decide) vs w⟩
instance :TFun Tryz.prog 106:=⟨fun vs w=>enter_of Tryz.func106 rfl (by decide) vs w⟩
instance :TFun Tryz.prog 107:=⟨fun vs w=>enter_of Tryz.func107 rfl (by decide) vs w⟩
instance :TFun Tryz.prog 108:=⟨fun vs w=>enter_of Tryz.func108 rfl (by decide) vs w⟩
instance :TFun Tryz.prog 111:=⟨fun vs w=>enter_of Tryz.func111 rfl (by decide) vs w⟩
instance :TFun Tryz.prog 112:=⟨fun vs w=>enter_of Tryz.func112 rfl (by decide) vs w⟩
instance :TFun Tryz.prog 113:=⟨fun vs w=>enter_of Tryz.func113 rfl (by decide) vs w⟩
instance :TFun Tryz.prog 114:=⟨fun vs w=>enter_of Tryz.func114 rfl (by decide) vs w⟩
instance :TFun Tryz.prog 115:=⟨fun vs w=>enter_of Tryz.func115 rfl (by decide) vs w⟩
instance :TFun Tryz.prog 116:=⟨fun vs w=>enter_of Tryz.func116 rfl (by decide) vs w⟩
instance :TFun Tryz.prog 128:=⟨fun vs w=>enter_of Tryz.func128 rfl (by decide) vs w⟩
instance :TFun Tryz.prog 129:=⟨fun vs w=>enter_of Tryz.func129 rfl (by decide) vs w⟩
instance :TFun Tryz.prog 130:=⟨fun vs w=>enter_of Tryz.func130 rfl (by decide) vs w⟩
instance :TFun Tryz.prog 131:=⟨fun vs w=>enter_of Tryz.func131 rfl (by decide) vs w⟩
instance :TFun Tryz.prog 132:=⟨fun vs w=>enter_of Tryz.func132 rfl (by decide) vs w⟩
instance :TFun Tryz.prog 133:=⟨fun vs w=>enter_of Tryz.func133 rfl (by decide) vs w⟩
instance :TFun Tryz.prog 134:=⟨fun vs w=>enter_of Tryz.func134 rfl (by decide) vs w⟩
instance :TFun Tryz.prog 135:=⟨fun vs w=>enter_of Tryz.func135 rfl (by decide) vs w⟩
instance :TFun Tryz.prog 136:=⟨fun vs w=>enter_of Tryz.func136 rfl (by decide) vs w⟩
instance :TFun Tryz.prog 137:=⟨fun vs w=>enter_of Tryz.func137 rfl (by decide) vs w⟩
instance :TFun Tryz.prog 138:=⟨fun vs w=>enter_of Tryz.func138 rfl (by decide) vs w⟩
instance :TFun Tryz.prog 139:=⟨fun vs w=>enter_of Tryz.func139 rfl (by decide) vs w⟩
instance :TFun Tryz.prog 140:=⟨fun vs w=>enter_of Tryz.func140 rfl (by decide) vs w⟩
instance :TFun Tryz.prog 141:=⟨fun vs w=>enter_of Tryz.func141 rfl (by decide) vs w⟩
instance :TFun Tryz.prog 142:=⟨fun vs w=>enter_of Tryz.func142 rfl (by decide) vs w⟩
instance :TFun Tryz.prog 143:=⟨fun vs w=>enter_of Tryz.func143 rfl (by decide) vs w⟩
instance :TFun Tryz.prog 144:=⟨fun vs w=>enter_of Tryz.func144 rfl (by decide) vs w⟩
instance :TFun Tryz.prog 145:=⟨fun vs w=>enter_of Tryz.func145 rfl (by decide) vs w⟩
instance :TFun Tryz.prog 146:=⟨fun vs w=>enter_of Tryz.func146 rfl (by decide) vs w⟩
instance :TFun Tryz.prog 147:=⟨fun vs w=>enter_of Tryz.func147 rfl (by decide) vs w⟩
instance :TFun Tryz.prog 148:=⟨fun vs w=>enter_of Tryz.func148 rfl (by decide) vs w⟩
instance :TFun Tryz.prog 149:=⟨fun vs w=>enter_of Tryz.func149 rfl (by decide) vs w⟩
instance :TFun Tryz.prog 150:=⟨fun vs w=>enter_of Tryz.func150 rfl (by decide) vs w⟩
instance :TFun Tryz.prog 151:=⟨fun vs w=>enter_of Tryz.func151 rfl (by decide) vs w⟩
instance :TFun Tryz.prog 152:=⟨fun vs w=>enter_of Tryz.func152 rfl (by decide) vs w⟩
instance :TFun Tryz.prog 154:=⟨fun vs w=>enter_of Tryz.func154 rfl (by decide) vs w⟩
instance :TFun Tryz.prog 155:=⟨fun vs w=>enter_of Tryz.func155 rfl (by decide) vs w⟩
instance :TFun Tryz.prog 156:=⟨fun vs w=>enter_of Tryz.func156 rfl (by decide) vs w⟩
instance :TFun Tryz.prog 157:=⟨fun vs w=>enter_of Tryz.func157 rfl (by decide) vs w⟩
instance :TFun Tryz.prog 158:=⟨fun vs w=>enter_of Tryz.func158 rfl (by decide) vs w⟩
instance :TFun Tryz.prog 159:=⟨fun vs w=>enter_of Tryz.func159 rfl (by decide) vs w⟩
instance :TFun Tryz.prog 160:=⟨fun vs w=>enter_of Tryz.func160 rfl (by decide) vs w⟩
instance :TFun Tryz.prog 161:=⟨fun vs w=>enter_of Tryz.func161 rfl (by decide) vs w⟩
instance :TFun Tryz.prog 162:=⟨fun vs w=>enter_of Tryz.func162 rfl (by decide) vs w⟩
instance :TFun Tryz.prog 163:=⟨fun vs w=>enter_of Tryz.func163 rfl (by decide) vs w⟩
instance :TFun Tryz.prog 164:=⟨fun vs w=>enter_of Tryz.func164 rfl (by decide) vs w⟩
instance :TFun Tryz.prog 170:=⟨fun vs w=>enter_of Tryz.func170 rfl (by decide) vs w⟩
instance :TFun Tryz.prog 171:=⟨fun vs w=>enter_of Tryz.func171 rfl (by decide) vs w⟩
instance :TFun Tryz.prog 172:=⟨fun vs w=>enter_of Tryz.func172 rfl (by decide) vs w⟩
instance :TFun Tryz.prog 173:=⟨fun vs w=>enter_of Tryz.func173 rfl (by decide) vs w⟩
instance :TFun Tryz.prog 174:=⟨fun vs w=>enter_of Tryz.func174 rfl (by decide) vs w⟩
instance :TFun Tryz.prog 175:=⟨fun vs w=>enter_of Tryz.func175 rfl (by decide) vs w⟩
instance :TFun Tryz.prog 176:=⟨fun vs w=>enter_of Tryz.func176 rfl (by decide) vs w⟩
instance :TFun Tryz.prog 177:=⟨fun vs w=>enter_of Tryz.func177 rfl (by decide) vs w⟩
instance :TFun Tryz.prog 178:=⟨fun vs w=>enter_of Tryz.func178 rfl (by decide) vs w⟩
instance :TFun Tryz.prog 179:=⟨fun vs w=>enter_of Tryz.func179 rfl (by decide) vs w⟩
instance :TFun Tryz.prog 180:=⟨fun vs w=>enter_of Tryz.func180 rfl (by decide) vs w⟩
instance :TFun Tryz.prog 181:=⟨fun vs w=>enter_of Tryz.func181 rfl (by decide) vs w⟩
instance :TFun Tryz.prog 182:=⟨fun vs w=>enter_of Tryz.func182 rfl (by decide) vs w⟩
instance :TFun Tryz.prog 183:=⟨fun vs w=>enter_of Tryz.func183 rfl (by decide) vs w⟩
instance :TFun Tryz.prog 184:=⟨fun vs w=>enter_of Tryz.func184 rfl (by decide) vs w⟩
instance :TFun Tryz.prog 185:=⟨fun vs w=>enter_of Tryz.func185 rfl (by decide) vs w⟩
instance :TFun Tryz.prog 186:=⟨fun vs w=>enter_of Tryz.func186 rfl (by decide) vs w⟩
instance :TFun Tryz.prog 187:=⟨fun vs w=>enter_of Tryz.func187 rfl (by decide) vs w⟩
instance :TFun Tryz.prog 188:=⟨fun vs w=>enter_of Tryz.func188 rfl (by decide) vs w⟩
instance :TFun Tryz.prog 189:=⟨fun vs w=>enter_of Tryz.func189 rfl (by decide) vs w⟩
instance :TFun Tryz.prog 190:=⟨fun vs w=>enter_of Tryz.func190 rfl (by decide) vs w⟩
instance :TFun Tryz.prog 191:=⟨fun vs w=>enter_of Tryz.func191 rfl (by decide) vs w⟩
instance :TFun Tryz.prog 193:=⟨fun vs w=>enter_of Tryz.func193 rfl (by decide) vs w⟩
instance :TFun Tryz.prog 194:=⟨fun vs w=>enter_of Tryz.func194 rfl (by decide) vs w⟩
instance :TFun Tryz.prog 195:=⟨fun vs w=>enter_of Tryz.func195 rfl (by decide) vs w⟩
instance :TFun Tryz.prog 196:=⟨fun vs w=>enter_of Tryz.func196 rfl (by decide) vs w⟩
instance :TFun Tryz.prog 197:=⟨fun vs w=>enter_of Tryz.func197 rfl (by decide) vs w⟩
instance :TFun Tryz.prog 198:=⟨fun vs w=>enter_of Tryz.func198 rfl (by decide) vs w⟩
instance :TFun Tryz.prog 199:=⟨fun vs w=>enter_of Tryz.func199 rfl (by decide) vs w⟩
instance :TFun Tryz.prog 200:=⟨fun vs w=>enter_of Tryz.func200 rfl (by decide) vs w⟩
instance :TFun Tryz.prog 201:=⟨fun vs w=>enter_of Tryz.func201 rfl (by decide) vs w⟩
instance :TFun Tryz.prog 202:=⟨fun vs w=>enter_of Tryz.func202 rfl (by decide) vs w⟩
instance :TFun Tryz.prog 203:=⟨fun vs w=>enter_of Tryz.func203 rfl (by decide) vs w⟩
instance :TFun Tryz.prog 204:=⟨fun vs w=>enter_of Tryz.func204 rfl (by decide) vs w⟩
instance :TFun Tryz.prog 205:=⟨fun vs w=>enter_of Tryz.func205 rfl (by decide) vs w⟩
instance :TFun Tryz.prog 206:=⟨fun vs w=>enter_of Tryz.func206 rfl (by decide) vs w⟩
instance :TFun Tryz.prog 207:=⟨fun vs w=>enter_of Tryz.func207 rfl (by decide) vs w⟩
instance :TFun Tryz.prog 208:=⟨fun vs w=>enter_of Tryz.func208 rfl (by decide) vs w⟩
instance :TFun Tryz.prog 209:=⟨fun vs w=>enter_of Tryz.func209 rfl (by decide) vs w⟩
instance :TFun Tryz.prog 210:=⟨fun vs w=>enter_of Tryz.func210 rfl (by decide) vs w⟩
instance :TFun Tryz.prog 212:=⟨fun vs w=>enter_of Tryz.func212 rfl (by decide) vs w⟩
instance :TFun Tryz.prog 213:=⟨fun vs w=>enter_of Tryz.func213 rfl (by decide) vs w⟩
instance :TFun Tryz.prog 214:=⟨fun vs w=>enter_of Tryz.func214 rfl (by decide) vs w⟩
instance :TFun Tryz.prog 215:=⟨fun vs w=>enter_of Tryz.func215 rfl (by decide) vs w⟩
instance :TFun Tryz.prog 216:=⟨fun vs w=>enter_of Tryz.func216 rfl (by decide) vs w⟩
instance :TFun Tryz.prog 217:=⟨fun vs w=>enter_of Tryz.func217 rfl (by decide) vs w⟩
instance :TFun Tryz.prog 218:=⟨fun vs w=>enter_of Tryz.func218 rfl (by decide) vs w⟩
instance :TFun Tryz.prog 219:=⟨fun vs w=>enter_of Tryz.func219 rfl (by decide) vs w⟩
instance :TFun Tryz.prog 220:=⟨fun vs w=>enter_of Tryz.func220 rfl (by decide) vs w⟩
instance :TFun Tryz.prog 221:=⟨fun vs w=>enter_of Tryz.func221 rfl (by decide) vs w⟩
instance :TFun Tryz.prog 222:=⟨fun vs w=>enter_of Tryz.func222 rfl (by decide) vs w⟩
instance :TFun Tryz.prog 223:=⟨fun vs w=>enter_of Tryz.func223 rfl (by decide) vs w⟩
instance :TFun Tryz.prog 224:=⟨fun vs w=>enter_of Tryz.func224 rfl (by decide) vs w⟩
instance :TFun Tryz.prog 225:=⟨fun vs w=>enter_of Tryz.func225 rfl (by decide) vs w⟩
instance :TFun Tryz.prog 226:=⟨fun vs w=>enter_of Tryz.func226 rfl (by decide) vs w⟩
instance :TFun Tryz.prog 227:=⟨fun vs w=>enter_of Tryz.func227 rfl (by decide) vs w⟩
instance :TFun Tryz.prog 228:=⟨fun vs w=>enter_of Tryz.func228 rfl (by decide) vs w⟩
instance :TFun Tryz.prog 229:=⟨fun vs w=>enter_of Tryz.func229 rfl (by decide) vs w⟩
instance :TFun Tryz.prog 230:=⟨fun vs w=>enter_of Tryz.func230 rfl (by decide) vs w⟩
instance :TFun Tryz.prog 231:=⟨fun vs w=>enter_of Tryz.func231 rfl (by decide) vs w⟩
instance :TFun Tryz.prog 232:=⟨fun vs w=>enter_of Tryz.func232 rfl (by decide) vs w⟩
instance :TFun Tryz.prog 233:=⟨fun vs w=>enter_of Tryz.func233 rfl (by decide) vs w⟩
instance :TFun Tryz.prog 235:=⟨fun vs w=>enter_of Tryz.func235 rfl (by decide) vs w⟩
instance :TFun Tryz.prog 236:=⟨fun vs w=>enter_of Tryz.func236 rfl (by decide) vs w⟩
instance :TFun Tryz.prog 237:=⟨fun vs w=>enter_of Tryz.func237 rfl (by decide) vs w⟩
instance :TFun Tryz.prog 238:=⟨fun vs w=>enter_of Tryz.func238 rfl (by decide) vs w⟩
instance :TFun Tryz.prog 239:=⟨fun vs w=>enter_of Tryz.func239 rfl (by decide) vs w⟩
instance :TFun Tryz.prog 240:=⟨fun vs w=>enter_of Tryz.func240 rfl (by decide) vs w⟩
instance :TFun Tryz.prog 241:=⟨fun vs w=>enter_of Tryz.func241 rfl (by decide) vs w⟩
instance :TFun Tryz.prog 242:=⟨fun vs w=>enter_of Tryz.func242 rfl (by decide) vs w⟩
instance :TFun Tryz.prog 243:=⟨fun vs w=>enter_of Tryz.func243 rfl (by decide) vs w⟩
instance :TFun Tryz.prog 244:=⟨fun vs w=>enter_of Tryz.func244 rfl (by decide) vs w⟩
instance :TFun Tryz.prog 247:=⟨fun vs w=>enter_of Tryz.func247 rfl (by decide) vs w⟩
instance :TFun Tryz.prog 256:=⟨fun vs w=>enter_of Tryz.func256 rfl (by decide) vs w⟩
instance :TFun Tryz.prog 257:=⟨fun vs w=>enter_of Tryz.func257 rfl (by decide) vs w⟩
instance :TFun Tryz.prog 258:=⟨fun vs w=>enter_of Tryz.func258 rfl (by decide) vs w⟩
instance :TFun Tryz.prog 264:=⟨fun vs w=>enter_of Tryz.func264 rfl (by decide) vs w⟩
instance :TFun Tryz.prog 293:=⟨fun vs w=>enter_of Tryz.func293 rfl (by decide) vs w⟩
instance :TFun Tryz.prog 294:=⟨fun vs w=>enter_of Tryz.func294 rfl (by decide) vs w⟩
instance :TFun Tryz.prog 295:=⟨fun vs w=>enter_of Tryz.func295 rfl (by decide) vs w⟩
instance :TFun Tryz.prog 296:=⟨fun vs w=>enter_of Tryz.func296 rfl (by decide) vs w⟩
end Go.Proofs
namespace Go.Proofs
open Go Go.Q
theorem ble {a b:Nat} (h:Nat.ble a b=true):a≤b:=Nat.le_of_ble_eq_true h
theorem o_int:Opens Tryz.prog 3 (fun xs=> ∃ n,(Lit.int .i64 n).wf=true∧xs= [.raw (.int .i64 n)]):=opens_int (by kernel_rfl)
theorem o_bool:Opens Tryz.prog 4 (fun xs=> ∃ b,xs=eB b):=opens_bool (by kernel_rfl)
theorem o_str:Opens Tryz.prog 9 (fun xs=> ∃ s,xs=eS s):=opens_str (by kernel_rfl)
theorem o_dig:Opens Tryz.prog 25 (fun xs=> ∃ d,xs=eDig d):=opens_dig (e:=5) (by kernel_rfl) (by kernel_rfl) (by kernel_rfl) (by kernel_rfl)
theorem o_id:Opens Tryz.prog 84 (fun xs=> ∃ x,xs=eIdent x):=
 Opens.to (opens_struct (n:=33) (r:= [(25,0),(3,32)]) (by kernel_rfl) (by kernel_rfl) (.cons 32 (by kernel_rfl) o_dig (.cons 1 (by kernel_rfl) o_int (.nil _))))
  fun xs ⟨_,.cons ⟨d,e0⟩ (.cons ⟨n,_,e1⟩ .nil),e⟩=>⟨⟨d,n⟩,by subst e0 e1 e;simp[eIdent]⟩
theorem o_strs:Opens Tryz.prog 85 (fun xs=> ∃ l:List Str,xs= [.slice (l.map eS) .ro]):=Opens.list o_str (fun _=>rfl) (by kernel_rfl) (by kernel_rfl) rfl (by decide) (ble (by kernel_rfl))
theorem o_ids:Opens Tryz.prog 86 (fun xs=> ∃ l:List Ident,xs= [.slice (l.map eIdent) .ro]):=Opens.list (sz:=33) o_id (fun _=>by simp) (by kernel_rfl) (by kernel_rfl) rfl (by decide) (ble (by kernel_rfl))
theorem o_digs:Opens Tryz.prog 31 (fun xs=> ∃ l:List Dig,xs= [.slice (l.map eDig) .ro]):=Opens.list (sz:=32) o_dig (fun _=>by simp) (by kernel_rfl) (by kernel_rfl) rfl (by decide) (ble (by kernel_rfl))
theorem o_chg:Opens Tryz.prog 88 (fun xs=> ∃ c,xs=eChg c):=
 Opens.to (opens_struct (n:=139) (r:= [(3,0),(84,1),(3,34),(84,35),(9,68),(3,69),(9,70),(84,71),(84,104),(85,137),(86,138)]) (by kernel_rfl) (by kernel_rfl)
  (.cons 1 (by kernel_rfl) o_int (.cons 33 (by kernel_rfl) o_id (.cons 1 (by kernel_rfl) o_int (.cons 33 (by kernel_rfl) o_id (.cons 1 (by kernel_rfl) o_str (.cons 1 (by kernel_rfl) o_int (.cons 1 (by kernel_rfl) o_str (.cons 33 (by kernel_rfl) o_id (.cons 33 (by kernel_rfl) o_id (.cons 1 (by kernel_rfl) o_strs (.cons 1 (by kernel_rfl) o_ids (.nil _)))))))))))))
  fun xs ⟨yss,h,e⟩=>by
   rcases h with _|⟨⟨a0,_,e0⟩,h⟩
   rcases h with _|⟨⟨a1,e1⟩,h⟩
   rcases h with _|⟨⟨a2,_,e2⟩,h⟩
   rcases h with _|⟨⟨a3,e3⟩,h⟩
   rcases h with _|⟨⟨a4,e4⟩,h⟩
   rcases h with _|⟨⟨a5,_,e5⟩,h⟩
   rcases h with _|⟨⟨a6,e6⟩,h⟩
   rcases h with _|⟨⟨a7,e7⟩,h⟩
   rcases h with _|⟨⟨a8,e8⟩,h⟩
   rcases h with _|⟨⟨a9,e9⟩,h⟩
   rcases h with _|⟨⟨a10,e10⟩,h⟩
   cases h
   exact⟨⟨a0,a1,a2,a3,a4,a5,a6,a7,a8,a9,a10⟩,by subst e0 e1 e2 e3 e4 e5 e6 e7 e8 e9 e10 e;simp[eChg,eS]⟩
theorem o_chgs:Opens Tryz.prog 42 (fun xs=> ∃ l:List Chg,xs= [.slice (l.map eChg) .ro]):=Opens.list (sz:=139) o_chg (fun _=>by simp) (by kernel_rfl) (by kernel_rfl) rfl (by decide) (ble (by kernel_rfl))
theorem o_pat:Opens Tryz.prog 44 (fun xs=> ∃ c,xs=ePat c):=
 Opens.to (opens_struct (n:=5) (r:= [(9,0),(9,1),(3,2),(31,3),(42,4)]) (by kernel_rfl) (by kernel_rfl)
  (.cons 1 (by kernel_rfl) o_str (.cons 1 (by kernel_rfl) o_str (.cons 1 (by kernel_rfl) o_int (.cons 1 (by kernel_rfl) o_digs (.cons 1 (by kernel_rfl) o_chgs (.nil _)))))))
  fun xs ⟨_,.cons ⟨a0,e0⟩ (.cons ⟨a1,e1⟩ (.cons ⟨a2,_,e2⟩ (.cons ⟨a3,e3⟩ (.cons ⟨a4,e4⟩ .nil)))),e⟩=>⟨⟨a0,a1,a2,a3,a4⟩,by subst e0 e1 e2 e3 e4 e;simp[ePat,eS]⟩
theorem o_sto:Opens Tryz.prog 70 (fun xs=> ∃ c,xs=eSto c):=
 Opens.to (opens_struct (n:=37) (r:= [(25,0),(44,32)]) (by kernel_rfl) (by kernel_rfl) (.cons 32 (by kernel_rfl) o_dig (.cons 5 (by kernel_rfl) o_pat (.nil _))))
  fun xs ⟨_,.cons ⟨a0,e0⟩ (.cons ⟨a1,e1⟩ .nil),e⟩=>⟨⟨a0,a1⟩,by subst e0 e1 e;simp[eSto]⟩
theorem o_set:Opens Tryz.prog 23 (fun xs=> ∃ l:List Sto,xs= [.slice (l.map eSto) .ro]):=Opens.list (sz:=37) o_sto (fun _=>by simp) (by kernel_rfl) (by kernel_rfl) rfl (by decide) (ble (by kernel_rfl))
set_option maxRecDepth 20000 in
theorem arg_slice {t e:Nat} {W:World} {base:Nat} {v:Value} {g:Gh} {x:PV} (ht:Tryz.prog.underlying t=some (.slice e)) (hv:Value.okWide Tryz.prog W .any base t v) (h:VRl g v.cells.toList [x]):VR g v x:=by
 have:v.cells= #[v]:=by
  unfold Value.okWide at hv
  rw[ht]at hv
  simp only[Cell.okWide,ht]at hv
  cases v<;>simp[Cell.ok,ht]at hv<;>rfl
 rw[this]at h
 exact h.uncons.1
set_option maxRecDepth 20000 in
theorem glob_of_laid {W:World} (h:laidMetH Tryz.prog [("math/bits.deBruijn32tab",YtmkdlelpipefbaaGreatDoor.Rows.laid_math_bits_deBruijn32tab),("math/bits.deBruijn64tab",YtmkdlelpipefbaaGreatDoor.Rows.laid_math_bits_deBruijn64tab),("internal/strconv.uint64pow10",YtmkdlelpipefbaaGreatDoor.Rows.laid_internal_strconv_uint64pow10)] W):
  ∃ T p,W.heap[globAt]? =some (.cells pow10Tab.toArray T p):=by
 rw[MakeChecks.laidMetH_plain _ _ _ (by kernel_rfl)]at h
 obtain⟨ps,⟨_,_,_,_,_,_,_,_,_,_,⟨_,_,_,_,_,_,_,_,_,_,⟨g2,t2,cs2,f2,p2,q2,hg2,ht2,hv2,hd2,_,_⟩,_⟩,_⟩,_,_⟩:=h
 have e1:Tryz.prog.globalNamed "internal/strconv.uint64pow10" =some globAt:=by kernel_rfl
 obtain rfl:=Option.some.inj (e1.symm.trans hg2)
 have e2:(Tryz.prog.globals[globAt]?).map (·.type)=some 285:=by kernel_rfl
 obtain rfl:=Option.some.inj (e2.symm.trans ht2)
 obtain⟨xs,m,rfl,hx,k1,k2,k3⟩:=DataW.trod_array (n:=20) (e:=172) (by kernel_rfl) hd2
 have hce:Tryz.prog.cellsOf 172=1:=by kernel_rfl
 have hct:Tryz.prog.cellsOf 285=20:=by kernel_rfl
 have hlaid:(YtmkdlelpipefbaaGreatDoor.Rows.laid_internal_strconv_uint64pow10:DataW Unit)= .agg ((List.range 20).map fun i=> .lit (.int .u64 (10 ^ i))):=rfl
 rw[hct]at k1
 have hxs:xs.map (·.1)=(List.range 20).map fun i=> .lit (.int .u64 (10 ^ i)):=by
  have h1:=(Prod.mk.inj hx).1
  rw[hlaid]at h1
  exact(DataW.agg.inj h1).symm
 have key:cs2.toList=pow10Tab:=by
  refine List.ext_getElem (by rw[k1];rfl) fun i h1 h2=>?_
  have hi:i < 20:=by omega
  have h3:=k3 i hi
  have hix:i < xs.length:=by omega
  rw[List.getElem?_eq_getElem hix,hce,Nat.mul_one]at h3
  obtain⟨n,f1,f2,_⟩:=DataW.trod_int (k:= .u64) (by kernel_rfl) h3
  have f3:(cs2.toList.drop i).take 1= [cs2.toList[i]]:=by
   rw[List.drop_eq_getElem_cons h1];rfl
  rw[f3]at f1
  simp only[List.cons.injEq,and_true]at f1
  have f4:(xs.map (·.1))[i]'(by simpa using hix)= .lit (.int .u64 n):=by simp[f2]
  have f5:(xs.map (·.1))[i]'(by simpa using hix)= .lit (.int .u64 (10 ^ i)):=by
   have:=List.getElem_of_eq hxs (i:=i) (by simpa using hix)
   rw[this];simp
  rw[f4]at f5
  have f6:=(Lit.int.inj (DataW.lit.inj f5)).2
  rw[f1,f6]
  simp[pow10Tab]
 simp only[World.var?,hg2,Option.bind_some]at hv2
 split at hv2
 ·rename_i cs T p hh
  cases hv2
  refine⟨T,p,?_⟩
  rw[hh,←key]
 ·cases hv2
end Go.Proofs
namespace Go.Proofs
open Go Go.Q
def laid3:List (String × DataW Unit):= [("math/bits.deBruijn32tab",YtmkdlelpipefbaaGreatDoor.Rows.laid_math_bits_deBruijn32tab),("math/bits.deBruijn64tab",YtmkdlelpipefbaaGreatDoor.Rows.laid_math_bits_deBruijn64tab),("internal/strconv.uint64pow10",YtmkdlelpipefbaaGreatDoor.Rows.laid_internal_strconv_uint64pow10)]
theorem own:ownKnob Tryz.prog.godebug=none:=by kernel_rfl
theorem door_met (os:Os) (args:Array Value):laidMetH Tryz.prog laid3 ((World.doorLaid Tryz.prog 400 os).forCall (fun _ _=>0) ⟨#[],args,[]⟩).memory:=
 laidMetH_of_parts3 (fuel:=8) (laidMet_of_run' 8 (by kernel_rfl) (by kernel_rfl)) (by kernel_rfl) (by kernel_rfl)
theorem door_shaped (os:Os) (args:Array Value):((World.doorLaid Tryz.prog 400 os).forCall (fun _ _=>0) ⟨#[],args,[]⟩).Shaped Tryz.checked.prog:=World.shaped_of_RefB (by kernel_rfl) (by kernel_rfl)
end Go.Proofs
namespace Go.Proofs
open Go Go.Q Go.ChangeShapes Go.WideShapes Go.ChangeAt Go.WideMaps Go.WideElems Go.RowKit
theorem trueOk {W':World} {f:Func} (hr:f.resultTypes= #[4]) {H:Type} {enc:TypeId × Value→H} (b:Nat) (sp:Nat→Bool) (hd:Bool):DataW.TrodAll enc Tryz.prog W' b sp hd f.resultTypes.toList ((Value.bool true).resultList f.resultTypes.size) [.lit (.bool true)] []:=by
 rw[hr]
 exact trodAll_mk1 (shut_bool (by kernel_rfl) _)
set_option maxRecDepth 20000 in
theorem arg_agg {t:Nat} {W:World} {base:Nat} {v:Value} {g:Gh} {cs:List PV} (ht:(match Tryz.prog.underlying t with|some (.struct _)|some (.array _ _)=>true|_=>false)=true) (hv:Value.okWide Tryz.prog W .any base t v) (h:VRl g v.cells.toList cs):VR g v (.agg cs):=by
 unfold Value.okWide at hv
 split at hv
 ·obtain⟨vs,rfl,_⟩:=hv
  have:VR g (.agg vs.toList.toArray) (.agg cs):=VRl.agg h
  simpa using this
 ·obtain⟨vs,rfl,_⟩:=hv
  have:VR g (.agg vs.toList.toArray) (.agg cs):=VRl.agg h
  simpa using this
 ·rename_i h1 h2
  split at ht
  ·rename_i fs hu;exact absurd hu (h1 fs)
  ·rename_i n e hu;exact absurd hu (h2 n e)
  ·cases ht
set_option maxRecDepth 20000 in
theorem arg_bool {t:Nat} {W:World} {base:Nat} {v:Value} {g:Gh} {b:Bool} (ht:Tryz.prog.underlying t=some .bool) (hv:Value.okWide Tryz.prog W .any base t v) (h:VRl g v.cells.toList (eB b)):VR g v (.raw (.bool b)):=by
 have:v.cells= #[v]:=by
  unfold Value.okWide at hv
  rw[ht]at hv
  simp only[Cell.okWide,ht]at hv
  cases v<;>simp[Cell.ok,ht]at hv<;>rfl
 rw[this]at h
 exact h.uncons.1
end Go.Proofs
namespace Go.Proofs
open Go Go.Q
attribute [local irreducible] pwp pops PCalls OpN
instance Compare_ct (a b:Dig):FnC Tryz.prog 65 [.agg (eDig a),.agg (eDig b)] (.raw (.int .i64 (cmpD a b))):=⟨by
 refine fn_of Tryz.func65 Tryz.ntmps65 rfl (rs:= [.tmp 4]) rfl rfl fun hb LF=>?_
 refine walkb fun p=>?_
 refine walkbp fun q=>?_
 refine pwp_loopS (σ:=Nat) (fun k=>k≤32∧ ∀ i,i < k→a.at i=b.at i) (fun k=>32 - k) (fun k=> [(2,.raw (.pointer (some ⟨p,0,none⟩))),(3,.raw (.pointer (some ⟨q,0,none⟩))),(5,.raw (.int .i64 k))]) (fun _=> .box q 25 (eDig b):: .box p 25 (eDig a)::LF) 0 ⟨by simp,by simp⟩ ⟨rfl,rfl,rfl⟩ (.refl _) ?_
 rintro k ⟨hk,he⟩
 refine walk ?_
 refine pwp_condD (fun hc=>?_) (fun hc=>?_)
 ·refine walk ?_
  refine pwp_condD (fun h1=>?_) (fun h1=>?_)
  ·refine walk ?_
   refine end1 (.of_eq ?_)
   have h2:a.at k < b.at k:=by rw[UInt8.lt_iff_toNat_lt];omega
   rw[cmpD_at (by omega) he (fun e=>by rw[e]at h2;exact UInt8.lt_irrefl _ h2),if_pos h2]
  ·refine walk ?_
   refine pwp_condD (fun h2=>?_) (fun h2=>?_)
   ·refine walk ?_
    refine end1 (.of_eq ?_)
    have h3: ¬a.at k < b.at k:=by rw[UInt8.lt_iff_toNat_lt];omega
    rw[cmpD_at (by omega) he (fun e=>by rw[e]at h2;omega),if_neg h3]
   ·refine walk ?_
    refine⟨k+1,⟨by omega,fun i hi=>?_⟩,by dsimp only;omega,⟨rfl,rfl,rfl⟩,.refl _⟩
    rcases Nat.lt_or_ge i k with h'|h'
    ·exact he i h'
    ·have:i=k:=by omega
     subst this
     exact UInt8.toNat.inj (by omega)
 ·refine walk ?_
  refine end1 (.of_eq ?_)
  rw[cmpD_zero.2 (Dig.ext_at fun i hi=>he i (by omega))]⟩
instance zero_ct (a:Dig):FnC Tryz.prog 78 [.agg (eDig a)] (.raw (.bool (decide (a=Dig.zero)))):=⟨by
 refine fn_of Tryz.func78 Tryz.ntmps78 rfl (rs:= [.tmp 2]) rfl rfl fun hb LF=>?_
 refine walkb fun p=>?_
 exact⟨trivial,_,[],.cons (.tmp 2) .nil,.cons _ (.refl _),.refl _,rfl⟩⟩
instance SameD_ct (l m:List Dig) (t u:Tag):FnC Tryz.prog 20 [.slice (l.map eDig) t,.slice (m.map eDig) u] (.raw (.bool (decide (l=m)))):=⟨by
 refine fn_of Tryz.func20 Tryz.ntmps20 rfl (rs:= [.tmp 4]) rfl rfl fun hb LF=>?_
 have hlen:l.length≤140737488355328:=(hb (.slice (l.map eDig) t) (by simp)).slice_map
 refine walk ?_
 refine pwp_condN (fun h1=>?_) (fun h1=>?_)
 ·refine walk ?_
  refine end1 (.of_eq ?_)
  have: ¬l=m:=fun e=>h1 (by rw[e])
  simp[this]
 ·refine walk ?_
  have hl:l.length=m.length:=by omega
  refine pwp_loopS (σ:=Nat) (fun k=>k≤l.length∧l.take k=m.take k) (fun k=>l.length - k) (fun k=> [(0,.slice (l.map eDig) t),(1,.slice (m.map eDig) u),(5,.raw (.int .i64 k))]) (fun _=>LF) 0 ⟨by simp,by simp⟩ ⟨rfl,rfl,rfl⟩ (.refl _) ?_
  rintro k ⟨hk,he⟩
  refine walk ?_
  refine pwp_condD (fun hc=>?_) (fun hc=>?_)
  ·refine walk ?_
   refine pwp_condN (fun h2=>?_) (fun h2=>?_)
   ·refine walk ?_
    refine end1 (.of_eq ?_)
    have: ¬l=m:=fun e=>h2 (by simp[e])
    simp[this]
   ·refine walk ?_
    refine⟨k+1,⟨by omega,?_⟩,by dsimp only;omega,⟨rfl,rfl,rfl⟩,.refl _⟩
    rw[List.take_succ_eq_append_getElem (by omega),List.take_succ_eq_append_getElem (by omega),he,h2]
  ·refine walk ?_
   refine end1 (.of_eq ?_)
   have:l=m:=by
    rw[List.take_of_length_le (by omega),List.take_of_length_le (by omega)]at he
    exact he
   simp[this]⟩
end Go.Proofs
namespace Go.Proofs
open Go Go.Q
attribute [local irreducible] pwp pops PCalls OpN
instance Has_ct (l:List Dig) (d:Dig) (t:Tag):FnC Tryz.prog 16 [.slice (l.map eDig) t,.agg (eDig d)] (.raw (.bool (decide (d∈l)))):=⟨by
 refine fn_of Tryz.func16 Tryz.ntmps16 rfl (rs:= [.tmp 4]) rfl rfl fun hb LF=>?_
 have hlen:l.length≤140737488355328:=(hb (.slice (l.map eDig) t) (by simp)).slice_map
 refine walkb fun b=>?_
 refine pwp_loopS (σ:=Nat) (fun k=>k≤l.length∧ ∀ i (h:i < l.length),i < k→d≠l[i]) (fun k=>l.length - k) (fun k=> [(0,.slice (l.map eDig) t),(3,.raw (.pointer (some ⟨b,0,none⟩))),(5,.raw (.int .i64 k))]) (fun _=> .box b 25 (eDig d)::LF) 0 ⟨by simp,by simp⟩ ⟨rfl,rfl,rfl⟩ (.refl _) ?_
 rintro k ⟨hk,hne⟩
 refine walk ?_
 refine pwp_condD (fun hc=>?_) (fun hc=>?_)
 ·refine walk ?_
  refine pwp_condD (fun he=>?_) (fun he=>?_)
  ·refine walk ?_;refine end1 (.of_eq ?_)
   have:d∈l:=he ▸ List.getElem_mem _
   simp[this]
  ·refine walk ?_
   refine⟨k+1,⟨by omega,fun i h hi=>?_⟩,by dsimp only;omega,⟨rfl,rfl,rfl⟩,.refl _⟩
   rcases Nat.lt_or_ge i k with h'|h'
   ·exact hne i h h'
   ·have:i=k:=by omega
    subst this;exact fun e=>he e.symm
 ·refine walk ?_;refine end1 (.of_eq ?_)
  have: ¬d∈l:=fun h=>by
   obtain⟨i,hi,e⟩:=List.mem_iff_getElem.1 h
   exact hne i hi (by omega) e.symm
  simp[this]⟩
def allIn (l m:List Dig):Bool:=m.all (fun x=>decide (x∈l))
instance all_ct (l m:List Dig) (t u:Tag):FnC Tryz.prog 67 [.slice (l.map eDig) t,.slice (m.map eDig) u] (.raw (.bool (allIn l m))):=⟨by
 refine fn_of Tryz.func67 Tryz.ntmps67 rfl (rs:= [.tmp 4]) rfl rfl fun hb LF=>?_
 have hlen:m.length≤140737488355328:=(hb (.slice (m.map eDig) u) (by simp)).slice_map
 refine walk ?_
 refine pwp_loopS (σ:=Nat) (fun k=>k≤m.length∧ ∀ i (h:i < m.length),i < k→m[i]∈l) (fun k=>m.length - k) (fun k=> [(0,.slice (l.map eDig) t),(1,.slice (m.map eDig) u),(5,.raw (.int .i64 k))]) (fun _=>LF) 0 ⟨by simp,by simp⟩ ⟨rfl,rfl,rfl⟩ (.refl _) ?_
 rintro k ⟨hk,hne⟩
 refine walk ?_
 refine pwp_condD (fun hc=>?_) (fun hc=>?_)
 ·refine walk ?_
  refine pwp_condN (fun he=>?_) (fun he=>?_)
  ·refine walk ?_;refine end1 (.of_eq ?_)
   have:allIn l m=false:=by
    unfold allIn;rw[List.all_eq_false];exact⟨_,List.getElem_mem _,by simpa using he⟩
   rw[this]
  ·refine walk ?_
   refine⟨k+1,⟨by omega,fun i h hi=>?_⟩,by dsimp only;omega,⟨rfl,rfl,rfl⟩,.refl _⟩
   rcases Nat.lt_or_ge i k with h'|h'
   ·exact hne i h h'
   ·have:i=k:=by omega
    subst this;exact he
 ·refine walk ?_;refine end1 (.of_eq ?_)
  have:allIn l m=true:=by
   unfold allIn;rw[List.all_eq_true];intro x hx
   obtain⟨i,hi,rfl⟩:=List.mem_iff_getElem.1 hx
   simpa using hne i hi (by omega)
  rw[this]⟩
def ids (s:List Sto):List Dig:=s.map (·.id)
instance Ids_ct (s:List Sto) (t:Tag):FnC Tryz.prog 66 [.slice (s.map eSto) t] (.slice ((ids s).map eDig) .ro):=⟨by
 refine fn_of Tryz.func66 Tryz.ntmps66 rfl (rs:= [.tmp 2]) rfl rfl fun hb LF=>?_
 have hlen:s.length*37≤140737488355328:=(hb (.slice (s.map eSto) t) (by simp)).slice_cells
 refine walk ?_
 refine pwp_tok 32 ?_
 refine pwp_loopS (σ:=Nat × Tag) (fun k=>k.1≤s.length) (fun k=>s.length - k.1) (fun k=> [(0,.slice (s.map eSto) t),(3,.slice ((ids (s.take k.1)).map eDig) k.2),(4,.raw (.int .i64 k.1))]) (fun k=> .tok k.2 (ids (s.take k.1)).length 32::LF) (0,.nil) (by simp) ⟨rfl,rfl,rfl⟩ (.refl _) ?_
 rintro⟨k,u⟩ hk
 dsimp only at hk
 refine walk ?_
 refine pwp_condD (fun hc=>?_) (fun hc=>?_)
 ·have hl:(ids (s.take k)).length=k:=by simp[ids];omega
  refine walka fun v=>?_
  have e:ids (s.take (k+1))=ids (s.take k)++ [s[k].id]:=by
   rw[List.take_succ_eq_append_getElem (by omega)];simp only[ids,List.map_append,List.map_cons,List.map_nil]
  refine⟨(k+1,v),by dsimp only;omega,by dsimp only;omega,⟨rfl,by dsimp only;rw[e];rfl,rfl⟩,by dsimp only;rw[e];exact .refl _⟩
 ·refine walk ?_
  refine end1 (.ros ?_)
  rw[List.take_of_length_le (by omega)]⟩
def getS:List Sto→Dig→Option Pat
 | [],_=>none
 |x::s,d=>if x.id=d then some x.patch else getS s d
theorem getS_none {s:List Sto} {d:Dig} (h: ∀ i (h:i < s.length),s[i].id≠d):getS s d=none:=by
 induction s with
 |nil=>rfl
 |cons x s ih=>
  have h0:=h 0 (by simp)
  simp only[List.getElem_cons_zero]at h0
  simp only[getS,h0,if_false]
  exact ih fun i hi=>by have:=h (i+1) (by simpa using hi);simpa using this
theorem getS_some {s:List Sto} {d:Dig} {k:Nat} (hk:k < s.length) (h: ∀ i (h:i < s.length),i < k→s[i].id≠d) (he:s[k].id=d):getS s d=some s[k].patch:=by
 induction s generalizing k with
 |nil=>simp at hk
 |cons x s ih=>
  cases k with
  |zero=>simp only[List.getElem_cons_zero]at he ⊢;simp[getS,he]
  |succ k=>
   have h0:=h 0 (by simp) (by omega)
   simp only[List.getElem_cons_zero]at h0
   simp only[getS,h0,if_false,List.getElem_cons_succ]
   exact ih (by simpa using hk) (fun i hi hik=>by have:=h (i+1) (by simpa using hi) (by omega);simpa using this) (by simpa using he)
def optP (o:Option Pat):PV:= .tuple [.agg (ePat (o.getD Pat.zero)),.raw (.bool o.isSome)]
instance Get_ct (s:List Sto) (d:Dig) (t:Tag):FnC Tryz.prog 37 [.slice (s.map eSto) t,.agg (eDig d)] (optP (getS s d)):=⟨by
 refine fn_of Tryz.func37 Tryz.ntmps37 rfl (rs:= [.cell 4 44,.tmp 5]) rfl rfl fun hb LF=>?_
 have hlen:s.length≤140737488355328:=(hb (.slice (s.map eSto) t) (by simp)).slice_map
 refine walkb fun b=>?_
 refine walkbp fun r=>?_
 refine pwp_loopS (σ:=Nat) (fun k=>k≤s.length∧ ∀ i (h:i < s.length),i < k→s[i].id≠d) (fun k=>s.length - k) (fun k=> [(0,.slice (s.map eSto) t),(3,.raw (.pointer (some ⟨b,0,none⟩))),(4,.raw (.pointer (some ⟨r,0,none⟩))),(6,.raw (.int .i64 k))]) (fun _=> .box r 44 (ePat Pat.zero):: .box b 25 (eDig d)::LF) 0 ⟨by simp,by simp⟩ ⟨rfl,rfl,rfl,rfl⟩ (.refl _) ?_
 rintro k ⟨hk,hne⟩
 refine walk ?_
 refine pwp_condD (fun hc=>?_) (fun hc=>?_)
 ·refine walk ?_
  refine pwp_condD (fun he=>?_) (fun he=>?_)
  ·refine walk ?_
   refine endC1 rfl (.of_eq ?_)
   rw[getS_some (by omega) hne he];rfl
  ·refine walk ?_
   refine⟨k+1,⟨by omega,fun i h hi=>?_⟩,by dsimp only;omega,⟨rfl,rfl,rfl,rfl⟩,.refl _⟩
   rcases Nat.lt_or_ge i k with h'|h'
   ·exact hne i h h'
   ·have:i=k:=by omega
    subst this;exact he
 ·refine walk ?_
  refine endC1 rfl (.of_eq ?_)
  rw[getS_none fun i h=>hne i h (by omega)];rfl⟩
set_option maxHeartbeats 1000000 in
instance With_ct (l:List Dig) (d:Dig) (t:Tag) [hs:Small (l.length≤1000000)]:FnC Tryz.prog 77 [.slice (l.map eDig) t,.agg (eDig d)] (.slice ((withD l d).map eDig) .ro):=⟨by
 refine fn_of Tryz.func77 Tryz.ntmps77 rfl (rs:= [.tmp 4]) rfl rfl fun hb LF=>?_
 have hlen:l.length≤1000000:=hs.out
 refine walkb fun b=>?_
 refine pwp_loopS (σ:=Nat) (fun k=>k≤l.length∧ ∀ i (h:i < l.length),i < k→Dig.lt l[i] d) (fun k=>l.length - k) (fun k=> [(0,.slice (l.map eDig) t),(3,.raw (.pointer (some ⟨b,0,none⟩))),(5,.raw (.int .i64 k))]) (fun _=> .box b 25 (eDig d)::LF) 0 ⟨by simp,by simp⟩ ⟨rfl,rfl,rfl⟩ (.refl _) ?_
 rintro k ⟨hk,hne⟩
 refine walk ?_
 refine pops_if (fun hp=>?_) (fun hp=>?_)
 ·have hc:(k:Int) < l.length:=of_decide_eq_true hp
  refine walkp ?_
  refine pwp_condD (fun h1=>?_) (fun h1=>?_)
  ·refine walk ?_
   refine⟨k+1,⟨by omega,fun i h hi=>?_⟩,by dsimp only;omega,⟨rfl,rfl,rfl⟩,.refl _⟩
   rcases Nat.lt_or_ge i k with h'|h'
   ·exact hne i h h'
   ·have:i=k:=by omega
    subst this;exact h1
  ·refine walk ?_
   refine pwp_condD (fun h2=>?_) (fun h2=>?_)
   ·refine walk ?_
    refine end1 (.ros ?_)
    rw[withD_at hk hne (fun _=>h1),if_pos ⟨by omega,h2⟩]
   ·refine walka fun t1=>?_
    refine walkap fun t2=>?_
    refine walkap fun t3=>?_
    refine end1 (.ros ?_)
    rw[withD_at hk hne (fun _=>h1),if_neg (fun⟨_,e⟩=>h2 e)]
    simp
 ·have hc: ¬(k:Int) < l.length:=of_decide_eq_false hp
  refine walkp ?_
  refine walkap fun t1=>?_
  refine walkap fun t2=>?_
  refine walkap fun t3=>?_
  refine end1 (.ros ?_)
  rw[withD_at hk hne (fun h=>absurd (show(k:Int) < l.length by omega) hc),if_neg (fun⟨h,_⟩=>hc (by omega))]
  simp⟩
end Go.Proofs
namespace Go.Proofs
open Go Go.Q
attribute [local irreducible] pwp pops PCalls OpN
def rWant (k:Int):Int:=if k=7 then 0 else k
def rText (k:Int):Bool:=decide (k=5)||decide (k=6)
def rOther (x:Ident):Bool:=!decide (x.patch=Dig.zero)
def rDirectory (x:Atm):Bool:=decide (x.kind=1)&&decide (x.type=4)
def rAllowed (x:Ident) (n:Int):Bool:=if x.patch=Dig.zero then decide (0≤x.n)&&decide (x.n < n)else decide (0≤x.n)&&decide (x.n < 100000)
def rFitsFile (k:Int) (x:Atm):Bool:=if x.kind≠1 then false else if rText k then decide (x.type=1)else !decide (k=4)||decide (x.type=2)||decide (x.type=3)
def rFitsEnd (f:Ident) (x:Atm):Bool:=decide (x.kind=5)&&decide (x.file=f)
instance none_ct:FnC Tryz.prog 256 [] (.agg (eIdent Ident.zero)):=⟨by
 refine fn_of Tryz.func256 Tryz.ntmps256 rfl (rs:= [.cell 0 84]) rfl rfl fun hb LF=>?_
 refine walkb fun b=>?_
 exact endC rfl (.refl _)⟩
instance Root_ct:FnC Tryz.prog 87 [] (.agg (eIdent ⟨Dig.zero,-1⟩)):=⟨by
 refine fn_of Tryz.func87 Tryz.ntmps87 rfl (rs:= [.cell 0 84]) rfl rfl fun hb LF=>?_
 refine walkb fun b=>?_
 exact endC rfl (.refl _)⟩
instance want_ct (k:Int):FnC Tryz.prog 191 [.raw (.int .i64 k)] (.raw (.int .i64 (rWant k))):=⟨by
 refine fn_of Tryz.func191 Tryz.ntmps191 rfl (rs:= [.tmp 2]) rfl rfl fun hb LF=>?_
 refine walk ?_
 refine pwp_condD (fun h=>?_) (fun h=>?_)
 ·refine walk ?_
  refine end1 (.of_eq ?_)
  simp[rWant,h]
 ·refine walk ?_
  refine end1 (.of_eq ?_)
  simp[rWant,h]⟩
instance text_ct (k:Int):FnC Tryz.prog 189 [.raw (.int .i64 k)] (.raw (.bool (rText k))):=⟨by
 refine fn_of Tryz.func189 Tryz.ntmps189 rfl (rs:= [.tmp 2]) rfl rfl fun hb LF=>?_
 refine walk ?_
 refine pops_if (fun hp=>?_) (fun hp=>?_)
 ·refine walkp ?_
  refine end1 (.of_eq ?_)
  simp_all[rText]
 ·refine walkp ?_
  refine end1 (.of_eq ?_)
  simp_all[rText]⟩
instance other_ct (x:Ident):FnC Tryz.prog 146 [.agg (eIdent x)] (.raw (.bool (rOther x))):=⟨by
 refine fn_of Tryz.func146 Tryz.ntmps146 rfl (rs:= [.tmp 2]) rfl rfl fun hb LF=>?_
 refine walkb fun b=>?_
 refine end1 (.of_eq ?_)
 rfl⟩
instance directory_ct (x:Atm):FnC Tryz.prog 149 [.agg (eAtm x)] (.raw (.bool (rDirectory x))):=⟨by
 refine fn_of Tryz.func149 Tryz.ntmps149 rfl (rs:= [.tmp 2]) rfl rfl fun hb LF=>?_
 refine walkb fun b=>?_
 refine pops_if (fun hp=>?_) (fun hp=>?_)
 ·refine walkp ?_
  refine end1 (.of_eq ?_)
  simp_all[rDirectory]
 ·refine walkp ?_
  refine end1 (.of_eq ?_)
  simp_all[rDirectory]⟩
instance allowed_ct (x:Ident) (n:Int):FnC Tryz.prog 258 [.agg (eIdent x),.raw (.int .i64 n)] (.raw (.bool (rAllowed x n))):=⟨by
 refine fn_of Tryz.func258 Tryz.ntmps258 rfl (rs:= [.tmp 4]) rfl rfl fun hb LF=>?_
 refine walkb fun b=>?_
 refine pwp_condD (fun h=>?_) (fun h=>?_)
 ·refine walk ?_
  refine pops_if (fun hp=>?_) (fun hp=>?_)
  ·refine walkp ?_
   refine end1 (.of_eq ?_)
   simp_all[rAllowed]<;>omega
  ·refine walkp ?_
   refine end1 (.of_eq ?_)
   simp_all[rAllowed]<;>omega
 ·refine walk ?_
  refine pops_if (fun hp=>?_) (fun hp=>?_)
  ·refine walkp ?_
   refine end1 (.of_eq ?_)
   simp_all[rAllowed]<;>omega
  ·refine walkp ?_
   refine end1 (.of_eq ?_)
   simp_all[rAllowed]<;>omega⟩
instance FitsFile_ct (k:Int) (x:Atm):FnC Tryz.prog 148 [.raw (.int .i64 k),.agg (eAtm x)] (.raw (.bool (rFitsFile k x))):=⟨by
 refine fn_of Tryz.func148 Tryz.ntmps148 rfl (rs:= [.tmp 4]) rfl rfl fun hb LF=>?_
 refine walkb fun b=>?_
 refine pwp_condN (fun h=>?_) (fun h=>?_)
 ·refine walk ?_
  refine end1 (.of_eq ?_)
  simp[rFitsFile,h]
 ·refine walk ?_
  refine pwp_condB (fun h2=>?_) (fun h2=>?_)
  ·refine walk ?_
   refine end1 (.of_eq ?_)
   simp[rFitsFile,h,h2]
  ·refine walk ?_
   refine pops_if (fun hp=>?_) (fun hp=>?_)
   ·refine walkp ?_
    refine end1 (.of_eq ?_)
    simp_all[rFitsFile]
   ·refine walkp ?_
    refine pops_if (fun hq=>?_) (fun hq=>?_)
    ·refine walkp ?_
     refine end1 (.of_eq ?_)
     simp_all[rFitsFile]
    ·refine walkp ?_
     refine end1 (.of_eq ?_)
     simp_all[rFitsFile]⟩
instance FitsEnd_ct (f:Ident) (x:Atm):FnC Tryz.prog 190 [.agg (eIdent f),.agg (eAtm x)] (.raw (.bool (rFitsEnd f x))):=⟨by
 refine fn_of Tryz.func190 Tryz.ntmps190 rfl (rs:= [.tmp 4]) rfl rfl fun hb LF=>?_
 refine walkb fun b=>?_
 refine walkbp fun b2=>?_
 refine pops_if (fun hp=>?_) (fun hp=>?_)
 ·refine walkp ?_
  refine end1 (.of_eq ?_)
  simp_all[rFitsEnd]
 ·refine walkp ?_
  refine end1 (.of_eq ?_)
  simp_all[rFitsEnd]⟩
end Go.Proofs
namespace Go.Proofs
open Go Go.Q
attribute [local irreducible] pwp pops PCalls OpN
def rFitsOver (k:Int) (f:Ident) (x:Atm):Bool:=decide (rWant k=0)||decide (x.kind=rWant k)&&decide (x.file=f)
def rOne (x:Ident) (own:List Atm) (fits:Bool):Int:=if rAllowed x own.length=false then 7 else if x.patch=Dig.zero∧fits=false then 8 else 0
def rGet (own:List Atm) (x:Ident):Atm:=if x.patch=Dig.zero∧0≤x.n then own.getD x.n.toNat Atm.zero else Atm.zero
def rComplete (x:Ident) (d:Dig):Ident:=if 0≤x.n∧x.patch=Dig.zero then { x with patch:=d }else x
def rWhole (x:Ident) (d:Dig):Ident:=if x.patch=Dig.zero∧0≤x.n then { x with patch:=d }else x
instance FitsOver_ct (k:Int) (f:Ident) (x:Atm):FnC Tryz.prog 151 [.raw (.int .i64 k),.agg (eIdent f),.agg (eAtm x)] (.raw (.bool (rFitsOver k f x))):=⟨by
 refine fn_of Tryz.func151 Tryz.ntmps151 rfl (rs:= [.tmp 6]) rfl rfl fun hb LF=>?_
 refine walkb fun b=>?_
 refine walkbp fun b2=>?_
 refine pops_if (fun hp=>?_) (fun hp=>?_)
 ·refine walkp ?_
  refine end1 (.of_eq ?_)
  simp_all[rFitsOver]
 ·refine walkp ?_
  refine pops_if (fun hq=>?_) (fun hq=>?_)
  ·refine walkp ?_
   refine end1 (.of_eq ?_)
   simp_all[rFitsOver]
  ·refine walkp ?_
   refine end1 (.of_eq ?_)
   simp_all[rFitsOver]⟩
instance one_ct (x:Ident) (own:List Atm) (t:Tag) (fits:Bool):FnC Tryz.prog 239 [.agg (eIdent x),.slice (own.map eAtm) t,.raw (.bool fits)] (.raw (.int .i64 (rOne x own fits))):=⟨by
 refine fn_of Tryz.func239 Tryz.ntmps239 rfl (rs:= [.tmp 6]) rfl rfl fun hb LF=>?_
 refine walkb fun b=>?_
 refine pwp_condB (fun h=>?_) (fun h=>?_)
 ·refine walk ?_
  refine end1 (.of_eq ?_)
  simp_all[rOne]
 ·refine walk ?_
  refine pops_if (fun hp=>?_) (fun hp=>?_)
  ·refine walkp ?_
   refine pwp_condB (fun h2=>?_) (fun h2=>?_)
   ·refine walk ?_
    refine end1 (.of_eq ?_)
    simp_all[rOne]
   ·refine walk ?_
    refine end1 (.of_eq ?_)
    simp_all[rOne]
  ·refine walkp ?_
   refine end1 (.of_eq ?_)
   simp_all[rOne]⟩
instance get_ct (own:List Atm) (t:Tag) (x:Ident):FnC Tryz.prog 240 [.slice (own.map eAtm) t,.agg (eIdent x)] (.agg (eAtm (rGet own x))):=⟨by
 refine fn_of Tryz.func240 Tryz.ntmps240 rfl (rs:= [.cell 4 125]) rfl rfl fun hb LF=>?_
 refine walkb fun b=>?_
 refine walkbp fun b2=>?_
 refine pops_if (fun hp=>?_) (fun hp=>?_)
 ·refine walkp ?_
  refine pops_if (fun hq=>?_) (fun hq=>?_)
  ·refine walkp ?_
   refine pwp_condD (fun h=>?_) (fun h=>?_)
   ·have h0:0≤x.n:=of_decide_eq_true hq
    refine walk ?_
    refine endC rfl (.of_eq ?_)
    have:x.n.toNat < own.length:=by omega
    simp_all[rGet]
   ·refine walk ?_
    refine endC rfl (.of_eq ?_)
    have h0:0≤x.n:=of_decide_eq_true hq
    have: ¬x.n.toNat < own.length:=by omega
    simp_all[rGet]
  ·refine walkp ?_
   refine endC rfl (.of_eq ?_)
   have h0: ¬0≤x.n:=of_decide_eq_false hq
   simp[rGet,h0]
 ·refine walkp ?_
  refine endC rfl (.of_eq ?_)
  simp_all[rGet]⟩
instance complete_ct (x:Ident) (d:Dig):FnC Tryz.prog 152 [.agg (eIdent x),.agg (eDig d)] (.agg (eIdent (rComplete x d))):=⟨by
 refine fn_of Tryz.func152 Tryz.ntmps152 rfl (rs:= [.cell 4 84]) rfl rfl fun hb LF=>?_
 refine walkb fun b=>?_
 refine walkbp fun b2=>?_
 refine walkbp fun b3=>?_
 refine pops_if (fun hp=>?_) (fun hp=>?_)
 ·refine walkp ?_
  refine pwp_condD (fun h=>?_) (fun h=>?_)
  ·refine walk ?_
   refine endC rfl (.of_eq ?_)
   simp_all[rComplete]
  ·refine walk ?_
   refine endC rfl (.of_eq ?_)
   simp_all[rComplete]
 ·refine walkp ?_
  refine endC rfl (.of_eq ?_)
  have h0: ¬0≤x.n:=of_decide_eq_false hp
  simp[rComplete,h0]⟩
instance whole_ct (x:Ident) (d:Dig):FnC Tryz.prog 224 [.agg (eIdent x),.agg (eDig d)] (.agg (eIdent (rWhole x d))):=⟨by
 refine fn_of Tryz.func224 Tryz.ntmps224 rfl (rs:= [.cell 4 84]) rfl rfl fun hb LF=>?_
 refine walkb fun b=>?_
 refine walkbp fun b2=>?_
 refine walkbp fun b3=>?_
 refine pops_if (fun hp=>?_) (fun hp=>?_)
 ·refine walkp ?_
  refine pwp_condD (fun h=>?_) (fun h=>?_)
  ·refine walk ?_
   refine endC rfl (.of_eq ?_)
   simp_all[rWhole]
  ·refine walk ?_
   refine endC rfl (.of_eq ?_)
   simp[rWhole,h]
 ·refine walkp ?_
  refine endC rfl (.of_eq ?_)
  simp_all[rWhole]⟩
end Go.Proofs
namespace Go.Proofs
open Go Go.Q
attribute [local irreducible] pwp pops PCalls OpN
def cmpI (a b:Ident):Int:=if cmpD a.patch b.patch≠0 then cmpD a.patch b.patch else if a.n < b.n then -1 else if b.n < a.n then 1 else 0
instance CompareI_ct (a b:Ident):FnC Tryz.prog 244 [.agg (eIdent a),.agg (eIdent b)] (.raw (.int .i64 (cmpI a b))):=⟨by
 refine fn_of Tryz.func244 Tryz.ntmps244 rfl (rs:= [.tmp 4]) rfl rfl fun hb LF=>?_
 refine walkb fun p=>?_
 refine walkbp fun q=>?_
 refine pwp_condN (fun h=>?_) (fun h=>?_)
 ·refine walk ?_
  refine end1 (.of_eq ?_)
  simp[cmpI,h]
 ·refine walk ?_
  refine pwp_condD (fun h1=>?_) (fun h1=>?_)
  ·refine walk ?_
   refine end1 (.of_eq ?_)
   simp[cmpI,h,h1]
  ·refine walk ?_
   refine pwp_condD (fun h2=>?_) (fun h2=>?_)
   ·refine walk ?_
    refine end1 (.of_eq ?_)
    simp[cmpI,h,h1,h2]
   ·refine walk ?_
    refine end1 (.of_eq ?_)
    simp[cmpI,h,h1,h2]⟩
def rAsc (l:List Ident):Bool:=(List.range (l.length - 1)).all fun i=>decide (cmpI (l.getD i Ident.zero) (l.getD (i+1) Ident.zero) < 0)
instance Ascending_ct (l:List Ident) (t:Tag):FnC Tryz.prog 238 [.slice (l.map eIdent) t] (.raw (.bool (rAsc l))):=⟨by
 refine fn_of Tryz.func238 Tryz.ntmps238 rfl (rs:= [.tmp 2]) rfl rfl fun hb LF=>?_
 have hlen:l.length≤140737488355328:=(hb (.slice (l.map eIdent) t) (by simp)).slice_map
 refine walk ?_
 refine pwp_loopS (σ:=Nat) (fun k=>1≤k∧ ∀ i,i+1 < k→i+1 < l.length→cmpI (l.getD i Ident.zero) (l.getD (i+1) Ident.zero) < 0) (fun k=>l.length - k) (fun k=> [(0,.slice (l.map eIdent) t),(3,.raw (.int .i64 k))]) (fun _=>LF) 1 ⟨by simp,fun i h=>by omega⟩ ⟨rfl,rfl⟩ (.refl _) ?_
 rintro k ⟨hk,he⟩
 refine walk ?_
 refine pwp_condD (fun hc=>?_) (fun hc=>?_)
 ·obtain⟨j,rfl⟩: ∃ j,k=j+1:=⟨k - 1,by omega⟩
  refine walk ?_
  have e:((↑(j+1):Int) - 1).toNat=j:=by omega
  have hj:j+1 < l.length:=by omega
  refine pwp_condD (fun h1=>?_) (fun h1=>?_)
  ·refine walk ?_
   refine end1 (.of_eq ?_)
   simp only[e]at h1
   have:rAsc l=false:=by
    unfold rAsc
    rw[List.all_eq_false]
    refine⟨j,List.mem_range.2 (by omega),?_⟩
    simp only[decide_eq_true_eq,List.getD_eq_getElem?_getD,List.getElem?_eq_getElem hj,List.getElem?_eq_getElem (show j < l.length by omega),Option.getD_some]
    omega
   rw[this]
  ·refine walk ?_
   simp only[e]at h1
   refine⟨j+1+1,⟨by omega,fun i h2 h3=>?_⟩,by dsimp only;omega,⟨rfl,rfl⟩,.refl _⟩
   rcases Nat.lt_or_ge (i+1) (j+1)with h'|h'
   ·exact he i h' h3
   ·have:i=j:=by omega
    subst this
    simp only[List.getD_eq_getElem?_getD,List.getElem?_eq_getElem hj,List.getElem?_eq_getElem (show i < l.length by omega),Option.getD_some]
    omega
 ·refine walk ?_
  refine end1 (.of_eq ?_)
  have:rAsc l=true:=by
   unfold rAsc
   rw[List.all_eq_true]
   intro i hi
   rw[List.mem_range]at hi
   exact decide_eq_true (he i (by omega) (by omega))
  rw[this]⟩
end Go.Proofs
namespace Go.Proofs
open Go Go.Q
attribute [local irreducible] pwp pops PCalls OpN
instance SameIds_ct (l m:List Ident) (t u:Tag):FnC Tryz.prog 140 [.slice (l.map eIdent) t,.slice (m.map eIdent) u] (.raw (.bool (decide (l=m)))):=⟨by
 refine fn_of Tryz.func140 Tryz.ntmps140 rfl (rs:= [.tmp 4]) rfl rfl fun hb LF=>?_
 have hlen:l.length≤140737488355328:=(hb (.slice (l.map eIdent) t) (by simp)).slice_map
 refine walk ?_
 refine pwp_condN (fun h1=>?_) (fun h1=>?_)
 ·refine walk ?_
  refine end1 (.of_eq ?_)
  have: ¬l=m:=fun e=>h1 (by rw[e])
  simp[this]
 ·refine walk ?_
  have hl:l.length=m.length:=by omega
  refine pwp_loopS (σ:=Nat) (fun k=>k≤l.length∧l.take k=m.take k) (fun k=>l.length - k) (fun k=> [(0,.slice (l.map eIdent) t),(1,.slice (m.map eIdent) u),(5,.raw (.int .i64 k))]) (fun _=>LF) 0 ⟨by simp,by simp⟩ ⟨rfl,rfl,rfl⟩ (.refl _) ?_
  rintro k ⟨hk,he⟩
  refine walk ?_
  refine pwp_condD (fun hc=>?_) (fun hc=>?_)
  ·refine walk ?_
   refine pwp_condN (fun h2=>?_) (fun h2=>?_)
   ·refine walk ?_
    refine end1 (.of_eq ?_)
    have: ¬l=m:=fun e=>h2 (by simp[e])
    simp[this]
   ·refine walk ?_
    refine⟨k+1,⟨by omega,?_⟩,by dsimp only;omega,⟨rfl,rfl,rfl⟩,.refl _⟩
    rw[List.take_succ_eq_append_getElem (by omega),List.take_succ_eq_append_getElem (by omega),he,h2]
  ·refine walk ?_
   refine end1 (.of_eq ?_)
   have:l=m:=by
    rw[List.take_of_length_le (by omega),List.take_of_length_le (by omega)]at he
    exact he
   simp[this]⟩
instance SameS_ct (l m:List Str) (t u:Tag):FnC Tryz.prog 139 [.slice (l.map eS) t,.slice (m.map eS) u] (.raw (.bool (decide (l=m)))):=⟨by
 refine fn_of Tryz.func139 Tryz.ntmps139 rfl (rs:= [.tmp 4]) rfl rfl fun hb LF=>?_
 have hlen:l.length≤140737488355328:=(hb (.slice (l.map eS) t) (by simp)).slice_map
 refine walk ?_
 refine pwp_condN (fun h1=>?_) (fun h1=>?_)
 ·refine walk ?_
  refine end1 (.of_eq ?_)
  have: ¬l=m:=fun e=>h1 (by rw[e])
  simp[this]
 ·refine walk ?_
  have hl:l.length=m.length:=by omega
  refine pwp_loopS (σ:=Nat) (fun k=>k≤l.length∧l.take k=m.take k) (fun k=>l.length - k) (fun k=> [(0,.slice (l.map eS) t),(1,.slice (m.map eS) u),(5,.raw (.int .i64 k))]) (fun _=>LF) 0 ⟨by simp,by simp⟩ ⟨rfl,rfl,rfl⟩ (.refl _) ?_
  rintro k ⟨hk,he⟩
  refine walk ?_
  refine pwp_condD (fun hc=>?_) (fun hc=>?_)
  ·refine walk ?_
   refine pwp_condN (fun h2=>?_) (fun h2=>?_)
   ·refine walk ?_
    refine end1 (.of_eq ?_)
    have: ¬l=m:=fun e=>h2 (by simp[e])
    simp[this]
   ·refine walk ?_
    refine⟨k+1,⟨by omega,?_⟩,by dsimp only;omega,⟨rfl,rfl,rfl⟩,.refl _⟩
    rw[List.take_succ_eq_append_getElem (by omega),List.take_succ_eq_append_getElem (by omega),he,h2]
  ·refine walk ?_
   refine end1 (.of_eq ?_)
   have:l=m:=by
    rw[List.take_of_length_le (by omega),List.take_of_length_le (by omega)]at he
    exact he
   simp[this]⟩
theorem chg_eq (a b:Chg):decide (a=b)=(decide (a.kind=b.kind)&&decide (a.file=b.file)&&decide (a.type=b.type)&&decide (a.parent=b.parent)&&decide (a.name=b.name)&&decide (a.mode=b.mode)&&decide (a.data=b.data)&&decide (a.after=b.after)&&decide (a.before=b.before)&&decide (a.lines=b.lines)&&decide (a.over=b.over)):=by
 cases a;cases b;rw[Bool.eq_iff_iff];simp[and_assoc]
instance SameChange_ct (a b:Chg):FnC Tryz.prog 102 [.agg (eChg a),.agg (eChg b)] (.raw (.bool (decide (a=b)))):=⟨by
 refine fn_of Tryz.func102 Tryz.ntmps102 rfl (rs:= [.tmp 4]) rfl rfl fun hb LF=>?_
 rw[chg_eq]
 refine walkb fun p=>?_
 refine walkbp fun q=>?_
 iterate 10
  refine pops_if (fun hp=>?_) (fun hp=>by
   refine walkp ?_
   refine end1 (.of_eq ?_)
   simp_all)
  refine walkp ?_
 refine end1 (.of_eq ?_)
 simp_all⟩
end Go.Proofs
