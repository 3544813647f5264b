/- Closed facts on the types and functions of this translation, printed by a program off its tables. -/
import Derived.Test.YtpebdiofdfpooaaGreatDoorUag
import Derived.Test.YtpebdiofdfpooaaGreatDoorProg
import Derived.Test.YtpebdiofdfpooaaGreatDoorUad
import Derived.Test.YtpebdiofdfpooaaGreatDoorUae
import Derived.Test.YtpebdiofdfpooaaGreatDoorUaf
set_option linter.unusedSimpArgs false
set_option linter.unusedVariables false
namespace Go.Proofs
open Go Go.Q
def zv:PV→Value
 | .raw v=>v
 | .str _=> .string ⟨#[]⟩
 |_=> .slice none 0 0
instance :lg Tryz.prog:=⟨by kernel_rfl⟩
instance :ER Tryz.prog 3 1 8:=ER.of (by kernel_rfl)
instance :DE Tryz.prog 3:=DE.of (by kernel_rfl)
instance :My Tryz.prog 3 .i64:=⟨by kernel_rfl⟩
instance :ER Tryz.prog 4 1 1:=ER.of (by kernel_rfl)
instance :DE Tryz.prog 4:=DE.of (by kernel_rfl)
instance :ER Tryz.prog 5 1 1:=ER.of (by kernel_rfl)
instance :DE Tryz.prog 5:=DE.of (by kernel_rfl)
instance :My Tryz.prog 5 .u8:=⟨by kernel_rfl⟩
instance :ER Tryz.prog 9 1 16:=ER.of (by kernel_rfl)
instance :DE Tryz.prog 9:=DE.of (by kernel_rfl)
instance :Pg Tryz.prog 9:=⟨by kernel_rfl⟩
instance :LK Tryz.prog 22 47:=⟨by kernel_rfl⟩
instance :ER Tryz.prog 23 1 24:=ER.of (by kernel_rfl)
instance :DE Tryz.prog 23:=DE.of (by kernel_rfl)
instance :LK Tryz.prog 23 47:=⟨by kernel_rfl⟩
instance :Fy Tryz.prog 23 37 120:=Fy.of (by kernel_rfl)
instance :ER Tryz.prog 24 1 24:=ER.of (by kernel_rfl)
instance :DE Tryz.prog 24:=DE.of (by kernel_rfl)
instance :LK Tryz.prog 24 78:=⟨by kernel_rfl⟩
instance :Fy Tryz.prog 24 2 40:=Fy.of (by kernel_rfl)
instance :ER Tryz.prog 25 1 24:=ER.of (by kernel_rfl)
instance :DE Tryz.prog 25:=DE.of (by kernel_rfl)
instance :LK Tryz.prog 25 80:=⟨by kernel_rfl⟩
instance :ER Tryz.prog 27 4 88:=ER.of (by kernel_rfl)
instance :FL Tryz.prog 27 4:=FL.of (by kernel_rfl)
instance :CV Tryz.prog 27:=CV.of (by kernel_rfl)
instance :CF Tryz.prog 27 0 0:=CF.of (by kernel_rfl)
instance :Bb Tryz.prog 27 1 1 1:=Bb.of (by kernel_rfl)
instance :CF Tryz.prog 27 1 1:=CF.of (by kernel_rfl)
instance :CF Tryz.prog 27 2 2:=CF.of (by kernel_rfl)
instance :Bb Tryz.prog 27 3 3 1:=Bb.of (by kernel_rfl)
instance :CF Tryz.prog 27 3 3:=CF.of (by kernel_rfl)
instance :ER Tryz.prog 39 1 24:=ER.of (by kernel_rfl)
instance :DE Tryz.prog 39:=DE.of (by kernel_rfl)
instance :LK Tryz.prog 39 45:=⟨by kernel_rfl⟩
instance :Fy Tryz.prog 39 32 32:=Fy.of (by kernel_rfl)
instance :DE Tryz.prog 40:=DE.of (by kernel_rfl)
instance :LK Tryz.prog 40 101:=⟨by kernel_rfl⟩
instance :Fy Tryz.prog 40 139 264:=Fy.of (by kernel_rfl)
instance :ER Tryz.prog 42 5 88:=ER.of (by kernel_rfl)
instance :FL Tryz.prog 42 5:=FL.of (by kernel_rfl)
instance :CV Tryz.prog 42:=CV.of (by kernel_rfl)
instance :Ch Tryz.prog 42 (CP Pat.zero):=Ch.of (us:=(CP Pat.zero).map zv) (by kernel_rfl) (by kernel_rfl)
instance :Bb Tryz.prog 42 0 0 1:=Bb.of (by kernel_rfl)
instance :CF Tryz.prog 42 0 0:=CF.of (by kernel_rfl)
instance :CF Tryz.prog 42 1 1:=CF.of (by kernel_rfl)
instance :Bb Tryz.prog 42 2 2 1:=Bb.of (by kernel_rfl)
instance :CF Tryz.prog 42 2 2:=CF.of (by kernel_rfl)
instance :CF Tryz.prog 42 3 3:=CF.of (by kernel_rfl)
instance :Bb Tryz.prog 42 4 4 1:=Bb.of (by kernel_rfl)
instance :CF Tryz.prog 42 4 4:=CF.of (by kernel_rfl)
instance :ER Tryz.prog 45 32 32:=ER.of (by kernel_rfl)
instance :FL Tryz.prog 45 32:=FL.of (by kernel_rfl)
instance :Uv Tryz.prog 45 32 5:=⟨by kernel_rfl⟩
instance :Ch Tryz.prog 45 (eDig Dig.zero):=Ch.of (us:=(eDig Dig.zero).map zv) (by kernel_rfl) (by kernel_rfl)
instance :Uu Tryz.prog 45:=Uu.of (E:=5) (by kernel_rfl) (by kernel_rfl) (by kernel_rfl) (by kernel_rfl)
instance :ER Tryz.prog 47 37 120:=ER.of (by kernel_rfl)
instance :FL Tryz.prog 47 37:=FL.of (by kernel_rfl)
instance :CV Tryz.prog 47:=CV.of (by kernel_rfl)
instance :Ch Tryz.prog 47 (eSto Sto.zero):=Ch.of (us:=(eSto Sto.zero).map zv) (by kernel_rfl) (by kernel_rfl)
instance :Bb Tryz.prog 47 0 0 32:=Bb.of (by kernel_rfl)
instance :CF Tryz.prog 47 0 0:=CF.of (by kernel_rfl)
instance :Bb Tryz.prog 47 1 32 5:=Bb.of (by kernel_rfl)
instance :CF Tryz.prog 47 1 32:=CF.of (by kernel_rfl)
instance :ER Tryz.prog 48 1 24:=ER.of (by kernel_rfl)
instance :DE Tryz.prog 48:=DE.of (by kernel_rfl)
instance :LK Tryz.prog 48 9:=⟨by kernel_rfl⟩
instance :Fy Tryz.prog 48 1 16:=Fy.of (by kernel_rfl)
instance :ER Tryz.prog 58 41 184:=ER.of (by kernel_rfl)
instance :FL Tryz.prog 58 41:=FL.of (by kernel_rfl)
instance :CF Tryz.prog 58 0 0:=CF.of (by kernel_rfl)
instance :CF Tryz.prog 58 1 1:=CF.of (by kernel_rfl)
instance :CF Tryz.prog 58 2 2:=CF.of (by kernel_rfl)
instance :CF Tryz.prog 58 3 3:=CF.of (by kernel_rfl)
instance :CF Tryz.prog 58 4 8:=CF.of (by kernel_rfl)
instance :CF Tryz.prog 58 5 40:=CF.of (by kernel_rfl)
instance :LK Tryz.prog 71 58:=⟨by kernel_rfl⟩
instance :ER Tryz.prog 78 2 40:=ER.of (by kernel_rfl)
instance :FL Tryz.prog 78 2:=FL.of (by kernel_rfl)
instance :CV Tryz.prog 78:=CV.of (by kernel_rfl)
instance :Bb Tryz.prog 78 0 0 1:=Bb.of (by kernel_rfl)
instance :CF Tryz.prog 78 0 0:=CF.of (by kernel_rfl)
instance :Bb Tryz.prog 78 1 1 1:=Bb.of (by kernel_rfl)
instance :CF Tryz.prog 78 1 1:=CF.of (by kernel_rfl)
instance :ER Tryz.prog 80 3 56:=ER.of (by kernel_rfl)
instance :FL Tryz.prog 80 3:=FL.of (by kernel_rfl)
instance :CV Tryz.prog 80:=CV.of (by kernel_rfl)
instance :Bb Tryz.prog 80 0 0 1:=Bb.of (by kernel_rfl)
instance :CF Tryz.prog 80 0 0:=CF.of (by kernel_rfl)
instance :Bb Tryz.prog 80 1 1 1:=Bb.of (by kernel_rfl)
instance :CF Tryz.prog 80 1 1:=CF.of (by kernel_rfl)
instance :Bb Tryz.prog 80 2 2 1:=Bb.of (by kernel_rfl)
instance :CF Tryz.prog 80 2 2:=CF.of (by kernel_rfl)
instance :ER Tryz.prog 84 1 8:=ER.of (by kernel_rfl)
instance :DE Tryz.prog 84:=DE.of (by kernel_rfl)
instance :DE Tryz.prog 95:=DE.of (by kernel_rfl)
instance :ER Tryz.prog 98 33 40:=ER.of (by kernel_rfl)
instance :FL Tryz.prog 98 33:=FL.of (by kernel_rfl)
instance :CV Tryz.prog 98:=CV.of (by kernel_rfl)
instance :Ch Tryz.prog 98 (eIdent Ident.zero):=Ch.of (us:=(eIdent Ident.zero).map zv) (by kernel_rfl) (by kernel_rfl)
instance :CF Tryz.prog 98 0 0:=CF.of (by kernel_rfl)
instance :Bb Tryz.prog 98 1 32 1:=Bb.of (by kernel_rfl)
instance :CF Tryz.prog 98 1 32:=CF.of (by kernel_rfl)
instance :Ph Tryz.prog 98:=Ph.of (D:=45) (I:=3) (E:=5) (by kernel_rfl) (by kernel_rfl) (by kernel_rfl) (by kernel_rfl) (by kernel_rfl) (by kernel_rfl) (by kernel_rfl) (by kernel_rfl) (by kernel_rfl)
instance :ER Tryz.prog 99 1 24:=ER.of (by kernel_rfl)
instance :DE Tryz.prog 99:=DE.of (by kernel_rfl)
instance :LK Tryz.prog 99 98:=⟨by kernel_rfl⟩
instance :Fy Tryz.prog 99 33 40:=Fy.of (by kernel_rfl)
instance :ER Tryz.prog 101 139 264:=ER.of (by kernel_rfl)
instance :FL Tryz.prog 101 139:=FL.of (by kernel_rfl)
instance :CV Tryz.prog 101:=CV.of (by kernel_rfl)
instance :Ch Tryz.prog 101 (BC Chg.zero):=Ch.of (us:=(BC Chg.zero).map zv) (by kernel_rfl) (by kernel_rfl)
instance :Bb Tryz.prog 101 0 0 1:=Bb.of (by kernel_rfl)
instance :CF Tryz.prog 101 0 0:=CF.of (by kernel_rfl)
instance :CF Tryz.prog 101 1 1:=CF.of (by kernel_rfl)
instance :Bb Tryz.prog 101 2 34 1:=Bb.of (by kernel_rfl)
instance :CF Tryz.prog 101 2 34:=CF.of (by kernel_rfl)
instance :CF Tryz.prog 101 3 35:=CF.of (by kernel_rfl)
instance :CF Tryz.prog 101 4 68:=CF.of (by kernel_rfl)
instance :CF Tryz.prog 101 5 69:=CF.of (by kernel_rfl)
instance :CF Tryz.prog 101 6 70:=CF.of (by kernel_rfl)
instance :CF Tryz.prog 101 7 71:=CF.of (by kernel_rfl)
instance :CF Tryz.prog 101 8 104:=CF.of (by kernel_rfl)
instance :CF Tryz.prog 101 9 137:=CF.of (by kernel_rfl)
instance :CF Tryz.prog 101 10 138:=CF.of (by kernel_rfl)
instance :DE Tryz.prog 110:=DE.of (by kernel_rfl)
instance :DE Tryz.prog 119:=DE.of (by kernel_rfl)
instance :LK Tryz.prog 155 39:=⟨by kernel_rfl⟩
instance :Fy Tryz.prog 155 1 24:=Fy.of (by kernel_rfl)
instance :ER Tryz.prog 159 1 24:=ER.of (by kernel_rfl)
instance :DE Tryz.prog 159:=DE.of (by kernel_rfl)
instance :LK Tryz.prog 159 5:=⟨by kernel_rfl⟩
instance :lh Tryz.prog 159:=⟨5,by kernel_rfl,by kernel_rfl⟩
instance :Fy Tryz.prog 159 1 1:=Fy.of (by kernel_rfl)
instance :ER Tryz.prog 169 1 8:=ER.of (by kernel_rfl)
instance :DE Tryz.prog 169:=DE.of (by kernel_rfl)
instance :DE Tryz.prog 171:=DE.of (by kernel_rfl)
instance :CV Tryz.prog 173:=CV.of (by kernel_rfl)
instance :Bb Tryz.prog 173 0 0 1:=Bb.of (by kernel_rfl)
instance :CF Tryz.prog 173 0 0:=CF.of (by kernel_rfl)
instance :Bb Tryz.prog 173 1 1 1:=Bb.of (by kernel_rfl)
instance :CF Tryz.prog 173 1 1:=CF.of (by kernel_rfl)
instance :ER Tryz.prog 174 1 24:=ER.of (by kernel_rfl)
instance :DE Tryz.prog 174:=DE.of (by kernel_rfl)
instance :LK Tryz.prog 174 178:=⟨by kernel_rfl⟩
instance :Fy Tryz.prog 174 34 48:=Fy.of (by kernel_rfl)
instance :DE Tryz.prog 176:=DE.of (by kernel_rfl)
instance :ER Tryz.prog 178 34 48:=ER.of (by kernel_rfl)
instance :FL Tryz.prog 178 34:=FL.of (by kernel_rfl)
instance :CV Tryz.prog 178:=CV.of (by kernel_rfl)
instance :Bb Tryz.prog 178 0 0 33:=Bb.of (by kernel_rfl)
instance :CF Tryz.prog 178 0 0:=CF.of (by kernel_rfl)
instance :Bb Tryz.prog 178 1 33 1:=Bb.of (by kernel_rfl)
instance :CF Tryz.prog 178 1 33:=CF.of (by kernel_rfl)
instance :ER Tryz.prog 180 172 296:=ER.of (by kernel_rfl)
instance :FL Tryz.prog 180 172:=FL.of (by kernel_rfl)
instance :CV Tryz.prog 180:=CV.of (by kernel_rfl)
instance :Ch Tryz.prog 180 (eAtm Atm.zero):=Ch.of (us:=(eAtm Atm.zero).map zv) (by kernel_rfl) (by kernel_rfl)
instance :Bb Tryz.prog 180 0 0 33:=Bb.of (by kernel_rfl)
instance :CF Tryz.prog 180 0 0:=CF.of (by kernel_rfl)
instance :Bb Tryz.prog 180 1 33 1:=Bb.of (by kernel_rfl)
instance :CF Tryz.prog 180 1 33:=CF.of (by kernel_rfl)
instance :Bb Tryz.prog 180 2 34 33:=Bb.of (by kernel_rfl)
instance :CF Tryz.prog 180 2 34:=CF.of (by kernel_rfl)
instance :Bb Tryz.prog 180 3 67 1:=Bb.of (by kernel_rfl)
instance :CF Tryz.prog 180 3 67:=CF.of (by kernel_rfl)
instance :Bb Tryz.prog 180 4 68 33:=Bb.of (by kernel_rfl)
instance :CF Tryz.prog 180 4 68:=CF.of (by kernel_rfl)
instance :Bb Tryz.prog 180 5 101 1:=Bb.of (by kernel_rfl)
instance :Bb Tryz.prog 180 6 102 1:=Bb.of (by kernel_rfl)
instance :Bb Tryz.prog 180 7 103 1:=Bb.of (by kernel_rfl)
instance :Bb Tryz.prog 180 8 104 1:=Bb.of (by kernel_rfl)
instance :Bb Tryz.prog 180 9 105 33:=Bb.of (by kernel_rfl)
instance :CF Tryz.prog 180 9 105:=CF.of (by kernel_rfl)
instance :Bb Tryz.prog 180 10 138 33:=Bb.of (by kernel_rfl)
instance :CF Tryz.prog 180 10 138:=CF.of (by kernel_rfl)
instance :Bb Tryz.prog 180 11 171 1:=Bb.of (by kernel_rfl)
instance :CF Tryz.prog 180 11 171:=CF.of (by kernel_rfl)
instance :ER Tryz.prog 187 1 24:=ER.of (by kernel_rfl)
instance :DE Tryz.prog 187:=DE.of (by kernel_rfl)
instance :LK Tryz.prog 187 190:=⟨by kernel_rfl⟩
instance :Fy Tryz.prog 187 34 48:=Fy.of (by kernel_rfl)
instance :ER Tryz.prog 190 34 48:=ER.of (by kernel_rfl)
instance :FL Tryz.prog 190 34:=FL.of (by kernel_rfl)
instance :CV Tryz.prog 190:=CV.of (by kernel_rfl)
instance :Bb Tryz.prog 190 0 0 33:=Bb.of (by kernel_rfl)
instance :CF Tryz.prog 190 0 0:=CF.of (by kernel_rfl)
instance :Bb Tryz.prog 190 1 33 1:=Bb.of (by kernel_rfl)
instance :CF Tryz.prog 190 1 33:=CF.of (by kernel_rfl)
instance :ER Tryz.prog 199 1 24:=ER.of (by kernel_rfl)
instance :DE Tryz.prog 199:=DE.of (by kernel_rfl)
instance :LK Tryz.prog 199 180:=⟨by kernel_rfl⟩
instance :Fy Tryz.prog 199 172 296:=Fy.of (by kernel_rfl)
instance :ER Tryz.prog 206 1 4:=ER.of (by kernel_rfl)
instance :DE Tryz.prog 206:=DE.of (by kernel_rfl)
instance :My Tryz.prog 206 .u32:=⟨by kernel_rfl⟩
instance :ER Tryz.prog 207 8 32:=ER.of (by kernel_rfl)
instance :FL Tryz.prog 207 8:=FL.of (by kernel_rfl)
instance :Uv Tryz.prog 207 8 206:=⟨by kernel_rfl⟩
instance :Ch Tryz.prog 207 (eW (List.replicate 8 0)):=Ch.of (us:=(eW (List.replicate 8 0)).map zv) (by kernel_rfl) (by kernel_rfl)
instance :My Tryz.prog 224 .u64:=⟨by kernel_rfl⟩
instance :My Tryz.prog 235 .u64:=⟨by kernel_rfl⟩
instance :ER Tryz.prog 236 64 256:=ER.of (by kernel_rfl)
instance :FL Tryz.prog 236 64:=FL.of (by kernel_rfl)
instance :Uv Tryz.prog 236 64 206:=⟨by kernel_rfl⟩
instance :Ch Tryz.prog 236 (eW (List.replicate 64 0)):=Ch.of (us:=(eW (List.replicate 64 0)).map zv) (by kernel_rfl) (by kernel_rfl)
instance :ER Tryz.prog 252 1 24:=ER.of (by kernel_rfl)
instance :DE Tryz.prog 252:=DE.of (by kernel_rfl)
instance :LK Tryz.prog 252 254:=⟨by kernel_rfl⟩
instance :Fy Tryz.prog 252 3 48:=Fy.of (by kernel_rfl)
instance :ER Tryz.prog 254 3 48:=ER.of (by kernel_rfl)
instance :FL Tryz.prog 254 3:=FL.of (by kernel_rfl)
instance :CV Tryz.prog 254:=CV.of (by kernel_rfl)
instance :Ch Tryz.prog 254 (eSx Sx.zero):=Ch.of (us:=(eSx Sx.zero).map zv) (by kernel_rfl) (by kernel_rfl)
instance :Bb Tryz.prog 254 0 0 1:=Bb.of (by kernel_rfl)
instance :CF Tryz.prog 254 0 0:=CF.of (by kernel_rfl)
instance :Bb Tryz.prog 254 1 1 1:=Bb.of (by kernel_rfl)
instance :CF Tryz.prog 254 1 1:=CF.of (by kernel_rfl)
instance :Bb Tryz.prog 254 2 2 1:=Bb.of (by kernel_rfl)
instance :CF Tryz.prog 254 2 2:=CF.of (by kernel_rfl)
instance :LK Tryz.prog 292 3:=⟨by kernel_rfl⟩
instance :Fy Tryz.prog 292 1 8:=Fy.of (by kernel_rfl)
instance :ER Tryz.prog 298 1 8:=ER.of (by kernel_rfl)
instance :DE Tryz.prog 298:=DE.of (by kernel_rfl)
instance :CF Tryz.prog 300 0 0:=CF.of (by kernel_rfl)
instance :CF Tryz.prog 300 1 1:=CF.of (by kernel_rfl)
instance :CV Tryz.prog 316:=CV.of (by kernel_rfl)
instance :CF Tryz.prog 316 0 0:=CF.of (by kernel_rfl)
instance :CF Tryz.prog 316 1 1:=CF.of (by kernel_rfl)
instance :Ax Tryz.prog 12:=⟨fun vs w=>AE Tryz.func12 rfl (by decide) vs w⟩
instance :Ax Tryz.prog 13:=⟨fun vs w=>AE Tryz.func13 rfl (by decide) vs w⟩
instance :Ax Tryz.prog 14:=⟨fun vs w=>AE Tryz.func14 rfl (by decide) vs w⟩
instance :Ax Tryz.prog 16:=⟨fun vs w=>AE Tryz.func16 rfl (by decide) vs w⟩
instance :Ax Tryz.prog 18:=⟨fun vs w=>AE Tryz.func18 rfl (by decide) vs w⟩
instance :Ax Tryz.prog 19:=⟨fun vs w=>AE Tryz.func19 rfl (by decide) vs w⟩
instance :Ax Tryz.prog 20:=⟨fun vs w=>AE Tryz.func20 rfl (by decide) vs w⟩
instance :Ax Tryz.prog 21:=⟨fun vs w=>AE Tryz.func21 rfl (by decide) vs w⟩
instance :Ax Tryz.prog 22:=⟨fun vs w=>AE Tryz.func22 rfl (by decide) vs w⟩
instance :Ax Tryz.prog 23:=⟨fun vs w=>AE Tryz.func23 rfl (by decide) vs w⟩
instance :Ax Tryz.prog 24:=⟨fun vs w=>AE Tryz.func24 rfl (by decide) vs w⟩
instance :Ax Tryz.prog 25:=⟨fun vs w=>AE Tryz.func25 rfl (by decide) vs w⟩
instance :Ax Tryz.prog 26:=⟨fun vs w=>AE Tryz.func26 rfl (by decide) vs w⟩
instance :Ax Tryz.prog 27:=⟨fun vs w=>AE Tryz.func27 rfl (by decide) vs w⟩
instance :Ax Tryz.prog 28:=⟨fun vs w=>AE Tryz.func28 rfl (by decide) vs w⟩
instance :Ax Tryz.prog 29:=⟨fun vs w=>AE Tryz.func29 rfl (by decide) vs w⟩
instance :Ax Tryz.prog 33:=⟨fun vs w=>AE Tryz.func33 rfl (by decide) vs w⟩
instance :Ax Tryz.prog 34:=⟨fun vs w=>AE Tryz.func34 rfl (by decide) vs w⟩
instance :Ax Tryz.prog 35:=⟨fun vs w=>AE Tryz.func35 rfl (by decide) vs w⟩
instance :Ax Tryz.prog 36:=⟨fun vs w=>AE Tryz.func36 rfl (by decide) vs w⟩
instance :Ax Tryz.prog 37:=⟨fun vs w=>AE Tryz.func37 rfl (by decide) vs w⟩
instance :Ax Tryz.prog 38:=⟨fun vs w=>AE Tryz.func38 rfl (by decide) vs w⟩
instance :Ax Tryz.prog 39:=⟨fun vs w=>AE Tryz.func39 rfl (by decide) vs w⟩
instance :Ax Tryz.prog 40:=⟨fun vs w=>AE Tryz.func40 rfl (by decide) vs w⟩
instance :Ax Tryz.prog 46:=⟨fun vs w=>AE Tryz.func46 rfl (by decide) vs w⟩
instance :Ax Tryz.prog 47:=⟨fun vs w=>AE Tryz.func47 rfl (by decide) vs w⟩
instance :Ax Tryz.prog 48:=⟨fun vs w=>AE Tryz.func48 rfl (by decide) vs w⟩
instance :Ax Tryz.prog 49:=⟨fun vs w=>AE Tryz.func49 rfl (by decide) vs w⟩
instance :Ax Tryz.prog 50:=⟨fun vs w=>AE Tryz.func50 rfl (by decide) vs w⟩
instance :Ax Tryz.prog 51:=⟨fun vs w=>AE Tryz.func51 rfl (by decide) vs w⟩
instance :Ax Tryz.prog 53:=⟨fun vs w=>AE Tryz.func53 rfl (by decide) vs w⟩
instance :Ax Tryz.prog 54:=⟨fun vs w=>AE Tryz.func54 rfl (by decide) vs w⟩
instance :Ax Tryz.prog 55:=⟨fun vs w=>AE Tryz.func55 rfl (by decide) vs w⟩
instance :Ax Tryz.prog 56:=⟨fun vs w=>AE Tryz.func56 rfl (by decide) vs w⟩
instance :Ax Tryz.prog 59:=⟨fun vs w=>AE Tryz.func59 rfl (by decide) vs w⟩
instance :Ax Tryz.prog 60:=⟨fun vs w=>AE Tryz.func60 rfl (by decide) vs w⟩
instance :Ax Tryz.prog 61:=⟨fun vs w=>AE Tryz.func61 rfl (by decide) vs w⟩
instance :Ax Tryz.prog 62:=⟨fun vs w=>AE Tryz.func62 rfl (by decide) vs w⟩
instance :Ax Tryz.prog 63:=⟨fun vs w=>AE Tryz.func63 rfl (by decide) vs w⟩
instance :Ax Tryz.prog 64:=⟨fun vs w=>AE Tryz.func64 rfl (by decide) vs w⟩
instance :Ax Tryz.prog 65:=⟨fun vs w=>AE Tryz.func65 rfl (by decide) vs w⟩
instance :Ax Tryz.prog 66:=⟨fun vs w=>AE Tryz.func66 rfl (by decide) vs w⟩
instance :Ax Tryz.prog 67:=⟨fun vs w=>AE Tryz.func67 rfl (by decide) vs w⟩
instance :Ax Tryz.prog 68:=⟨fun vs w=>AE Tryz.func68 rfl (by decide) vs w⟩
instance :Ax Tryz.prog 69:=⟨fun vs w=>AE Tryz.func69 rfl (by decide) vs w⟩
instance :Ax Tryz.prog 70:=⟨fun vs w=>AE Tryz.func70 rfl (by decide) vs w⟩
instance :Ax Tryz.prog 71:=⟨fun vs w=>AE Tryz.func71 rfl (by decide) vs w⟩
instance :Ax Tryz.prog 72:=⟨fun vs w=>AE Tryz.func72 rfl (by decide) vs w⟩
instance :Ax Tryz.prog 73:=⟨fun vs w=>AE Tryz.func73 rfl (by decide) vs w⟩
instance :Ax Tryz.prog 74:=⟨fun vs w=>AE Tryz.func74 rfl (by decide) vs w⟩
instance :Ax Tryz.prog 75:=⟨fun vs w=>AE Tryz.func75 rfl (by decide) vs w⟩
instance :Ax Tryz.prog 76:=⟨fun vs w=>AE Tryz.func76 rfl (by decide) vs w⟩
instance :Ax Tryz.prog 80:=⟨fun vs w=>AE Tryz.func80 rfl (by decide) vs w⟩
instance :Ax Tryz.prog 82:=⟨fun vs w=>AE Tryz.func82 rfl (by decide) vs w⟩
instance :Ax Tryz.prog 83:=⟨fun vs w=>AE Tryz.func83 rfl (by decide) vs w⟩
instance :Ax Tryz.prog 84:=⟨fun vs w=>AE Tryz.func84 rfl (by decide) vs w⟩
instance :Ax Tryz.prog 85:=⟨fun vs w=>AE Tryz.func85 rfl (by decide) vs w⟩
instance :Ax Tryz.prog 86:=⟨fun vs w=>AE Tryz.func86 rfl (by decide) vs w⟩
instance :Ax Tryz.prog 87:=⟨fun vs w=>AE Tryz.func87 rfl (by decide) vs w⟩
instance :Ax Tryz.prog 88:=⟨fun vs w=>AE Tryz.func88 rfl (by decide) vs w⟩
instance :Ax Tryz.prog 89:=⟨fun vs w=>AE Tryz.func89 rfl (by decide) vs w⟩
instance :Ax Tryz.prog 90:=⟨fun vs w=>AE Tryz.func90 rfl (by decide) vs w⟩
instance :Ax Tryz.prog 91:=⟨fun vs w=>AE Tryz.func91 rfl (by decide) vs w⟩
instance :Ax Tryz.prog 92:=⟨fun vs w=>AE Tryz.func92 rfl (by decide) vs w⟩
instance :Ax Tryz.prog 93:=⟨fun vs w=>AE Tryz.func93 rfl (by decide) vs w⟩
instance :Ax Tryz.prog 94:=⟨fun vs w=>AE Tryz.func94 rfl (by decide) vs w⟩
instance :Ax Tryz.prog 95:=⟨fun vs w=>AE Tryz.func95 rfl (by decide) vs w⟩
instance :Ax Tryz.prog 96:=⟨fun vs w=>AE Tryz.func96 rfl (by decide) vs w⟩
instance :Ax Tryz.prog 97:=⟨fun vs w=>AE Tryz.func97 rfl (by decide) vs w⟩
instance :Ax Tryz.prog 101:=⟨fun vs w=>AE Tryz.func101 rfl (by decide) vs w⟩
instance :Ax Tryz.prog 102:=⟨fun vs w=>AE Tryz.func102 rfl (by decide) vs w⟩
instance :Ax Tryz.prog 103:=⟨fun vs w=>AE Tryz.func103 rfl (by decide) vs w⟩
instance :Ax Tryz.prog 104:=⟨fun vs w=>AE Tryz.func104 rfl (by decide) vs w⟩
instance :Ax Tryz.prog 105:=⟨fun vs w=>AE Tryz.func105 rfl (by decide) vs w⟩
instance :Ax Tryz.prog 106:=⟨fun vs w=>AE Tryz.func106 rfl (by decide) vs w⟩
instance :Ax Tryz.prog 107:=⟨fun vs w=>AE Tryz.func107 rfl (by decide) vs w⟩
instance :Ax Tryz.prog 108:=⟨fun vs w=>AE Tryz.func108 rfl (by decide) vs w⟩
instance :Ax Tryz.prog 109:=⟨fun vs w=>AE Tryz.func109 rfl (by decide) vs w⟩
instance :Ax Tryz.prog 110:=⟨fun vs w=>AE Tryz.func110 rfl (by decide) vs w⟩
instance :Ax Tryz.prog 111:=⟨fun vs w=>AE Tryz.func111 rfl (by decide) vs w⟩
instance :Ax Tryz.prog 112:=⟨fun vs w=>AE Tryz.func112 rfl (by decide) vs w⟩
instance :Ax Tryz.prog 113:=⟨fun vs w=>AE Tryz.func113 rfl (by decide) vs w⟩
instance :Ax Tryz.prog 114:=⟨fun vs w=>AE Tryz.func114 rfl (by decide) vs w⟩
instance :Ax Tryz.prog 115:=⟨fun vs w=>AE Tryz.func115 rfl (by decide) vs w⟩
instance :Ax Tryz.prog 116:=⟨fun vs w=>AE Tryz.func116 rfl (by decide) vs w⟩
instance :Ax Tryz.prog 117:=⟨fun vs w=>AE Tryz.func117 rfl (by decide) vs w⟩
instance :Ax Tryz.prog 118:=⟨fun vs w=>AE Tryz.func118 rfl (by decide) vs w⟩
instance :Ax Tryz.prog 119:=⟨fun vs w=>AE Tryz.func119 rfl (by decide) vs w⟩
instance :Ax Tryz.prog 120:=⟨fun vs w=>AE Tryz.func120 rfl (by decide) vs w⟩
instance :Ax Tryz.prog 121:=⟨fun vs w=>AE Tryz.func121 rfl (by decide) vs w⟩
instance :Ax Tryz.prog 122:=⟨fun vs w=>AE Tryz.func122 rfl (by decide) vs w⟩
instance :Ax Tryz.prog 123:=⟨fun vs w=>AE Tryz.func123 rfl (by decide) vs w⟩
instance :Ax Tryz.prog 124:=⟨fun vs w=>AE Tryz.func124 rfl (by decide) vs w⟩
instance :Ax Tryz.prog 125:=⟨fun vs w=>AE Tryz.func125 rfl (by decide) vs w⟩
instance :Ax Tryz.prog 126:=⟨fun vs w=>AE Tryz.func126 rfl (by decide) vs w⟩
instance :Ax Tryz.prog 127:=⟨fun vs w=>AE Tryz.func127 rfl (by decide) vs w⟩
instance :Ax Tryz.prog 128:=⟨fun vs w=>AE Tryz.func128 rfl (by decide) vs w⟩
instance :Ax Tryz.prog 129:=⟨fun vs w=>AE Tryz.func129 rfl (by decide) vs w⟩
instance :Ax Tryz.prog 130:=⟨fun vs w=>AE Tryz.func130 rfl (by decide) vs w⟩
instance :Ax Tryz.prog 131:=⟨fun vs w=>AE Tryz.func131 rfl (by decide) vs w⟩
instance :Ax Tryz.prog 132:=⟨fun vs w=>AE Tryz.func132 rfl (by decide) vs w⟩
instance :Ax Tryz.prog 133:=⟨fun vs w=>AE Tryz.func133 rfl (by decide) vs w⟩
instance :Ax Tryz.prog 134:=⟨fun vs w=>AE Tryz.func134 rfl (by decide) vs w⟩
instance :Ax Tryz.prog 135:=⟨fun vs w=>AE Tryz.func135 rfl (by decide) vs w⟩
instance :Ax Tryz.prog 136:=⟨fun vs w=>AE Tryz.func136 rfl (by decide) vs w⟩
instance :Ax Tryz.prog 137:=⟨fun vs w=>AE Tryz.func137 rfl (by decide) vs w⟩
instance :Ax Tryz.prog 141:=⟨fun vs w=>AE Tryz.func141 rfl (by decide) vs w⟩
instance :Ax Tryz.prog 142:=⟨fun vs w=>AE Tryz.func142 rfl (by decide) vs w⟩
instance :Ax Tryz.prog 143:=⟨fun vs w=>AE Tryz.func143 rfl (by decide) vs w⟩
instance :Ax Tryz.prog 144:=⟨fun vs w=>AE Tryz.func144 rfl (by decide) vs w⟩
instance :Ax Tryz.prog 145:=⟨fun vs w=>AE Tryz.func145 rfl (by decide) vs w⟩
instance :Ax Tryz.prog 146:=⟨fun vs w=>AE Tryz.func146 rfl (by decide) vs w⟩
instance :Ax Tryz.prog 147:=⟨fun vs w=>AE Tryz.func147 rfl (by decide) vs w⟩
instance :Ax Tryz.prog 148:=⟨fun vs w=>AE Tryz.func148 rfl (by decide) vs w⟩
instance :Ax Tryz.prog 149:=⟨fun vs w=>AE Tryz.func149 rfl (by decide) vs w⟩
instance :Ax Tryz.prog 150:=⟨fun vs w=>AE Tryz.func150 rfl (by decide) vs w⟩
instance :Ax Tryz.prog 151:=⟨fun vs w=>AE Tryz.func151 rfl (by decide) vs w⟩
instance :Ax Tryz.prog 152:=⟨fun vs w=>AE Tryz.func152 rfl (by decide) vs w⟩
instance :Ax Tryz.prog 153:=⟨fun vs w=>AE Tryz.func153 rfl (by decide) vs w⟩
instance :Ax Tryz.prog 154:=⟨fun vs w=>AE Tryz.func154 rfl (by decide) vs w⟩
instance :Ax Tryz.prog 155:=⟨fun vs w=>AE Tryz.func155 rfl (by decide) vs w⟩
instance :Ax Tryz.prog 156:=⟨fun vs w=>AE Tryz.func156 rfl (by decide) vs w⟩
instance :Ax Tryz.prog 157:=⟨fun vs w=>AE Tryz.func157 rfl (by decide) vs w⟩
instance :Ax Tryz.prog 158:=⟨fun vs w=>AE Tryz.func158 rfl (by decide) vs w⟩
instance :Ax Tryz.prog 159:=⟨fun vs w=>AE Tryz.func159 rfl (by decide) vs w⟩
instance :Ax Tryz.prog 160:=⟨fun vs w=>AE Tryz.func160 rfl (by decide) vs w⟩
instance :Ax Tryz.prog 161:=⟨fun vs w=>AE Tryz.func161 rfl (by decide) vs w⟩
instance :Ax Tryz.prog 162:=⟨fun vs w=>AE Tryz.func162 rfl (by decide) vs w⟩
instance :Ax Tryz.prog 163:=⟨fun vs w=>AE Tryz.func163 rfl (by decide) vs w⟩
instance :Ax Tryz.prog 164:=⟨fun vs w=>AE Tryz.func164 rfl (by decide) vs w⟩
instance :Ax Tryz.prog 165:=⟨fun vs w=>AE Tryz.func165 rfl (by decide) vs w⟩
instance :Ax Tryz.prog 166:=⟨fun vs w=>AE Tryz.func166 rfl (by decide) vs w⟩
instance :Ax Tryz.prog 167:=⟨fun vs w=>AE Tryz.func167 rfl (by decide) vs w⟩
instance :Ax Tryz.prog 168:=⟨fun vs w=>AE Tryz.func168 rfl (by decide) vs w⟩
instance :Ax Tryz.prog 169:=⟨fun vs w=>AE Tryz.func169 rfl (by decide) vs w⟩
instance :Ax Tryz.prog 170:=⟨fun vs w=>AE Tryz.func170 rfl (by decide) vs w⟩
instance :Ax Tryz.prog 171:=⟨fun vs w=>AE Tryz.func171 rfl (by decide) vs w⟩
instance :Ax Tryz.prog 172:=⟨fun vs w=>AE Tryz.func172 rfl (by decide) vs w⟩
instance :Ax Tryz.prog 173:=⟨fun vs w=>AE Tryz.func173 rfl (by decide) vs w⟩
instance :Ax Tryz.prog 174:=⟨fun vs w=>AE Tryz.func174 rfl (by decide) vs w⟩
instance :Ax Tryz.prog 177:=⟨fun vs w=>AE Tryz.func177 rfl (by decide) vs w⟩
instance :Ax Tryz.prog 178:=⟨fun vs w=>AE Tryz.func178 rfl (by decide) vs w⟩
instance :Ax Tryz.prog 179:=⟨fun vs w=>AE Tryz.func179 rfl (by decide) vs w⟩
instance :Ax Tryz.prog 181:=⟨fun vs w=>AE Tryz.func181 rfl (by decide) vs w⟩
instance :Ax Tryz.prog 186:=⟨fun vs w=>AE Tryz.func186 rfl (by decide) vs w⟩
instance :Ax Tryz.prog 187:=⟨fun vs w=>AE Tryz.func187 rfl (by decide) vs w⟩
instance :Ax Tryz.prog 188:=⟨fun vs w=>AE Tryz.func188 rfl (by decide) vs w⟩
instance :Ax Tryz.prog 189:=⟨fun vs w=>AE Tryz.func189 rfl (by decide) vs w⟩
instance :Ax Tryz.prog 190:=⟨fun vs w=>AE Tryz.func190 rfl (by decide) vs w⟩
instance :Ax Tryz.prog 191:=⟨fun vs w=>AE Tryz.func191 rfl (by decide) vs w⟩
instance :Ax Tryz.prog 192:=⟨fun vs w=>AE Tryz.func192 rfl (by decide) vs w⟩
instance :Ax Tryz.prog 193:=⟨fun vs w=>AE Tryz.func193 rfl (by decide) vs w⟩
instance :Ax Tryz.prog 194:=⟨fun vs w=>AE Tryz.func194 rfl (by decide) vs w⟩
instance :Ax Tryz.prog 195:=⟨fun vs w=>AE Tryz.func195 rfl (by decide) vs w⟩
instance :Ax Tryz.prog 196:=⟨fun vs w=>AE Tryz.func196 rfl (by decide) vs w⟩
instance :Ax Tryz.prog 197:=⟨fun vs w=>AE Tryz.func197 rfl (by decide) vs w⟩
instance :Ax Tryz.prog 198:=⟨fun vs w=>AE Tryz.func198 rfl (by decide) vs w⟩
instance :Ax Tryz.prog 199:=⟨fun vs w=>AE Tryz.func199 rfl (by decide) vs w⟩
instance :Ax Tryz.prog 200:=⟨fun vs w=>AE Tryz.func200 rfl (by decide) vs w⟩
instance :Ax Tryz.prog 201:=⟨fun vs w=>AE Tryz.func201 rfl (by decide) vs w⟩
instance :Ax Tryz.prog 202:=⟨fun vs w=>AE Tryz.func202 rfl (by decide) vs w⟩
instance :Ax Tryz.prog 203:=⟨fun vs w=>AE Tryz.func203 rfl (by decide) vs w⟩
instance :Ax Tryz.prog 204:=⟨fun vs w=>AE Tryz.func204 rfl (by decide) vs w⟩
instance :Ax Tryz.prog 205:=⟨fun vs w=>AE Tryz.func205 rfl (by decide) vs w⟩
instance :Ax Tryz.prog 206:=⟨fun vs w=>AE Tryz.func206 rfl (by decide) vs w⟩
instance :Ax Tryz.prog 209:=⟨fun vs w=>AE Tryz.func209 rfl (by decide) vs w⟩
instance :Ax Tryz.prog 210:=⟨fun vs w=>AE Tryz.func210 rfl (by decide) vs w⟩
instance :Ax Tryz.prog 211:=⟨fun vs w=>AE Tryz.func211 rfl (by decide) vs w⟩
instance :Ax Tryz.prog 212:=⟨fun vs w=>AE Tryz.func212 rfl (by decide) vs w⟩
instance :Ax Tryz.prog 213:=⟨fun vs w=>AE Tryz.func213 rfl (by decide) vs w⟩
instance :Ax Tryz.prog 214:=⟨fun vs w=>AE Tryz.func214 rfl (by decide) vs w⟩
instance :Ax Tryz.prog 215:=⟨fun vs w=>AE Tryz.func215 rfl (by decide) vs w⟩
instance :Ax Tryz.prog 216:=⟨fun vs w=>AE Tryz.func216 rfl (by decide) vs w⟩
instance :Ax Tryz.prog 217:=⟨fun vs w=>AE Tryz.func217 rfl (by decide) vs w⟩
instance :Ax Tryz.prog 218:=⟨fun vs w=>AE Tryz.func218 rfl (by decide) vs w⟩
instance :Ax Tryz.prog 219:=⟨fun vs w=>AE Tryz.func219 rfl (by decide) vs w⟩
instance :Ax Tryz.prog 221:=⟨fun vs w=>AE Tryz.func221 rfl (by decide) vs w⟩
instance :Ax Tryz.prog 222:=⟨fun vs w=>AE Tryz.func222 rfl (by decide) vs w⟩
instance :Ax Tryz.prog 223:=⟨fun vs w=>AE Tryz.func223 rfl (by decide) vs w⟩
instance :Ax Tryz.prog 224:=⟨fun vs w=>AE Tryz.func224 rfl (by decide) vs w⟩
instance :Ax Tryz.prog 225:=⟨fun vs w=>AE Tryz.func225 rfl (by decide) vs w⟩
instance :Ax Tryz.prog 228:=⟨fun vs w=>AE Tryz.func228 rfl (by decide) vs w⟩
instance :Ax Tryz.prog 229:=⟨fun vs w=>AE Tryz.func229 rfl (by decide) vs w⟩
instance :Ax Tryz.prog 230:=⟨fun vs w=>AE Tryz.func230 rfl (by decide) vs w⟩
instance :Ax Tryz.prog 231:=⟨fun vs w=>AE Tryz.func231 rfl (by decide) vs w⟩
instance :Ax Tryz.prog 232:=⟨fun vs w=>AE Tryz.func232 rfl (by decide) vs w⟩
instance :Ax Tryz.prog 233:=⟨fun vs w=>AE Tryz.func233 rfl (by decide) vs w⟩
instance :Ax Tryz.prog 244:=⟨fun vs w=>AE Tryz.func244 rfl (by decide) vs w⟩
instance :Ax Tryz.prog 245:=⟨fun vs w=>AE Tryz.func245 rfl (by decide) vs w⟩
instance :Ax Tryz.prog 246:=⟨fun vs w=>AE Tryz.func246 rfl (by decide) vs w⟩
instance :Ax Tryz.prog 247:=⟨fun vs w=>AE Tryz.func247 rfl (by decide) vs w⟩
instance :Ax Tryz.prog 248:=⟨fun vs w=>AE Tryz.func248 rfl (by decide) vs w⟩
instance :Ax Tryz.prog 249:=⟨fun vs w=>AE Tryz.func249 rfl (by decide) vs w⟩
instance :Ax Tryz.prog 250:=⟨fun vs w=>AE Tryz.func250 rfl (by decide) vs w⟩
instance :Ax Tryz.prog 251:=⟨fun vs w=>AE Tryz.func251 rfl (by decide) vs w⟩
instance :Ax Tryz.prog 252:=⟨fun vs w=>AE Tryz.func252 rfl (by decide) vs w⟩
instance :Ax Tryz.prog 253:=⟨fun vs w=>AE Tryz.func253 rfl (by decide) vs w⟩
instance :Ax Tryz.prog 254:=⟨fun vs w=>AE Tryz.func254 rfl (by decide) vs w⟩
instance :Ax Tryz.prog 255:=⟨fun vs w=>AE Tryz.func255 rfl (by decide) vs w⟩
instance :Ax Tryz.prog 256:=⟨fun vs w=>AE Tryz.func256 rfl (by decide) vs w⟩
instance :Ax Tryz.prog 257:=⟨fun vs w=>AE Tryz.func257 rfl (by decide) vs w⟩
instance :Ax Tryz.prog 258:=⟨fun vs w=>AE Tryz.func258 rfl (by decide) vs w⟩
instance :Ax Tryz.prog 259:=⟨fun vs w=>AE Tryz.func259 rfl (by decide) vs w⟩
instance :Ax Tryz.prog 261:=⟨fun vs w=>AE Tryz.func261 rfl (by decide) vs w⟩
instance :Ax Tryz.prog 262:=⟨fun vs w=>AE Tryz.func262 rfl (by decide) vs w⟩
instance :Ax Tryz.prog 263:=⟨fun vs w=>AE Tryz.func263 rfl (by decide) vs w⟩
instance :Ax Tryz.prog 264:=⟨fun vs w=>AE Tryz.func264 rfl (by decide) vs w⟩
instance :Ax Tryz.prog 265:=⟨fun vs w=>AE Tryz.func265 rfl (by decide) vs w⟩
instance :Ax Tryz.prog 266:=⟨fun vs w=>AE Tryz.func266 rfl (by decide) vs w⟩
instance :Ax Tryz.prog 267:=⟨fun vs w=>AE Tryz.func267 rfl (by decide) vs w⟩
instance :Ax Tryz.prog 268:=⟨fun vs w=>AE Tryz.func268 rfl (by decide) vs w⟩
instance :Ax Tryz.prog 269:=⟨fun vs w=>AE Tryz.func269 rfl (by decide) vs w⟩
instance :Ax Tryz.prog 270:=⟨fun vs w=>AE Tryz.func270 rfl (by decide) vs w⟩
instance :Ax Tryz.prog 271:=⟨fun vs w=>AE Tryz.func271 rfl (by decide) vs w⟩
instance :Ax Tryz.prog 274:=⟨fun vs w=>AE Tryz.func274 rfl (by decide) vs w⟩
instance :Ax Tryz.prog 275:=⟨fun vs w=>AE Tryz.func275 rfl (by decide) vs w⟩
instance :Ax Tryz.prog 276:=⟨fun vs w=>AE Tryz.func276 rfl (by decide) vs w⟩
instance :Ax Tryz.prog 282:=⟨fun vs w=>AE Tryz.func282 rfl (by decide) vs w⟩
instance :Ax Tryz.prog 283:=⟨fun vs w=>AE Tryz.func283 rfl (by decide) vs w⟩
instance :Ax Tryz.prog 284:=⟨fun vs w=>AE Tryz.func284 rfl (by decide) vs w⟩
instance :Ax Tryz.prog 285:=⟨fun vs w=>AE Tryz.func285 rfl (by decide) vs w⟩
instance :Ax Tryz.prog 286:=⟨fun vs w=>AE Tryz.func286 rfl (by decide) vs w⟩
instance :Ax Tryz.prog 287:=⟨fun vs w=>AE Tryz.func287 rfl (by decide) vs w⟩
instance :Ax Tryz.prog 288:=⟨fun vs w=>AE Tryz.func288 rfl (by decide) vs w⟩
instance :Ax Tryz.prog 289:=⟨fun vs w=>AE Tryz.func289 rfl (by decide) vs w⟩
instance :Ax Tryz.prog 290:=⟨fun vs w=>AE Tryz.func290 rfl (by decide) vs w⟩
instance :Ax Tryz.prog 291:=⟨fun vs w=>AE Tryz.func291 rfl (by decide) vs w⟩
instance :Ax Tryz.prog 292:=⟨fun vs w=>AE Tryz.func292 rfl (by decide) vs w⟩
instance :Ax Tryz.prog 293:=⟨fun vs w=>AE Tryz.func293 rfl (by decide) vs w⟩
instance :Ax Tryz.prog 294:=⟨fun vs w=>AE Tryz.func294 rfl (by decide) vs w⟩
instance :Ax Tryz.prog 295:=⟨fun vs w=>AE Tryz.func295 rfl (by decide) vs w⟩
instance :Ax Tryz.prog 296:=⟨fun vs w=>AE Tryz.func296 rfl (by decide) vs w⟩
instance :Ax Tryz.prog 297:=⟨fun vs w=>AE Tryz.func297 rfl (by decide) vs w⟩
instance :Ax Tryz.prog 298:=⟨fun vs w=>AE Tryz.func298 rfl (by decide) vs w⟩
instance :Ax Tryz.prog 299:=⟨fun vs w=>AE Tryz.func299 rfl (by decide) vs w⟩
instance :Ax Tryz.prog 300:=⟨fun vs w=>AE Tryz.func300 rfl (by decide) vs w⟩
instance :Ax Tryz.prog 301:=⟨fun vs w=>AE Tryz.func301 rfl (by decide) vs w⟩
instance :Ax Tryz.prog 302:=⟨fun vs w=>AE Tryz.func302 rfl (by decide) vs w⟩
instance :Ax Tryz.prog 303:=⟨fun vs w=>AE Tryz.func303 rfl (by decide) vs w⟩
instance :Ax Tryz.prog 304:=⟨fun vs w=>AE Tryz.func304 rfl (by decide) vs w⟩
instance :Ax Tryz.prog 305:=⟨fun vs w=>AE Tryz.func305 rfl (by decide) vs w⟩
instance :Ax Tryz.prog 306:=⟨fun vs w=>AE Tryz.func306 rfl (by decide) vs w⟩
instance :Ax Tryz.prog 307:=⟨fun vs w=>AE Tryz.func307 rfl (by decide) vs w⟩
instance :Ax Tryz.prog 308:=⟨fun vs w=>AE Tryz.func308 rfl (by decide) vs w⟩
instance :Ax Tryz.prog 309:=⟨fun vs w=>AE Tryz.func309 rfl (by decide) vs w⟩
instance :Ax Tryz.prog 310:=⟨fun vs w=>AE Tryz.func310 rfl (by decide) vs w⟩
instance :Ax Tryz.prog 313:=⟨fun vs w=>AE Tryz.func313 rfl (by decide) vs w⟩
instance :Ax Tryz.prog 314:=⟨fun vs w=>AE Tryz.func314 rfl (by decide) vs w⟩
instance :Ax Tryz.prog 315:=⟨fun vs w=>AE Tryz.func315 rfl (by decide) vs w⟩
instance :Ax Tryz.prog 316:=⟨fun vs w=>AE Tryz.func316 rfl (by decide) vs w⟩
instance :Ax Tryz.prog 317:=⟨fun vs w=>AE Tryz.func317 rfl (by decide) vs w⟩
instance :Ax Tryz.prog 318:=⟨fun vs w=>AE Tryz.func318 rfl (by decide) vs w⟩
instance :Ax Tryz.prog 319:=⟨fun vs w=>AE Tryz.func319 rfl (by decide) vs w⟩
instance :Ax Tryz.prog 320:=⟨fun vs w=>AE Tryz.func320 rfl (by decide) vs w⟩
instance :Ax Tryz.prog 321:=⟨fun vs w=>AE Tryz.func321 rfl (by decide) vs w⟩
instance :Ax Tryz.prog 322:=⟨fun vs w=>AE Tryz.func322 rfl (by decide) vs w⟩
instance :Ax Tryz.prog 323:=⟨fun vs w=>AE Tryz.func323 rfl (by decide) vs w⟩
instance :Ax Tryz.prog 324:=⟨fun vs w=>AE Tryz.func324 rfl (by decide) vs w⟩
instance :Ax Tryz.prog 325:=⟨fun vs w=>AE Tryz.func325 rfl (by decide) vs w⟩
instance :Ax Tryz.prog 326:=⟨fun vs w=>AE Tryz.func326 rfl (by decide) vs w⟩
instance :Ax Tryz.prog 327:=⟨fun vs w=>AE Tryz.func327 rfl (by decide) vs w⟩
instance :Ax Tryz.prog 328:=⟨fun vs w=>AE Tryz.func328 rfl (by decide) vs w⟩
instance :Ax Tryz.prog 329:=⟨fun vs w=>AE Tryz.func329 rfl (by decide) vs w⟩
instance :Ax Tryz.prog 330:=⟨fun vs w=>AE Tryz.func330 rfl (by decide) vs w⟩
instance :Ax Tryz.prog 339:=⟨fun vs w=>AE Tryz.func339 rfl (by decide) vs w⟩
instance :Ax Tryz.prog 340:=⟨fun vs w=>AE Tryz.func340 rfl (by decide) vs w⟩
instance :Ax Tryz.prog 341:=⟨fun vs w=>AE Tryz.func341 rfl (by decide) vs w⟩
instance :Ax Tryz.prog 344:=⟨fun vs w=>AE Tryz.func344 rfl (by decide) vs w⟩
instance :Ax Tryz.prog 348:=⟨fun vs w=>AE Tryz.func348 rfl (by decide) vs w⟩
attribute [local irreducible] EG AY B2 FZ
instance uA (a b:Dig):Bl Tryz.prog 121 [.agg (eDig a),.agg (eDig b)] (.raw (.int .i64 (Dh a b))):=⟨by
 refine Ak Tryz.func121 Tryz.ntmps121 rfl (rs:= [.tmp 4]) rfl rfl fun hb LF=>?_
 refine DB fun p=>?_
 refine FI fun q=>?_
 refine AW (σ:=Nat) (fun k=>k≤32∧ ∀ i,i < k→a.at i=b.at i) (fun k=>32 - k) (fun k=> [(2,.raw (.pointer (some ⟨p,0,none⟩))),(3,.raw (.pointer (some ⟨q,0,none⟩))),(5,.raw (.int .i64 k))]) (fun _=> .box q 45 (eDig b):: .box p 45 (eDig a)::LF) 0 ⟨by simp,by simp⟩ ⟨rfl,rfl,rfl⟩ (.refl _) ?_
 rintro k ⟨hk,he⟩
 refine Ad ?_
 refine A1 (fun hc=>?_) (fun hc=>?_)
 ·refine Ad ?_
  refine A1 (fun h1=>?_) (fun h1=>?_)
  ·refine Ad ?_
   refine Ah (.of_eq ?_)
   have h2:a.at k < b.at k:=by rw[UInt8.lt_iff_toNat_lt];omega
   rw[dr (by omega) he (fun e=>by rw[e]at h2;exact UInt8.lt_irrefl _ h2),if_pos h2]
  ·refine Ad ?_
   refine A1 (fun h2=>?_) (fun h2=>?_)
   ·refine Ad ?_
    refine Ah (.of_eq ?_)
    have h3: ¬a.at k < b.at k:=by rw[UInt8.lt_iff_toNat_lt];omega
    rw[dr (by omega) he (fun e=>by rw[e]at h2;omega),if_neg h3]
   ·refine Ad ?_
    refine⟨k+1,⟨by omega,fun i hi=>?_⟩,by dsimp only;omega,⟨rfl,rfl,rfl⟩,.refl _⟩
    rcases BB i k with h'|h'
    ·exact he i h'
    ·have:i=k:=by omega
     subst this
     exact UInt8.toNat.inj (by omega)
 ·refine Ad ?_
  refine Ah (.of_eq ?_)
  rw[MB.2 (Dig.ext_at fun i hi=>he i (by omega))]⟩
instance xf (a:Dig):Bl Tryz.prog 170 [.agg (eDig a)] (.raw (.bool (decide (a=Dig.zero)))):=⟨by
 refine Ak Tryz.func170 Tryz.ntmps170 rfl (rs:= [.tmp 2]) rfl rfl fun hb LF=>?_
 refine DB fun p=>?_
 exact⟨trivial,_,[],.cons (.tmp 2) .nil,.cons _ (.refl _),.refl _,rfl⟩⟩
instance xP (l m:List Dig) (t u:CW):Bl Tryz.prog 33 [.slice (l.map eDig) t,.slice (m.map eDig) u] (.raw (.bool (decide (l=m)))):=⟨by
 refine Ak Tryz.func33 Tryz.ntmps33 rfl (rs:= [.tmp 4]) rfl rfl fun hb LF=>?_
 have hlen:l.length≤140737488355328:=(hb (.slice (l.map eDig) t) (by simp)).slice_map
 refine Ad ?_
 refine AL (fun h1=>?_) (fun h1=>?_)
 ·refine Ad ?_
  refine Ah (.of_eq ?_)
  have: ¬l=m:=fun e=>h1 (by rw[e])
  simp[this]
 ·refine Ad ?_
  have hl:l.length=m.length:=by omega
  refine AW (σ:=Nat) (fun k=>k≤l.length∧l.take k=m.take k) (fun k=>l.length - k) (fun k=> [(0,.slice (l.map eDig) t),(1,.slice (m.map eDig) u),(5,.raw (.int .i64 k))]) (fun _=>LF) 0 ⟨by simp,by simp⟩ ⟨rfl,rfl,rfl⟩ (.refl _) ?_
  rintro k ⟨hk,he⟩
  refine Ad ?_
  refine A1 (fun hc=>?_) (fun hc=>?_)
  ·refine Ad ?_
   refine AL (fun h2=>?_) (fun h2=>?_)
   ·refine Ad ?_
    refine Ah (.of_eq ?_)
    have: ¬l=m:=fun e=>h2 (by simp[e])
    simp[this]
   ·refine Ad ?_
    refine⟨k+1,⟨by omega,?_⟩,by dsimp only;omega,⟨rfl,rfl,rfl⟩,.refl _⟩
    rw[A6 (by omega),A6 (by omega),he,h2]
  ·refine Ad ?_
   refine Ah (.of_eq ?_)
   have:l=m:=by
    rw[AA (by omega),AA (by omega)]at he
    exact he
   simp[this]⟩
instance yz (l:List Dig) (d:Dig) (t:CW):Bl Tryz.prog 82 [.slice (l.map eDig) t,.agg (eDig d)] (.raw (.bool (decide (d∈l)))):=⟨by
 refine Ak Tryz.func82 Tryz.ntmps82 rfl (rs:= [.tmp 4]) rfl rfl fun hb LF=>?_
 have hlen:l.length≤140737488355328:=(hb (.slice (l.map eDig) t) (by simp)).slice_map
 refine DB fun b=>?_
 refine AW (σ:=Nat) (fun k=>k≤l.length∧ ∀ i (h:i < l.length),i < k→d≠l[i]) (fun k=>l.length - k) (fun k=> [(0,.slice (l.map eDig) t),(3,.raw (.pointer (some ⟨b,0,none⟩))),(5,.raw (.int .i64 k))]) (fun _=> .box b 45 (eDig d)::LF) 0 ⟨by simp,by simp⟩ ⟨rfl,rfl,rfl⟩ (.refl _) ?_
 rintro k ⟨hk,hne⟩
 refine Ad ?_
 refine A1 (fun hc=>?_) (fun hc=>?_)
 ·refine Ad ?_
  refine A1 (fun he=>?_) (fun he=>?_)
  ·refine Ad ?_;refine Ah (.of_eq ?_)
   have:d∈l:=he ▸ AK _
   simp[this]
  ·refine Ad ?_
   refine⟨k+1,⟨by omega,fun i h hi=>?_⟩,by dsimp only;omega,⟨rfl,rfl,rfl⟩,.refl _⟩
   rcases BB i k with h'|h'
   ·exact hne i h h'
   ·have:i=k:=by omega
    subst this;exact fun e=>he e.symm
 ·refine Ad ?_;refine Ah (.of_eq ?_)
  have: ¬d∈l:=fun h=>by
   obtain⟨i,hi,e⟩:=AX.1 h
   exact hne i hi (by omega) e.symm
  simp[this]⟩
def Ca (l m:List Dig):Bool:=m.all (fun x=>decide (x∈l))
instance yt (l m:List Dig) (t u:CW):Bl Tryz.prog 122 [.slice (l.map eDig) t,.slice (m.map eDig) u] (.raw (.bool (Ca l m))):=⟨by
 refine Ak Tryz.func122 Tryz.ntmps122 rfl (rs:= [.tmp 4]) rfl rfl fun hb LF=>?_
 have hlen:m.length≤140737488355328:=(hb (.slice (m.map eDig) u) (by simp)).slice_map
 refine Ad ?_
 refine AW (σ:=Nat) (fun k=>k≤m.length∧ ∀ i (h:i < m.length),i < k→m[i]∈l) (fun k=>m.length - k) (fun k=> [(0,.slice (l.map eDig) t),(1,.slice (m.map eDig) u),(5,.raw (.int .i64 k))]) (fun _=>LF) 0 ⟨by simp,by simp⟩ ⟨rfl,rfl,rfl⟩ (.refl _) ?_
 rintro k ⟨hk,hne⟩
 refine Ad ?_
 refine A1 (fun hc=>?_) (fun hc=>?_)
 ·refine Ad ?_
  refine AL (fun he=>?_) (fun he=>?_)
  ·refine Ad ?_;refine Ah (.of_eq ?_)
   have:Ca l m=false:=by
    unfold Ca;rw[Lj];exact⟨_,AK _,by simpa using he⟩
   rw[this]
  ·refine Ad ?_
   refine⟨k+1,⟨by omega,fun i h hi=>?_⟩,by dsimp only;omega,⟨rfl,rfl,rfl⟩,.refl _⟩
   rcases BB i k with h'|h'
   ·exact hne i h h'
   ·have:i=k:=by omega
    subst this;exact he
 ·refine Ad ?_;refine Ah (.of_eq ?_)
  have:Ca l m=true:=by
   unfold Ca;rw[Ar];intro x hx
   obtain⟨i,hi,rfl⟩:=AX.1 hx
   simpa using hne i hi (by omega)
  rw[this]⟩
def ids (s:List Sto):List Dig:=s.map (·.id)
instance yx (s:List Sto) (t:CW):Bl Tryz.prog 80 [.slice (s.map eSto) t] (.slice ((ids s).map eDig) .ro):=⟨by
 refine Ak Tryz.func80 Tryz.ntmps80 rfl (rs:= [.tmp 2]) rfl rfl fun hb LF=>?_
 have hlen:s.length*37≤140737488355328:=(hb (.slice (s.map eSto) t) (by simp)).slice_cells
 refine Ad ?_
 refine Ee 32 ?_
 refine AW (σ:=Nat × CW) (fun k=>k.1≤s.length) (fun k=>s.length - k.1) (fun k=> [(0,.slice (s.map eSto) t),(3,.slice ((ids (s.take k.1)).map eDig) k.2),(4,.raw (.int .i64 k.1))]) (fun k=> .tok k.2 (ids (s.take k.1)).length 32::LF) (0,.nil) (by simp) ⟨rfl,rfl,rfl⟩ (.refl _) ?_
 rintro⟨k,u⟩ hk
 dsimp only at hk
 refine Ad ?_
 refine A1 (fun hc=>?_) (fun hc=>?_)
 ·have hl:(ids (s.take k)).length=k:=by simp[ids];omega
  refine Hh fun v=>?_
  have e:ids (s.take (k+1))=ids (s.take k)++ [s[k].id]:=by
   rw[A6 (by omega)];simp only[ids,Az,BG,CY]
  refine⟨(k+1,v),by dsimp only;omega,by dsimp only;omega,⟨rfl,by dsimp only;rw[e];rfl,rfl⟩,by dsimp only;rw[e];exact .refl _⟩
 ·refine Ad ?_
  refine Ah (.ros ?_)
  rw[AA (by omega)]⟩
def getS:List Sto→Dig→Option Pat
 | [],_=>none
 |x::s,d=>if x.id=d then some x.patch else getS s d
theorem fk {s:List Sto} {d:Dig} (h: ∀ i (h:i < s.length),s[i].id≠d):getS s d=none:=by
 induction s with
 |nil=>rfl
 |cons x s ih=>
  have h0:=h 0 (by simp)
  simp only[B9]at h0
  simp only[getS,h0,if_false]
  exact ih fun i hi=>by have:=h (i+1) (by simpa using hi);simpa using this
theorem fj {s:List Sto} {d:Dig} {k:Nat} (hk:k < s.length) (h: ∀ i (h:i < s.length),i < k→s[i].id≠d) (he:s[k].id=d):getS s d=some s[k].patch:=by
 induction s generalizing k with
 |nil=>simp at hk
 |cons x s ih=>
  cases k with
  |zero=>simp only[B9]at he ⊢;simp[getS,he]
  |succ k=>
   have h0:=h 0 (by simp) (by omega)
   simp only[B9]at h0
   simp only[getS,h0,if_false,Cn]
   exact ih (by simpa using hk) (fun i hi hik=>by have:=h (i+1) (by simpa using hi) (by omega);simpa using this) (by simpa using he)
def oG (o:Option Pat):PV:= .tuple [.agg (CP (o.getD Pat.zero)),.raw (.bool o.isSome)]
instance Xn (s:List Sto) (d:Dig) (t:CW):Bl Tryz.prog 25 [.slice (s.map eSto) t,.agg (eDig d)] (oG (getS s d)):=⟨by
 refine Ak Tryz.func25 Tryz.ntmps25 rfl (rs:= [.cell 4 42,.tmp 5]) rfl rfl fun hb LF=>?_
 have hlen:s.length≤140737488355328:=(hb (.slice (s.map eSto) t) (by simp)).slice_map
 refine DB fun b=>?_
 refine FI fun r=>?_
 refine AW (σ:=Nat) (fun k=>k≤s.length∧ ∀ i (h:i < s.length),i < k→s[i].id≠d) (fun k=>s.length - k) (fun k=> [(0,.slice (s.map eSto) t),(3,.raw (.pointer (some ⟨b,0,none⟩))),(4,.raw (.pointer (some ⟨r,0,none⟩))),(6,.raw (.int .i64 k))]) (fun _=> .box r 42 (CP Pat.zero):: .box b 45 (eDig d)::LF) 0 ⟨by simp,by simp⟩ ⟨rfl,rfl,rfl,rfl⟩ (.refl _) ?_
 rintro k ⟨hk,hne⟩
 refine Ad ?_
 refine A1 (fun hc=>?_) (fun hc=>?_)
 ·refine Ad ?_
  refine A1 (fun he=>?_) (fun he=>?_)
  ·refine Ad ?_
   refine DX rfl (.of_eq ?_)
   rw[fj (by omega) hne he];rfl
  ·refine Ad ?_
   refine⟨k+1,⟨by omega,fun i h hi=>?_⟩,by dsimp only;omega,⟨rfl,rfl,rfl,rfl⟩,.refl _⟩
   rcases BB i k with h'|h'
   ·exact hne i h h'
   ·have:i=k:=by omega
    subst this;exact he
 ·refine Ad ?_
  refine DX rfl (.of_eq ?_)
  rw[fk fun i h=>hne i h (by omega)];rfl⟩
set_option maxHeartbeats 1000000 in
instance yI (l:List Dig) (d:Dig) (t:CW) [hs:B3 (l.length≤1000000)]:Bl Tryz.prog 83 [.slice (l.map eDig) t,.agg (eDig d)] (.slice ((Gn l d).map eDig) .ro):=⟨by
 refine Ak Tryz.func83 Tryz.ntmps83 rfl (rs:= [.tmp 4]) rfl rfl fun hb LF=>?_
 have hlen:l.length≤1000000:=hs.out
 refine DB fun b=>?_
 refine AW (σ:=Nat) (fun k=>k≤l.length∧ ∀ i (h:i < l.length),i < k→Dig.lt l[i] d) (fun k=>l.length - k) (fun k=> [(0,.slice (l.map eDig) t),(3,.raw (.pointer (some ⟨b,0,none⟩))),(5,.raw (.int .i64 k))]) (fun _=> .box b 45 (eDig d)::LF) 0 ⟨by simp,by simp⟩ ⟨rfl,rfl,rfl⟩ (.refl _) ?_
 rintro k ⟨hk,hne⟩
 refine Ad ?_
 refine An (fun hp=>?_) (fun hp=>?_)
 ·have hc:(k:Int) < l.length:=Ab hp
  refine Bz ?_
  refine A1 (fun h1=>?_) (fun h1=>?_)
  ·refine Ad ?_
   refine⟨k+1,⟨by omega,fun i h hi=>?_⟩,by dsimp only;omega,⟨rfl,rfl,rfl⟩,.refl _⟩
   rcases BB i k with h'|h'
   ·exact hne i h h'
   ·have:i=k:=by omega
    subst this;exact h1
  ·refine Ad ?_
   refine A1 (fun h2=>?_) (fun h2=>?_)
   ·refine Ad ?_
    refine Ah (.ros ?_)
    rw[Pr hk hne (fun _=>h1),if_pos ⟨by omega,h2⟩]
   ·refine Hh fun t1=>?_
    refine IB fun t2=>?_
    refine IB fun t3=>?_
    refine Ah (.ros ?_)
    rw[Pr hk hne (fun _=>h1),if_neg (fun⟨_,e⟩=>h2 e)]
    simp
 ·have hc: ¬(k:Int) < l.length:=BJ hp
  refine Bz ?_
  refine IB fun t1=>?_
  refine IB fun t2=>?_
  refine IB fun t3=>?_
  refine Ah (.ros ?_)
  rw[Pr hk hne (fun h=>absurd (show(k:Int) < l.length by omega) hc),if_neg (fun⟨h,_⟩=>hc (by omega))]
  simp⟩
def Sw (k:Int):Int:=if k=7 then 0 else k
def J7 (k:Int):Bool:=decide (k=5)||decide (k=6)
def HB (x:Ident):Bool:=!decide (x.patch=Dig.zero)
def rDirectory (x:Atm):Bool:=decide (x.kind=1)&&decide (x.type=4)
def Dq (x:Ident) (n:Int):Bool:=if x.patch=Dig.zero then decide (0≤x.n)&&decide (x.n < n)else decide (0≤x.n)&&decide (x.n < 100000)
def EL (k:Int) (x:Atm):Bool:=if x.kind≠1 then false else if J7 k then decide (x.type=1)else !decide (k=4)||decide (x.type=2)||decide (x.type=3)
def Jg (f:Ident) (x:Atm):Bool:=decide (x.kind=5)&&decide (x.file=f)
instance y1:Bl Tryz.prog 339 [] (.agg (eIdent Ident.zero)):=⟨by
 refine Ak Tryz.func339 Tryz.ntmps339 rfl (rs:= [.cell 0 98]) rfl rfl fun hb LF=>?_
 refine DB fun b=>?_
 exact FW rfl (.refl _)⟩
instance yK:Bl Tryz.prog 202 [] (.agg (eIdent ⟨Dig.zero,-1⟩)):=⟨by
 refine Ak Tryz.func202 Tryz.ntmps202 rfl (rs:= [.cell 0 98]) rfl rfl fun hb LF=>?_
 refine DB fun b=>?_
 exact FW rfl (.refl _)⟩
instance xk (k:Int):Bl Tryz.prog 259 [.raw (.int .i64 k)] (.raw (.int .i64 (Sw k))):=⟨by
 refine Ak Tryz.func259 Tryz.ntmps259 rfl (rs:= [.tmp 2]) rfl rfl fun hb LF=>?_
 refine Ad ?_
 refine A1 (fun h=>?_) (fun h=>?_)
 ·refine Ad ?_
  refine Ah (.of_eq ?_)
  simp[Sw,h]
 ·refine Ad ?_
  refine Ah (.of_eq ?_)
  simp[Sw,h]⟩
instance xr (k:Int):Bl Tryz.prog 257 [.raw (.int .i64 k)] (.raw (.bool (J7 k))):=⟨by
 refine Ak Tryz.func257 Tryz.ntmps257 rfl (rs:= [.tmp 2]) rfl rfl fun hb LF=>?_
 refine Ad ?_
 refine An (fun hp=>?_) (fun hp=>?_)
 ·refine Bz ?_
  refine Ah (.of_eq ?_)
  simp_all[J7]
 ·refine Bz ?_
  refine Ah (.of_eq ?_)
  simp_all[J7]⟩
instance wC (x:Ident):Bl Tryz.prog 213 [.agg (eIdent x)] (.raw (.bool (HB x))):=⟨by
 refine Ak Tryz.func213 Tryz.ntmps213 rfl (rs:= [.tmp 2]) rfl rfl fun hb LF=>?_
 refine DB fun b=>?_
 refine Ah (.of_eq ?_)
 rfl⟩
instance pK (x:Atm):Bl Tryz.prog 216 [.agg (eAtm x)] (.raw (.bool (rDirectory x))):=⟨by
 refine Ak Tryz.func216 Tryz.ntmps216 rfl (rs:= [.tmp 2]) rfl rfl fun hb LF=>?_
 refine DB fun b=>?_
 refine An (fun hp=>?_) (fun hp=>?_)
 ·refine Bz ?_
  refine Ah (.of_eq ?_)
  simp_all[rDirectory]
 ·refine Bz ?_
  refine Ah (.of_eq ?_)
  simp_all[rDirectory]⟩
instance tn (x:Ident) (n:Int):Bl Tryz.prog 341 [.agg (eIdent x),.raw (.int .i64 n)] (.raw (.bool (Dq x n))):=⟨by
 refine Ak Tryz.func341 Tryz.ntmps341 rfl (rs:= [.tmp 4]) rfl rfl fun hb LF=>?_
 refine DB fun b=>?_
 refine A1 (fun h=>?_) (fun h=>?_)
 ·refine Ad ?_
  refine An (fun hp=>?_) (fun hp=>?_)
  ·refine Bz ?_
   refine Ah (.of_eq ?_)
   simp_all[Dq]<;>omega
  ·refine Bz ?_
   refine Ah (.of_eq ?_)
   simp_all[Dq]<;>omega
 ·refine Ad ?_
  refine An (fun hp=>?_) (fun hp=>?_)
  ·refine Bz ?_
   refine Ah (.of_eq ?_)
   simp_all[Dq]<;>omega
  ·refine Bz ?_
   refine Ah (.of_eq ?_)
   simp_all[Dq]<;>omega⟩
instance rZ (k:Int) (x:Atm):Bl Tryz.prog 215 [.raw (.int .i64 k),.agg (eAtm x)] (.raw (.bool (EL k x))):=⟨by
 refine Ak Tryz.func215 Tryz.ntmps215 rfl (rs:= [.tmp 4]) rfl rfl fun hb LF=>?_
 refine DB fun b=>?_
 refine AL (fun h=>?_) (fun h=>?_)
 ·refine Ad ?_
  refine Ah (.of_eq ?_)
  simp[EL,h]
 ·refine Ad ?_
  refine AO (fun h2=>?_) (fun h2=>?_)
  ·refine Ad ?_
   refine Ah (.of_eq ?_)
   simp[EL,h,h2]
  ·refine Ad ?_
   refine An (fun hp=>?_) (fun hp=>?_)
   ·refine Bz ?_
    refine Ah (.of_eq ?_)
    simp_all[EL]
   ·refine Bz ?_
    refine An (fun hq=>?_) (fun hq=>?_)
    ·refine Bz ?_
     refine Ah (.of_eq ?_)
     simp_all[EL]
    ·refine Bz ?_
     refine Ah (.of_eq ?_)
     simp_all[EL]⟩
instance u5 (f:Ident) (x:Atm):Bl Tryz.prog 258 [.agg (eIdent f),.agg (eAtm x)] (.raw (.bool (Jg f x))):=⟨by
 refine Ak Tryz.func258 Tryz.ntmps258 rfl (rs:= [.tmp 4]) rfl rfl fun hb LF=>?_
 refine DB fun b=>?_
 refine FI fun b2=>?_
 refine An (fun hp=>?_) (fun hp=>?_)
 ·refine Bz ?_
  refine Ah (.of_eq ?_)
  simp_all[Jg]
 ·refine Bz ?_
  refine Ah (.of_eq ?_)
  simp_all[Jg]⟩
def HL (k:Int) (f:Ident) (x:Atm):Bool:=decide (Sw k=0)||decide (x.kind=Sw k)&&decide (x.file=f)
def Jf (x:Ident) (own:List Atm) (fits:Bool):Int:=if Dq x own.length=false then 7 else if x.patch=Dig.zero∧fits=false then 8 else 0
def Lr (own:List Atm) (x:Ident):Atm:=if x.patch=Dig.zero∧0≤x.n then own.getD x.n.toNat Atm.zero else Atm.zero
def HN (x:Ident) (d:Dig):Ident:=if 0≤x.n∧x.patch=Dig.zero then { x with patch:=d }else x
def Dp (x:Ident) (d:Dig):Ident:=if x.patch=Dig.zero∧0≤x.n then { x with patch:=d }else x
instance rY (k:Int) (f:Ident) (x:Atm):Bl Tryz.prog 218 [.raw (.int .i64 k),.agg (eIdent f),.agg (eAtm x)] (.raw (.bool (HL k f x))):=⟨by
 refine Ak Tryz.func218 Tryz.ntmps218 rfl (rs:= [.tmp 6]) rfl rfl fun hb LF=>?_
 refine DB fun b=>?_
 refine FI fun b2=>?_
 refine An (fun hp=>?_) (fun hp=>?_)
 ·refine Bz ?_
  refine Ah (.of_eq ?_)
  simp_all[HL]
 ·refine Bz ?_
  refine An (fun hq=>?_) (fun hq=>?_)
  ·refine Bz ?_
   refine Ah (.of_eq ?_)
   simp_all[HL]
  ·refine Bz ?_
   refine Ah (.of_eq ?_)
   simp_all[HL]⟩
instance yl (x:Ident) (own:List Atm) (t:CW) (fits:Bool):Bl Tryz.prog 317 [.agg (eIdent x),.slice (own.map eAtm) t,.raw (.bool fits)] (.raw (.int .i64 (Jf x own fits))):=⟨by
 refine Ak Tryz.func317 Tryz.ntmps317 rfl (rs:= [.tmp 6]) rfl rfl fun hb LF=>?_
 refine DB fun b=>?_
 refine AO (fun h=>?_) (fun h=>?_)
 ·refine Ad ?_
  refine Ah (.of_eq ?_)
  simp_all[Jf]
 ·refine Ad ?_
  refine An (fun hp=>?_) (fun hp=>?_)
  ·refine Bz ?_
   refine AO (fun h2=>?_) (fun h2=>?_)
   ·refine Ad ?_
    refine Ah (.of_eq ?_)
    simp_all[Jf]
   ·refine Ad ?_
    refine Ah (.of_eq ?_)
    simp_all[Jf]
  ·refine Bz ?_
   refine Ah (.of_eq ?_)
   simp_all[Jf]⟩
instance yq (own:List Atm) (t:CW) (x:Ident):Bl Tryz.prog 318 [.slice (own.map eAtm) t,.agg (eIdent x)] (.agg (eAtm (Lr own x))):=⟨by
 refine Ak Tryz.func318 Tryz.ntmps318 rfl (rs:= [.cell 4 180]) rfl rfl fun hb LF=>?_
 refine DB fun b=>?_
 refine FI fun b2=>?_
 refine An (fun hp=>?_) (fun hp=>?_)
 ·refine Bz ?_
  refine An (fun hq=>?_) (fun hq=>?_)
  ·refine Bz ?_
   refine A1 (fun h=>?_) (fun h=>?_)
   ·have h0:0≤x.n:=Ab hq
    refine Ad ?_
    refine FW rfl (.of_eq ?_)
    have:x.n.toNat < own.length:=by omega
    simp_all[Lr]
   ·refine Ad ?_
    refine FW rfl (.of_eq ?_)
    have h0:0≤x.n:=Ab hq
    have: ¬x.n.toNat < own.length:=by omega
    simp_all[Lr]
  ·refine Bz ?_
   refine FW rfl (.of_eq ?_)
   have h0: ¬0≤x.n:=BJ hq
   simp[Lr,h0]
 ·refine Bz ?_
  refine FW rfl (.of_eq ?_)
  simp_all[Lr]⟩
instance r7 (x:Ident) (d:Dig):Bl Tryz.prog 219 [.agg (eIdent x),.agg (eDig d)] (.agg (eIdent (HN x d))):=⟨by
 refine Ak Tryz.func219 Tryz.ntmps219 rfl (rs:= [.cell 4 98]) rfl rfl fun hb LF=>?_
 refine DB fun b=>?_
 refine FI fun b2=>?_
 refine FI fun b3=>?_
 refine An (fun hp=>?_) (fun hp=>?_)
 ·refine Bz ?_
  refine A1 (fun h=>?_) (fun h=>?_)
  ·refine Ad ?_
   refine FW rfl (.of_eq ?_)
   simp_all[HN]
  ·refine Ad ?_
   refine FW rfl (.of_eq ?_)
   simp_all[HN]
 ·refine Bz ?_
  refine FW rfl (.of_eq ?_)
  have h0: ¬0≤x.n:=BJ hp
  simp[HN,h0]⟩
instance vO (x:Ident) (d:Dig):Bl Tryz.prog 291 [.agg (eIdent x),.agg (eDig d)] (.agg (eIdent (Dp x d))):=⟨by
 refine Ak Tryz.func291 Tryz.ntmps291 rfl (rs:= [.cell 4 98]) rfl rfl fun hb LF=>?_
 refine DB fun b=>?_
 refine FI fun b2=>?_
 refine FI fun b3=>?_
 refine An (fun hp=>?_) (fun hp=>?_)
 ·refine Bz ?_
  refine A1 (fun h=>?_) (fun h=>?_)
  ·refine Ad ?_
   refine FW rfl (.of_eq ?_)
   simp_all[Dp]
  ·refine Ad ?_
   refine FW rfl (.of_eq ?_)
   simp[Dp,h]
 ·refine Bz ?_
  refine FW rfl (.of_eq ?_)
  simp_all[Dp]⟩
def JO (a b:Ident):Int:=if Dh a.patch b.patch≠0 then Dh a.patch b.patch else if a.n < b.n then -1 else if b.n < a.n then 1 else 0
instance rf (a b:Ident):Bl Tryz.prog 322 [.agg (eIdent a),.agg (eIdent b)] (.raw (.int .i64 (JO a b))):=⟨by
 refine Ak Tryz.func322 Tryz.ntmps322 rfl (rs:= [.tmp 4]) rfl rfl fun hb LF=>?_
 refine DB fun p=>?_
 refine FI fun q=>?_
 refine AL (fun h=>?_) (fun h=>?_)
 ·refine Ad ?_
  refine Ah (.of_eq ?_)
  simp[JO,h]
 ·refine Ad ?_
  refine A1 (fun h1=>?_) (fun h1=>?_)
  ·refine Ad ?_
   refine Ah (.of_eq ?_)
   simp[JO,h,h1]
  ·refine Ad ?_
   refine A1 (fun h2=>?_) (fun h2=>?_)
   ·refine Ad ?_
    refine Ah (.of_eq ?_)
    simp[JO,h,h1,h2]
   ·refine Ad ?_
    refine Ah (.of_eq ?_)
    simp[JO,h,h1,h2]⟩
def RE (l:List Ident):Bool:=(List.range (l.length - 1)).all fun i=>decide (JO (l.getD i Ident.zero) (l.getD (i+1) Ident.zero) < 0)
instance pz (l:List Ident) (t:CW):Bl Tryz.prog 316 [.slice (l.map eIdent) t] (.raw (.bool (RE l))):=⟨by
 refine Ak Tryz.func316 Tryz.ntmps316 rfl (rs:= [.tmp 2]) rfl rfl fun hb LF=>?_
 have hlen:l.length≤140737488355328:=(hb (.slice (l.map eIdent) t) (by simp)).slice_map
 refine Ad ?_
 refine AW (σ:=Nat) (fun k=>1≤k∧ ∀ i,i+1 < k→i+1 < l.length→JO (l.getD i Ident.zero) (l.getD (i+1) Ident.zero) < 0) (fun k=>l.length - k) (fun k=> [(0,.slice (l.map eIdent) t),(3,.raw (.int .i64 k))]) (fun _=>LF) 1 ⟨by simp,fun i h=>by omega⟩ ⟨rfl,rfl⟩ (.refl _) ?_
 rintro k ⟨hk,he⟩
 refine Ad ?_
 refine A1 (fun hc=>?_) (fun hc=>?_)
 ·obtain⟨j,rfl⟩: ∃ j,k=j+1:=⟨k - 1,by omega⟩
  refine Ad ?_
  have e:((↑(j+1):Int) - 1).toNat=j:=by omega
  have hj:j+1 < l.length:=by omega
  refine A1 (fun h1=>?_) (fun h1=>?_)
  ·refine Ad ?_
   refine Ah (.of_eq ?_)
   simp only[e]at h1
   have:RE l=false:=by
    unfold RE
    rw[Lj]
    refine⟨j,DQ.2 (by omega),?_⟩
    simp only[AB,FC,AZ hj,AZ (show j < l.length by omega),Option.getD_some]
    omega
   rw[this]
  ·refine Ad ?_
   simp only[e]at h1
   refine⟨j+1+1,⟨by omega,fun i h2 h3=>?_⟩,by dsimp only;omega,⟨rfl,rfl⟩,.refl _⟩
   rcases BB (i+1) (j+1)with h'|h'
   ·exact he i h' h3
   ·have:i=j:=by omega
    subst this
    simp only[FC,AZ hj,AZ (show i < l.length by omega),Option.getD_some]
    omega
 ·refine Ad ?_
  refine Ah (.of_eq ?_)
  have:RE l=true:=by
   unfold RE
   rw[Ar]
   intro i hi
   rw[DQ]at hi
   exact BL (he i (by omega) (by omega))
  rw[this]⟩
instance tu (l m:List Ident) (t u:CW):Bl Tryz.prog 158 [.slice (l.map eIdent) t,.slice (m.map eIdent) u] (.raw (.bool (decide (l=m)))):=⟨by
 refine Ak Tryz.func158 Tryz.ntmps158 rfl (rs:= [.tmp 4]) rfl rfl fun hb LF=>?_
 have hlen:l.length≤140737488355328:=(hb (.slice (l.map eIdent) t) (by simp)).slice_map
 refine Ad ?_
 refine AL (fun h1=>?_) (fun h1=>?_)
 ·refine Ad ?_
  refine Ah (.of_eq ?_)
  have: ¬l=m:=fun e=>h1 (by rw[e])
  simp[this]
 ·refine Ad ?_
  have hl:l.length=m.length:=by omega
  refine AW (σ:=Nat) (fun k=>k≤l.length∧l.take k=m.take k) (fun k=>l.length - k) (fun k=> [(0,.slice (l.map eIdent) t),(1,.slice (m.map eIdent) u),(5,.raw (.int .i64 k))]) (fun _=>LF) 0 ⟨by simp,by simp⟩ ⟨rfl,rfl,rfl⟩ (.refl _) ?_
  rintro k ⟨hk,he⟩
  refine Ad ?_
  refine A1 (fun hc=>?_) (fun hc=>?_)
  ·refine Ad ?_
   refine AL (fun h2=>?_) (fun h2=>?_)
   ·refine Ad ?_
    refine Ah (.of_eq ?_)
    have: ¬l=m:=fun e=>h2 (by simp[e])
    simp[this]
   ·refine Ad ?_
    refine⟨k+1,⟨by omega,?_⟩,by dsimp only;omega,⟨rfl,rfl,rfl⟩,.refl _⟩
    rw[A6 (by omega),A6 (by omega),he,h2]
  ·refine Ad ?_
   refine Ah (.of_eq ?_)
   have:l=m:=by
    rw[AA (by omega),AA (by omega)]at he
    exact he
   simp[this]⟩
instance xN (l m:List Str) (t u:CW):Bl Tryz.prog 157 [.slice (l.map eS) t,.slice (m.map eS) u] (.raw (.bool (decide (l=m)))):=⟨by
 refine Ak Tryz.func157 Tryz.ntmps157 rfl (rs:= [.tmp 4]) rfl rfl fun hb LF=>?_
 have hlen:l.length≤140737488355328:=(hb (.slice (l.map eS) t) (by simp)).slice_map
 refine Ad ?_
 refine AL (fun h1=>?_) (fun h1=>?_)
 ·refine Ad ?_
  refine Ah (.of_eq ?_)
  have: ¬l=m:=fun e=>h1 (by rw[e])
  simp[this]
 ·refine Ad ?_
  have hl:l.length=m.length:=by omega
  refine AW (σ:=Nat) (fun k=>k≤l.length∧l.take k=m.take k) (fun k=>l.length - k) (fun k=> [(0,.slice (l.map eS) t),(1,.slice (m.map eS) u),(5,.raw (.int .i64 k))]) (fun _=>LF) 0 ⟨by simp,by simp⟩ ⟨rfl,rfl,rfl⟩ (.refl _) ?_
  rintro k ⟨hk,he⟩
  refine Ad ?_
  refine A1 (fun hc=>?_) (fun hc=>?_)
  ·refine Ad ?_
   refine AL (fun h2=>?_) (fun h2=>?_)
   ·refine Ad ?_
    refine Ah (.of_eq ?_)
    have: ¬l=m:=fun e=>h2 (by simp[e])
    simp[this]
   ·refine Ad ?_
    refine⟨k+1,⟨by omega,?_⟩,by dsimp only;omega,⟨rfl,rfl,rfl⟩,.refl _⟩
    rw[A6 (by omega),A6 (by omega),he,h2]
  ·refine Ad ?_
   refine Ah (.of_eq ?_)
   have:l=m:=by
    rw[AA (by omega),AA (by omega)]at he
    exact he
   simp[this]⟩
theorem tf (a b:Chg):decide (a=b)=(decide (a.kind=b.kind)&&decide (a.file=b.file)&&decide (a.type=b.type)&&decide (a.parent=b.parent)&&decide (a.name=b.name)&&decide (a.mode=b.mode)&&decide (a.data=b.data)&&decide (a.after=b.after)&&decide (a.before=b.before)&&decide (a.lines=b.lines)&&decide (a.over=b.over)):=by
 cases a;cases b;rw[KV];simp[and_assoc]
instance ml (a b:Chg):Bl Tryz.prog 106 [.agg (BC a),.agg (BC b)] (.raw (.bool (decide (a=b)))):=⟨by
 refine Ak Tryz.func106 Tryz.ntmps106 rfl (rs:= [.tmp 4]) rfl rfl fun hb LF=>?_
 rw[tf]
 refine DB fun p=>?_
 refine FI fun q=>?_
 iterate 10
  refine An (fun hp=>?_) (fun hp=>by
   refine Bz ?_
   refine Ah (.of_eq ?_)
   simp_all)
  refine Bz ?_
 refine Ah (.of_eq ?_)
 simp_all⟩
end Go.Proofs
