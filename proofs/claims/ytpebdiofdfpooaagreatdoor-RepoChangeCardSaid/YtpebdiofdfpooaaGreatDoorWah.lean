/- Closed facts on the types and functions of this translation, printed by a program off its tables. -/
import Derived.Test.YtpebdiofdfpooaaGreatDoorWag
import Derived.Test.YtpebdiofdfpooaaGreatDoorProg
import Derived.Test.YtpebdiofdfpooaaGreatDoorWad
import Derived.Test.YtpebdiofdfpooaaGreatDoorWae
import Derived.Test.YtpebdiofdfpooaaGreatDoorWaf
set_option linter.unusedSimpArgs false
set_option linter.unusedVariables false
namespace Go.Proofs
open Go Go.Q
def zv:PV→Value
 | .raw v=>v
 | .str _=> .string ⟨#[]⟩
 |_=> .slice none 0 0
instance :fB Tryz.prog:=⟨by kernel_rfl⟩
instance :EG Tryz.prog 3 1 8:=EG.of (by kernel_rfl)
instance :DH Tryz.prog 3:=DH.of (by kernel_rfl)
instance :MU Tryz.prog 3 .i64:=⟨by kernel_rfl⟩
instance :EG Tryz.prog 4 1 1:=EG.of (by kernel_rfl)
instance :DH Tryz.prog 4:=DH.of (by kernel_rfl)
instance :EG Tryz.prog 5 1 1:=EG.of (by kernel_rfl)
instance :DH Tryz.prog 5:=DH.of (by kernel_rfl)
instance :MU Tryz.prog 5 .u8:=⟨by kernel_rfl⟩
instance :EG Tryz.prog 9 1 16:=EG.of (by kernel_rfl)
instance :DH Tryz.prog 9:=DH.of (by kernel_rfl)
instance :O6 Tryz.prog 9:=⟨by kernel_rfl⟩
instance :L0 Tryz.prog 22 47:=⟨by kernel_rfl⟩
instance :EG Tryz.prog 23 1 24:=EG.of (by kernel_rfl)
instance :DH Tryz.prog 23:=DH.of (by kernel_rfl)
instance :L0 Tryz.prog 23 47:=⟨by kernel_rfl⟩
instance :Ff Tryz.prog 23 37 120:=Ff.of (by kernel_rfl)
instance :EG Tryz.prog 24 1 24:=EG.of (by kernel_rfl)
instance :DH Tryz.prog 24:=DH.of (by kernel_rfl)
instance :L0 Tryz.prog 24 78:=⟨by kernel_rfl⟩
instance :Ff Tryz.prog 24 2 40:=Ff.of (by kernel_rfl)
instance :EG Tryz.prog 25 1 24:=EG.of (by kernel_rfl)
instance :DH Tryz.prog 25:=DH.of (by kernel_rfl)
instance :L0 Tryz.prog 25 80:=⟨by kernel_rfl⟩
instance :Ff Tryz.prog 25 3 56:=Ff.of (by kernel_rfl)
instance :EG Tryz.prog 27 4 88:=EG.of (by kernel_rfl)
instance :FG Tryz.prog 27 4:=FG.of (by kernel_rfl)
instance :Cb Tryz.prog 27:=Cb.of (by kernel_rfl)
instance :CK Tryz.prog 27 0 0:=CK.of (by kernel_rfl)
instance :Ba Tryz.prog 27 1 1 1:=Ba.of (by kernel_rfl)
instance :CK Tryz.prog 27 1 1:=CK.of (by kernel_rfl)
instance :CK Tryz.prog 27 2 2:=CK.of (by kernel_rfl)
instance :Ba Tryz.prog 27 3 3 1:=Ba.of (by kernel_rfl)
instance :CK Tryz.prog 27 3 3:=CK.of (by kernel_rfl)
instance :EG Tryz.prog 39 1 24:=EG.of (by kernel_rfl)
instance :DH Tryz.prog 39:=DH.of (by kernel_rfl)
instance :L0 Tryz.prog 39 45:=⟨by kernel_rfl⟩
instance :Ff Tryz.prog 39 32 32:=Ff.of (by kernel_rfl)
instance :DH Tryz.prog 40:=DH.of (by kernel_rfl)
instance :L0 Tryz.prog 40 101:=⟨by kernel_rfl⟩
instance :Ff Tryz.prog 40 139 264:=Ff.of (by kernel_rfl)
instance :EG Tryz.prog 42 5 88:=EG.of (by kernel_rfl)
instance :FG Tryz.prog 42 5:=FG.of (by kernel_rfl)
instance :Cb Tryz.prog 42:=Cb.of (by kernel_rfl)
instance :Cu Tryz.prog 42 (Cc Pat.zero):=Cu.of (us:=(Cc Pat.zero).map zv) (by kernel_rfl) (by kernel_rfl)
instance :Ba Tryz.prog 42 0 0 1:=Ba.of (by kernel_rfl)
instance :CK Tryz.prog 42 0 0:=CK.of (by kernel_rfl)
instance :CK Tryz.prog 42 1 1:=CK.of (by kernel_rfl)
instance :Ba Tryz.prog 42 2 2 1:=Ba.of (by kernel_rfl)
instance :CK Tryz.prog 42 2 2:=CK.of (by kernel_rfl)
instance :CK Tryz.prog 42 3 3:=CK.of (by kernel_rfl)
instance :Ba Tryz.prog 42 4 4 1:=Ba.of (by kernel_rfl)
instance :CK Tryz.prog 42 4 4:=CK.of (by kernel_rfl)
instance :EG Tryz.prog 45 32 32:=EG.of (by kernel_rfl)
instance :FG Tryz.prog 45 32:=FG.of (by kernel_rfl)
instance :U4 Tryz.prog 45 32 5:=⟨by kernel_rfl⟩
instance :Cu Tryz.prog 45 (eDig Dig.zero):=Cu.of (us:=(eDig Dig.zero).map zv) (by kernel_rfl) (by kernel_rfl)
instance :U3 Tryz.prog 45:=U3.of (E:=5) (by kernel_rfl) (by kernel_rfl) (by kernel_rfl) (by kernel_rfl)
instance :EG Tryz.prog 47 37 120:=EG.of (by kernel_rfl)
instance :FG Tryz.prog 47 37:=FG.of (by kernel_rfl)
instance :Cb Tryz.prog 47:=Cb.of (by kernel_rfl)
instance :Cu Tryz.prog 47 (eSto Sto.zero):=Cu.of (us:=(eSto Sto.zero).map zv) (by kernel_rfl) (by kernel_rfl)
instance :Ba Tryz.prog 47 0 0 32:=Ba.of (by kernel_rfl)
instance :CK Tryz.prog 47 0 0:=CK.of (by kernel_rfl)
instance :Ba Tryz.prog 47 1 32 5:=Ba.of (by kernel_rfl)
instance :CK Tryz.prog 47 1 32:=CK.of (by kernel_rfl)
instance :EG Tryz.prog 48 1 24:=EG.of (by kernel_rfl)
instance :DH Tryz.prog 48:=DH.of (by kernel_rfl)
instance :L0 Tryz.prog 48 9:=⟨by kernel_rfl⟩
instance :Ff Tryz.prog 48 1 16:=Ff.of (by kernel_rfl)
instance :FG Tryz.prog 58 41:=FG.of (by kernel_rfl)
instance :CK Tryz.prog 58 1 1:=CK.of (by kernel_rfl)
instance :CK Tryz.prog 58 2 2:=CK.of (by kernel_rfl)
instance :CK Tryz.prog 58 3 3:=CK.of (by kernel_rfl)
instance :CK Tryz.prog 58 4 8:=CK.of (by kernel_rfl)
instance :CK Tryz.prog 58 5 40:=CK.of (by kernel_rfl)
instance :EG Tryz.prog 78 2 40:=EG.of (by kernel_rfl)
instance :FG Tryz.prog 78 2:=FG.of (by kernel_rfl)
instance :Cb Tryz.prog 78:=Cb.of (by kernel_rfl)
instance :Ba Tryz.prog 78 0 0 1:=Ba.of (by kernel_rfl)
instance :CK Tryz.prog 78 0 0:=CK.of (by kernel_rfl)
instance :Ba Tryz.prog 78 1 1 1:=Ba.of (by kernel_rfl)
instance :CK Tryz.prog 78 1 1:=CK.of (by kernel_rfl)
instance :EG Tryz.prog 80 3 56:=EG.of (by kernel_rfl)
instance :FG Tryz.prog 80 3:=FG.of (by kernel_rfl)
instance :Cb Tryz.prog 80:=Cb.of (by kernel_rfl)
instance :Ba Tryz.prog 80 0 0 1:=Ba.of (by kernel_rfl)
instance :CK Tryz.prog 80 0 0:=CK.of (by kernel_rfl)
instance :Ba Tryz.prog 80 1 1 1:=Ba.of (by kernel_rfl)
instance :CK Tryz.prog 80 1 1:=CK.of (by kernel_rfl)
instance :Ba Tryz.prog 80 2 2 1:=Ba.of (by kernel_rfl)
instance :CK Tryz.prog 80 2 2:=CK.of (by kernel_rfl)
instance :EG Tryz.prog 84 1 8:=EG.of (by kernel_rfl)
instance :DH Tryz.prog 84:=DH.of (by kernel_rfl)
instance :DH Tryz.prog 95:=DH.of (by kernel_rfl)
instance :EG Tryz.prog 98 33 40:=EG.of (by kernel_rfl)
instance :FG Tryz.prog 98 33:=FG.of (by kernel_rfl)
instance :Cb Tryz.prog 98:=Cb.of (by kernel_rfl)
instance :Cu Tryz.prog 98 (eIdent Ident.zero):=Cu.of (us:=(eIdent Ident.zero).map zv) (by kernel_rfl) (by kernel_rfl)
instance :CK Tryz.prog 98 0 0:=CK.of (by kernel_rfl)
instance :Ba Tryz.prog 98 1 32 1:=Ba.of (by kernel_rfl)
instance :CK Tryz.prog 98 1 32:=CK.of (by kernel_rfl)
instance :P5 Tryz.prog 98:=P5.of (D:=45) (I:=3) (E:=5) (by kernel_rfl) (by kernel_rfl) (by kernel_rfl) (by kernel_rfl) (by kernel_rfl) (by kernel_rfl) (by kernel_rfl) (by kernel_rfl) (by kernel_rfl)
instance :EG Tryz.prog 99 1 24:=EG.of (by kernel_rfl)
instance :DH Tryz.prog 99:=DH.of (by kernel_rfl)
instance :L0 Tryz.prog 99 98:=⟨by kernel_rfl⟩
instance :Ff Tryz.prog 99 33 40:=Ff.of (by kernel_rfl)
instance :EG Tryz.prog 101 139 264:=EG.of (by kernel_rfl)
instance :FG Tryz.prog 101 139:=FG.of (by kernel_rfl)
instance :Cb Tryz.prog 101:=Cb.of (by kernel_rfl)
instance :Cu Tryz.prog 101 (BG Chg.zero):=Cu.of (us:=(BG Chg.zero).map zv) (by kernel_rfl) (by kernel_rfl)
instance :Ba Tryz.prog 101 0 0 1:=Ba.of (by kernel_rfl)
instance :CK Tryz.prog 101 0 0:=CK.of (by kernel_rfl)
instance :CK Tryz.prog 101 1 1:=CK.of (by kernel_rfl)
instance :Ba Tryz.prog 101 2 34 1:=Ba.of (by kernel_rfl)
instance :CK Tryz.prog 101 2 34:=CK.of (by kernel_rfl)
instance :CK Tryz.prog 101 3 35:=CK.of (by kernel_rfl)
instance :CK Tryz.prog 101 4 68:=CK.of (by kernel_rfl)
instance :CK Tryz.prog 101 5 69:=CK.of (by kernel_rfl)
instance :CK Tryz.prog 101 6 70:=CK.of (by kernel_rfl)
instance :CK Tryz.prog 101 7 71:=CK.of (by kernel_rfl)
instance :CK Tryz.prog 101 8 104:=CK.of (by kernel_rfl)
instance :CK Tryz.prog 101 9 137:=CK.of (by kernel_rfl)
instance :CK Tryz.prog 101 10 138:=CK.of (by kernel_rfl)
instance :DH Tryz.prog 110:=DH.of (by kernel_rfl)
instance :DH Tryz.prog 119:=DH.of (by kernel_rfl)
instance :L0 Tryz.prog 155 39:=⟨by kernel_rfl⟩
instance :Ff Tryz.prog 155 1 24:=Ff.of (by kernel_rfl)
instance :EG Tryz.prog 159 1 24:=EG.of (by kernel_rfl)
instance :DH Tryz.prog 159:=DH.of (by kernel_rfl)
instance :L0 Tryz.prog 159 5:=⟨by kernel_rfl⟩
instance :kM Tryz.prog 159:=⟨5,by kernel_rfl,by kernel_rfl⟩
instance :Ff Tryz.prog 159 1 1:=Ff.of (by kernel_rfl)
instance :EG Tryz.prog 169 1 8:=EG.of (by kernel_rfl)
instance :DH Tryz.prog 169:=DH.of (by kernel_rfl)
instance :DH Tryz.prog 171:=DH.of (by kernel_rfl)
instance :Cb Tryz.prog 173:=Cb.of (by kernel_rfl)
instance :Ba Tryz.prog 173 0 0 1:=Ba.of (by kernel_rfl)
instance :CK Tryz.prog 173 0 0:=CK.of (by kernel_rfl)
instance :Ba Tryz.prog 173 1 1 1:=Ba.of (by kernel_rfl)
instance :CK Tryz.prog 173 1 1:=CK.of (by kernel_rfl)
instance :EG Tryz.prog 174 1 24:=EG.of (by kernel_rfl)
instance :DH Tryz.prog 174:=DH.of (by kernel_rfl)
instance :L0 Tryz.prog 174 178:=⟨by kernel_rfl⟩
instance :Ff Tryz.prog 174 34 48:=Ff.of (by kernel_rfl)
instance :DH Tryz.prog 176:=DH.of (by kernel_rfl)
instance :EG Tryz.prog 178 34 48:=EG.of (by kernel_rfl)
instance :FG Tryz.prog 178 34:=FG.of (by kernel_rfl)
instance :Cb Tryz.prog 178:=Cb.of (by kernel_rfl)
instance :Ba Tryz.prog 178 0 0 33:=Ba.of (by kernel_rfl)
instance :CK Tryz.prog 178 0 0:=CK.of (by kernel_rfl)
instance :Ba Tryz.prog 178 1 33 1:=Ba.of (by kernel_rfl)
instance :CK Tryz.prog 178 1 33:=CK.of (by kernel_rfl)
instance :EG Tryz.prog 180 172 296:=EG.of (by kernel_rfl)
instance :FG Tryz.prog 180 172:=FG.of (by kernel_rfl)
instance :Cb Tryz.prog 180:=Cb.of (by kernel_rfl)
instance :Cu Tryz.prog 180 (eAtm Atm.zero):=Cu.of (us:=(eAtm Atm.zero).map zv) (by kernel_rfl) (by kernel_rfl)
instance :Ba Tryz.prog 180 0 0 33:=Ba.of (by kernel_rfl)
instance :CK Tryz.prog 180 0 0:=CK.of (by kernel_rfl)
instance :Ba Tryz.prog 180 1 33 1:=Ba.of (by kernel_rfl)
instance :CK Tryz.prog 180 1 33:=CK.of (by kernel_rfl)
instance :Ba Tryz.prog 180 2 34 33:=Ba.of (by kernel_rfl)
instance :CK Tryz.prog 180 2 34:=CK.of (by kernel_rfl)
instance :Ba Tryz.prog 180 3 67 1:=Ba.of (by kernel_rfl)
instance :CK Tryz.prog 180 3 67:=CK.of (by kernel_rfl)
instance :Ba Tryz.prog 180 4 68 33:=Ba.of (by kernel_rfl)
instance :CK Tryz.prog 180 4 68:=CK.of (by kernel_rfl)
instance :Ba Tryz.prog 180 5 101 1:=Ba.of (by kernel_rfl)
instance :Ba Tryz.prog 180 6 102 1:=Ba.of (by kernel_rfl)
instance :Ba Tryz.prog 180 7 103 1:=Ba.of (by kernel_rfl)
instance :Ba Tryz.prog 180 8 104 1:=Ba.of (by kernel_rfl)
instance :Ba Tryz.prog 180 9 105 33:=Ba.of (by kernel_rfl)
instance :CK Tryz.prog 180 9 105:=CK.of (by kernel_rfl)
instance :Ba Tryz.prog 180 10 138 33:=Ba.of (by kernel_rfl)
instance :CK Tryz.prog 180 10 138:=CK.of (by kernel_rfl)
instance :Ba Tryz.prog 180 11 171 1:=Ba.of (by kernel_rfl)
instance :CK Tryz.prog 180 11 171:=CK.of (by kernel_rfl)
instance :EG Tryz.prog 187 1 24:=EG.of (by kernel_rfl)
instance :DH Tryz.prog 187:=DH.of (by kernel_rfl)
instance :L0 Tryz.prog 187 190:=⟨by kernel_rfl⟩
instance :Ff Tryz.prog 187 34 48:=Ff.of (by kernel_rfl)
instance :EG Tryz.prog 190 34 48:=EG.of (by kernel_rfl)
instance :FG Tryz.prog 190 34:=FG.of (by kernel_rfl)
instance :Cb Tryz.prog 190:=Cb.of (by kernel_rfl)
instance :Ba Tryz.prog 190 0 0 33:=Ba.of (by kernel_rfl)
instance :CK Tryz.prog 190 0 0:=CK.of (by kernel_rfl)
instance :Ba Tryz.prog 190 1 33 1:=Ba.of (by kernel_rfl)
instance :CK Tryz.prog 190 1 33:=CK.of (by kernel_rfl)
instance :EG Tryz.prog 199 1 24:=EG.of (by kernel_rfl)
instance :DH Tryz.prog 199:=DH.of (by kernel_rfl)
instance :L0 Tryz.prog 199 180:=⟨by kernel_rfl⟩
instance :Ff Tryz.prog 199 172 296:=Ff.of (by kernel_rfl)
instance :EG Tryz.prog 206 1 4:=EG.of (by kernel_rfl)
instance :DH Tryz.prog 206:=DH.of (by kernel_rfl)
instance :MU Tryz.prog 206 .u32:=⟨by kernel_rfl⟩
instance :EG Tryz.prog 207 8 32:=EG.of (by kernel_rfl)
instance :FG Tryz.prog 207 8:=FG.of (by kernel_rfl)
instance :U4 Tryz.prog 207 8 206:=⟨by kernel_rfl⟩
instance :Cu Tryz.prog 207 (eW (List.replicate 8 0)):=Cu.of (us:=(eW (List.replicate 8 0)).map zv) (by kernel_rfl) (by kernel_rfl)
instance :MU Tryz.prog 224 .u64:=⟨by kernel_rfl⟩
instance :MU Tryz.prog 235 .u64:=⟨by kernel_rfl⟩
instance :EG Tryz.prog 236 64 256:=EG.of (by kernel_rfl)
instance :FG Tryz.prog 236 64:=FG.of (by kernel_rfl)
instance :U4 Tryz.prog 236 64 206:=⟨by kernel_rfl⟩
instance :Cu Tryz.prog 236 (eW (List.replicate 64 0)):=Cu.of (us:=(eW (List.replicate 64 0)).map zv) (by kernel_rfl) (by kernel_rfl)
instance :EG Tryz.prog 252 1 24:=EG.of (by kernel_rfl)
instance :DH Tryz.prog 252:=DH.of (by kernel_rfl)
instance :L0 Tryz.prog 252 254:=⟨by kernel_rfl⟩
instance :Ff Tryz.prog 252 3 48:=Ff.of (by kernel_rfl)
instance :EG Tryz.prog 254 3 48:=EG.of (by kernel_rfl)
instance :FG Tryz.prog 254 3:=FG.of (by kernel_rfl)
instance :Cb Tryz.prog 254:=Cb.of (by kernel_rfl)
instance :Cu Tryz.prog 254 (eSx Sx.zero):=Cu.of (us:=(eSx Sx.zero).map zv) (by kernel_rfl) (by kernel_rfl)
instance :Ba Tryz.prog 254 0 0 1:=Ba.of (by kernel_rfl)
instance :CK Tryz.prog 254 0 0:=CK.of (by kernel_rfl)
instance :Ba Tryz.prog 254 1 1 1:=Ba.of (by kernel_rfl)
instance :CK Tryz.prog 254 1 1:=CK.of (by kernel_rfl)
instance :Ba Tryz.prog 254 2 2 1:=Ba.of (by kernel_rfl)
instance :CK Tryz.prog 254 2 2:=CK.of (by kernel_rfl)
instance :L0 Tryz.prog 292 3:=⟨by kernel_rfl⟩
instance :Ff Tryz.prog 292 1 8:=Ff.of (by kernel_rfl)
instance :EG Tryz.prog 298 1 8:=EG.of (by kernel_rfl)
instance :DH Tryz.prog 298:=DH.of (by kernel_rfl)
instance :CK Tryz.prog 300 0 0:=CK.of (by kernel_rfl)
instance :CK Tryz.prog 300 1 1:=CK.of (by kernel_rfl)
instance :Cb Tryz.prog 316:=Cb.of (by kernel_rfl)
instance :CK Tryz.prog 316 0 0:=CK.of (by kernel_rfl)
instance :CK Tryz.prog 316 1 1:=CK.of (by kernel_rfl)
instance :Av Tryz.prog 12:=⟨fun vs w=>AB Tryz.func12 rfl (by decide) vs w⟩
instance :Av Tryz.prog 13:=⟨fun vs w=>AB Tryz.func13 rfl (by decide) vs w⟩
instance :Av Tryz.prog 14:=⟨fun vs w=>AB Tryz.func14 rfl (by decide) vs w⟩
instance :Av Tryz.prog 15:=⟨fun vs w=>AB Tryz.func15 rfl (by decide) vs w⟩
instance :Av Tryz.prog 16:=⟨fun vs w=>AB Tryz.func16 rfl (by decide) vs w⟩
instance :Av Tryz.prog 17:=⟨fun vs w=>AB Tryz.func17 rfl (by decide) vs w⟩
instance :Av Tryz.prog 18:=⟨fun vs w=>AB Tryz.func18 rfl (by decide) vs w⟩
instance :Av Tryz.prog 19:=⟨fun vs w=>AB Tryz.func19 rfl (by decide) vs w⟩
instance :Av Tryz.prog 20:=⟨fun vs w=>AB Tryz.func20 rfl (by decide) vs w⟩
instance :Av Tryz.prog 21:=⟨fun vs w=>AB Tryz.func21 rfl (by decide) vs w⟩
instance :Av Tryz.prog 23:=⟨fun vs w=>AB Tryz.func23 rfl (by decide) vs w⟩
instance :Av Tryz.prog 24:=⟨fun vs w=>AB Tryz.func24 rfl (by decide) vs w⟩
instance :Av Tryz.prog 25:=⟨fun vs w=>AB Tryz.func25 rfl (by decide) vs w⟩
instance :Av Tryz.prog 26:=⟨fun vs w=>AB Tryz.func26 rfl (by decide) vs w⟩
instance :Av Tryz.prog 27:=⟨fun vs w=>AB Tryz.func27 rfl (by decide) vs w⟩
instance :Av Tryz.prog 28:=⟨fun vs w=>AB Tryz.func28 rfl (by decide) vs w⟩
instance :Av Tryz.prog 29:=⟨fun vs w=>AB Tryz.func29 rfl (by decide) vs w⟩
instance :Av Tryz.prog 30:=⟨fun vs w=>AB Tryz.func30 rfl (by decide) vs w⟩
instance :Av Tryz.prog 31:=⟨fun vs w=>AB Tryz.func31 rfl (by decide) vs w⟩
instance :Av Tryz.prog 32:=⟨fun vs w=>AB Tryz.func32 rfl (by decide) vs w⟩
instance :Av Tryz.prog 33:=⟨fun vs w=>AB Tryz.func33 rfl (by decide) vs w⟩
instance :Av Tryz.prog 35:=⟨fun vs w=>AB Tryz.func35 rfl (by decide) vs w⟩
instance :Av Tryz.prog 36:=⟨fun vs w=>AB Tryz.func36 rfl (by decide) vs w⟩
instance :Av Tryz.prog 37:=⟨fun vs w=>AB Tryz.func37 rfl (by decide) vs w⟩
instance :Av Tryz.prog 38:=⟨fun vs w=>AB Tryz.func38 rfl (by decide) vs w⟩
instance :Av Tryz.prog 39:=⟨fun vs w=>AB Tryz.func39 rfl (by decide) vs w⟩
instance :Av Tryz.prog 40:=⟨fun vs w=>AB Tryz.func40 rfl (by decide) vs w⟩
instance :Av Tryz.prog 41:=⟨fun vs w=>AB Tryz.func41 rfl (by decide) vs w⟩
instance :Av Tryz.prog 42:=⟨fun vs w=>AB Tryz.func42 rfl (by decide) vs w⟩
instance :Av Tryz.prog 43:=⟨fun vs w=>AB Tryz.func43 rfl (by decide) vs w⟩
instance :Av Tryz.prog 44:=⟨fun vs w=>AB Tryz.func44 rfl (by decide) vs w⟩
instance :Av Tryz.prog 45:=⟨fun vs w=>AB Tryz.func45 rfl (by decide) vs w⟩
instance :Av Tryz.prog 47:=⟨fun vs w=>AB Tryz.func47 rfl (by decide) vs w⟩
instance :Av Tryz.prog 48:=⟨fun vs w=>AB Tryz.func48 rfl (by decide) vs w⟩
instance :Av Tryz.prog 49:=⟨fun vs w=>AB Tryz.func49 rfl (by decide) vs w⟩
instance :Av Tryz.prog 50:=⟨fun vs w=>AB Tryz.func50 rfl (by decide) vs w⟩
instance :Av Tryz.prog 51:=⟨fun vs w=>AB Tryz.func51 rfl (by decide) vs w⟩
instance :Av Tryz.prog 52:=⟨fun vs w=>AB Tryz.func52 rfl (by decide) vs w⟩
instance :Av Tryz.prog 53:=⟨fun vs w=>AB Tryz.func53 rfl (by decide) vs w⟩
instance :Av Tryz.prog 54:=⟨fun vs w=>AB Tryz.func54 rfl (by decide) vs w⟩
instance :Av Tryz.prog 55:=⟨fun vs w=>AB Tryz.func55 rfl (by decide) vs w⟩
instance :Av Tryz.prog 56:=⟨fun vs w=>AB Tryz.func56 rfl (by decide) vs w⟩
instance :Av Tryz.prog 57:=⟨fun vs w=>AB Tryz.func57 rfl (by decide) vs w⟩
instance :Av Tryz.prog 58:=⟨fun vs w=>AB Tryz.func58 rfl (by decide) vs w⟩
instance :Av Tryz.prog 59:=⟨fun vs w=>AB Tryz.func59 rfl (by decide) vs w⟩
instance :Av Tryz.prog 60:=⟨fun vs w=>AB Tryz.func60 rfl (by decide) vs w⟩
instance :Av Tryz.prog 61:=⟨fun vs w=>AB Tryz.func61 rfl (by decide) vs w⟩
instance :Av Tryz.prog 62:=⟨fun vs w=>AB Tryz.func62 rfl (by decide) vs w⟩
instance :Av Tryz.prog 63:=⟨fun vs w=>AB Tryz.func63 rfl (by decide) vs w⟩
instance :Av Tryz.prog 64:=⟨fun vs w=>AB Tryz.func64 rfl (by decide) vs w⟩
instance :Av Tryz.prog 65:=⟨fun vs w=>AB Tryz.func65 rfl (by decide) vs w⟩
instance :Av Tryz.prog 66:=⟨fun vs w=>AB Tryz.func66 rfl (by decide) vs w⟩
instance :Av Tryz.prog 67:=⟨fun vs w=>AB Tryz.func67 rfl (by decide) vs w⟩
instance :Av Tryz.prog 68:=⟨fun vs w=>AB Tryz.func68 rfl (by decide) vs w⟩
instance :Av Tryz.prog 69:=⟨fun vs w=>AB Tryz.func69 rfl (by decide) vs w⟩
instance :Av Tryz.prog 70:=⟨fun vs w=>AB Tryz.func70 rfl (by decide) vs w⟩
instance :Av Tryz.prog 71:=⟨fun vs w=>AB Tryz.func71 rfl (by decide) vs w⟩
instance :Av Tryz.prog 72:=⟨fun vs w=>AB Tryz.func72 rfl (by decide) vs w⟩
instance :Av Tryz.prog 73:=⟨fun vs w=>AB Tryz.func73 rfl (by decide) vs w⟩
instance :Av Tryz.prog 74:=⟨fun vs w=>AB Tryz.func74 rfl (by decide) vs w⟩
instance :Av Tryz.prog 75:=⟨fun vs w=>AB Tryz.func75 rfl (by decide) vs w⟩
instance :Av Tryz.prog 76:=⟨fun vs w=>AB Tryz.func76 rfl (by decide) vs w⟩
instance :Av Tryz.prog 77:=⟨fun vs w=>AB Tryz.func77 rfl (by decide) vs w⟩
instance :Av Tryz.prog 78:=⟨fun vs w=>AB Tryz.func78 rfl (by decide) vs w⟩
instance :Av Tryz.prog 79:=⟨fun vs w=>AB Tryz.func79 rfl (by decide) vs w⟩
instance :Av Tryz.prog 80:=⟨fun vs w=>AB Tryz.func80 rfl (by decide) vs w⟩
instance :Av Tryz.prog 81:=⟨fun vs w=>AB Tryz.func81 rfl (by decide) vs w⟩
instance :Av Tryz.prog 82:=⟨fun vs w=>AB Tryz.func82 rfl (by decide) vs w⟩
instance :Av Tryz.prog 83:=⟨fun vs w=>AB Tryz.func83 rfl (by decide) vs w⟩
instance :Av Tryz.prog 84:=⟨fun vs w=>AB Tryz.func84 rfl (by decide) vs w⟩
instance :Av Tryz.prog 85:=⟨fun vs w=>AB Tryz.func85 rfl (by decide) vs w⟩
instance :Av Tryz.prog 86:=⟨fun vs w=>AB Tryz.func86 rfl (by decide) vs w⟩
instance :Av Tryz.prog 87:=⟨fun vs w=>AB Tryz.func87 rfl (by decide) vs w⟩
instance :Av Tryz.prog 88:=⟨fun vs w=>AB Tryz.func88 rfl (by decide) vs w⟩
instance :Av Tryz.prog 89:=⟨fun vs w=>AB Tryz.func89 rfl (by decide) vs w⟩
instance :Av Tryz.prog 90:=⟨fun vs w=>AB Tryz.func90 rfl (by decide) vs w⟩
instance :Av Tryz.prog 91:=⟨fun vs w=>AB Tryz.func91 rfl (by decide) vs w⟩
instance :Av Tryz.prog 92:=⟨fun vs w=>AB Tryz.func92 rfl (by decide) vs w⟩
instance :Av Tryz.prog 93:=⟨fun vs w=>AB Tryz.func93 rfl (by decide) vs w⟩
instance :Av Tryz.prog 94:=⟨fun vs w=>AB Tryz.func94 rfl (by decide) vs w⟩
instance :Av Tryz.prog 95:=⟨fun vs w=>AB Tryz.func95 rfl (by decide) vs w⟩
instance :Av Tryz.prog 96:=⟨fun vs w=>AB Tryz.func96 rfl (by decide) vs w⟩
instance :Av Tryz.prog 97:=⟨fun vs w=>AB Tryz.func97 rfl (by decide) vs w⟩
instance :Av Tryz.prog 98:=⟨fun vs w=>AB Tryz.func98 rfl (by decide) vs w⟩
instance :Av Tryz.prog 99:=⟨fun vs w=>AB Tryz.func99 rfl (by decide) vs w⟩
instance :Av Tryz.prog 100:=⟨fun vs w=>AB Tryz.func100 rfl (by decide) vs w⟩
instance :Av Tryz.prog 101:=⟨fun vs w=>AB Tryz.func101 rfl (by decide) vs w⟩
instance :Av Tryz.prog 102:=⟨fun vs w=>AB Tryz.func102 rfl (by decide) vs w⟩
instance :Av Tryz.prog 103:=⟨fun vs w=>AB Tryz.func103 rfl (by decide) vs w⟩
instance :Av Tryz.prog 104:=⟨fun vs w=>AB Tryz.func104 rfl (by decide) vs w⟩
instance :Av Tryz.prog 105:=⟨fun vs w=>AB Tryz.func105 rfl (by decide) vs w⟩
instance :Av Tryz.prog 106:=⟨fun vs w=>AB Tryz.func106 rfl (by decide) vs w⟩
instance :Av Tryz.prog 107:=⟨fun vs w=>AB Tryz.func107 rfl (by decide) vs w⟩
instance :Av Tryz.prog 108:=⟨fun vs w=>AB Tryz.func108 rfl (by decide) vs w⟩
instance :Av Tryz.prog 109:=⟨fun vs w=>AB Tryz.func109 rfl (by decide) vs w⟩
instance :Av Tryz.prog 110:=⟨fun vs w=>AB Tryz.func110 rfl (by decide) vs w⟩
instance :Av Tryz.prog 111:=⟨fun vs w=>AB Tryz.func111 rfl (by decide) vs w⟩
instance :Av Tryz.prog 112:=⟨fun vs w=>AB Tryz.func112 rfl (by decide) vs w⟩
instance :Av Tryz.prog 113:=⟨fun vs w=>AB Tryz.func113 rfl (by decide) vs w⟩
instance :Av Tryz.prog 114:=⟨fun vs w=>AB Tryz.func114 rfl (by decide) vs w⟩
instance :Av Tryz.prog 115:=⟨fun vs w=>AB Tryz.func115 rfl (by decide) vs w⟩
instance :Av Tryz.prog 116:=⟨fun vs w=>AB Tryz.func116 rfl (by decide) vs w⟩
instance :Av Tryz.prog 117:=⟨fun vs w=>AB Tryz.func117 rfl (by decide) vs w⟩
instance :Av Tryz.prog 118:=⟨fun vs w=>AB Tryz.func118 rfl (by decide) vs w⟩
instance :Av Tryz.prog 119:=⟨fun vs w=>AB Tryz.func119 rfl (by decide) vs w⟩
instance :Av Tryz.prog 120:=⟨fun vs w=>AB Tryz.func120 rfl (by decide) vs w⟩
instance :Av Tryz.prog 121:=⟨fun vs w=>AB Tryz.func121 rfl (by decide) vs w⟩
instance :Av Tryz.prog 122:=⟨fun vs w=>AB Tryz.func122 rfl (by decide) vs w⟩
instance :Av Tryz.prog 123:=⟨fun vs w=>AB Tryz.func123 rfl (by decide) vs w⟩
instance :Av Tryz.prog 124:=⟨fun vs w=>AB Tryz.func124 rfl (by decide) vs w⟩
instance :Av Tryz.prog 125:=⟨fun vs w=>AB Tryz.func125 rfl (by decide) vs w⟩
instance :Av Tryz.prog 126:=⟨fun vs w=>AB Tryz.func126 rfl (by decide) vs w⟩
instance :Av Tryz.prog 127:=⟨fun vs w=>AB Tryz.func127 rfl (by decide) vs w⟩
instance :Av Tryz.prog 128:=⟨fun vs w=>AB Tryz.func128 rfl (by decide) vs w⟩
instance :Av Tryz.prog 129:=⟨fun vs w=>AB Tryz.func129 rfl (by decide) vs w⟩
instance :Av Tryz.prog 130:=⟨fun vs w=>AB Tryz.func130 rfl (by decide) vs w⟩
instance :Av Tryz.prog 131:=⟨fun vs w=>AB Tryz.func131 rfl (by decide) vs w⟩
instance :Av Tryz.prog 132:=⟨fun vs w=>AB Tryz.func132 rfl (by decide) vs w⟩
instance :Av Tryz.prog 133:=⟨fun vs w=>AB Tryz.func133 rfl (by decide) vs w⟩
instance :Av Tryz.prog 134:=⟨fun vs w=>AB Tryz.func134 rfl (by decide) vs w⟩
instance :Av Tryz.prog 135:=⟨fun vs w=>AB Tryz.func135 rfl (by decide) vs w⟩
instance :Av Tryz.prog 136:=⟨fun vs w=>AB Tryz.func136 rfl (by decide) vs w⟩
instance :Av Tryz.prog 137:=⟨fun vs w=>AB Tryz.func137 rfl (by decide) vs w⟩
instance :Av Tryz.prog 138:=⟨fun vs w=>AB Tryz.func138 rfl (by decide) vs w⟩
instance :Av Tryz.prog 139:=⟨fun vs w=>AB Tryz.func139 rfl (by decide) vs w⟩
instance :Av Tryz.prog 140:=⟨fun vs w=>AB Tryz.func140 rfl (by decide) vs w⟩
instance :Av Tryz.prog 141:=⟨fun vs w=>AB Tryz.func141 rfl (by decide) vs w⟩
instance :Av Tryz.prog 142:=⟨fun vs w=>AB Tryz.func142 rfl (by decide) vs w⟩
instance :Av Tryz.prog 143:=⟨fun vs w=>AB Tryz.func143 rfl (by decide) vs w⟩
instance :Av Tryz.prog 144:=⟨fun vs w=>AB Tryz.func144 rfl (by decide) vs w⟩
instance :Av Tryz.prog 145:=⟨fun vs w=>AB Tryz.func145 rfl (by decide) vs w⟩
instance :Av Tryz.prog 146:=⟨fun vs w=>AB Tryz.func146 rfl (by decide) vs w⟩
instance :Av Tryz.prog 147:=⟨fun vs w=>AB Tryz.func147 rfl (by decide) vs w⟩
instance :Av Tryz.prog 148:=⟨fun vs w=>AB Tryz.func148 rfl (by decide) vs w⟩
instance :Av Tryz.prog 149:=⟨fun vs w=>AB Tryz.func149 rfl (by decide) vs w⟩
instance :Av Tryz.prog 150:=⟨fun vs w=>AB Tryz.func150 rfl (by decide) vs w⟩
instance :Av Tryz.prog 151:=⟨fun vs w=>AB Tryz.func151 rfl (by decide) vs w⟩
instance :Av Tryz.prog 152:=⟨fun vs w=>AB Tryz.func152 rfl (by decide) vs w⟩
instance :Av Tryz.prog 153:=⟨fun vs w=>AB Tryz.func153 rfl (by decide) vs w⟩
instance :Av Tryz.prog 154:=⟨fun vs w=>AB Tryz.func154 rfl (by decide) vs w⟩
instance :Av Tryz.prog 155:=⟨fun vs w=>AB Tryz.func155 rfl (by decide) vs w⟩
instance :Av Tryz.prog 156:=⟨fun vs w=>AB Tryz.func156 rfl (by decide) vs w⟩
instance :Av Tryz.prog 157:=⟨fun vs w=>AB Tryz.func157 rfl (by decide) vs w⟩
instance :Av Tryz.prog 158:=⟨fun vs w=>AB Tryz.func158 rfl (by decide) vs w⟩
instance :Av Tryz.prog 159:=⟨fun vs w=>AB Tryz.func159 rfl (by decide) vs w⟩
instance :Av Tryz.prog 160:=⟨fun vs w=>AB Tryz.func160 rfl (by decide) vs w⟩
instance :Av Tryz.prog 161:=⟨fun vs w=>AB Tryz.func161 rfl (by decide) vs w⟩
instance :Av Tryz.prog 162:=⟨fun vs w=>AB Tryz.func162 rfl (by decide) vs w⟩
instance :Av Tryz.prog 163:=⟨fun vs w=>AB Tryz.func163 rfl (by decide) vs w⟩
instance :Av Tryz.prog 164:=⟨fun vs w=>AB Tryz.func164 rfl (by decide) vs w⟩
instance :Av Tryz.prog 165:=⟨fun vs w=>AB Tryz.func165 rfl (by decide) vs w⟩
instance :Av Tryz.prog 166:=⟨fun vs w=>AB Tryz.func166 rfl (by decide) vs w⟩
instance :Av Tryz.prog 167:=⟨fun vs w=>AB Tryz.func167 rfl (by decide) vs w⟩
instance :Av Tryz.prog 168:=⟨fun vs w=>AB Tryz.func168 rfl (by decide) vs w⟩
instance :Av Tryz.prog 169:=⟨fun vs w=>AB Tryz.func169 rfl (by decide) vs w⟩
instance :Av Tryz.prog 170:=⟨fun vs w=>AB Tryz.func170 rfl (by decide) vs w⟩
instance :Av Tryz.prog 171:=⟨fun vs w=>AB Tryz.func171 rfl (by decide) vs w⟩
instance :Av Tryz.prog 172:=⟨fun vs w=>AB Tryz.func172 rfl (by decide) vs w⟩
instance :Av Tryz.prog 173:=⟨fun vs w=>AB Tryz.func173 rfl (by decide) vs w⟩
instance :Av Tryz.prog 174:=⟨fun vs w=>AB Tryz.func174 rfl (by decide) vs w⟩
instance :Av Tryz.prog 177:=⟨fun vs w=>AB Tryz.func177 rfl (by decide) vs w⟩
instance :Av Tryz.prog 178:=⟨fun vs w=>AB Tryz.func178 rfl (by decide) vs w⟩
instance :Av Tryz.prog 179:=⟨fun vs w=>AB Tryz.func179 rfl (by decide) vs w⟩
instance :Av Tryz.prog 181:=⟨fun vs w=>AB Tryz.func181 rfl (by decide) vs w⟩
instance :Av Tryz.prog 186:=⟨fun vs w=>AB Tryz.func186 rfl (by decide) vs w⟩
instance :Av Tryz.prog 187:=⟨fun vs w=>AB Tryz.func187 rfl (by decide) vs w⟩
instance :Av Tryz.prog 188:=⟨fun vs w=>AB Tryz.func188 rfl (by decide) vs w⟩
instance :Av Tryz.prog 189:=⟨fun vs w=>AB Tryz.func189 rfl (by decide) vs w⟩
instance :Av Tryz.prog 190:=⟨fun vs w=>AB Tryz.func190 rfl (by decide) vs w⟩
instance :Av Tryz.prog 191:=⟨fun vs w=>AB Tryz.func191 rfl (by decide) vs w⟩
instance :Av Tryz.prog 192:=⟨fun vs w=>AB Tryz.func192 rfl (by decide) vs w⟩
instance :Av Tryz.prog 193:=⟨fun vs w=>AB Tryz.func193 rfl (by decide) vs w⟩
instance :Av Tryz.prog 194:=⟨fun vs w=>AB Tryz.func194 rfl (by decide) vs w⟩
instance :Av Tryz.prog 195:=⟨fun vs w=>AB Tryz.func195 rfl (by decide) vs w⟩
instance :Av Tryz.prog 196:=⟨fun vs w=>AB Tryz.func196 rfl (by decide) vs w⟩
instance :Av Tryz.prog 197:=⟨fun vs w=>AB Tryz.func197 rfl (by decide) vs w⟩
instance :Av Tryz.prog 198:=⟨fun vs w=>AB Tryz.func198 rfl (by decide) vs w⟩
instance :Av Tryz.prog 199:=⟨fun vs w=>AB Tryz.func199 rfl (by decide) vs w⟩
instance :Av Tryz.prog 200:=⟨fun vs w=>AB Tryz.func200 rfl (by decide) vs w⟩
instance :Av Tryz.prog 201:=⟨fun vs w=>AB Tryz.func201 rfl (by decide) vs w⟩
instance :Av Tryz.prog 202:=⟨fun vs w=>AB Tryz.func202 rfl (by decide) vs w⟩
instance :Av Tryz.prog 203:=⟨fun vs w=>AB Tryz.func203 rfl (by decide) vs w⟩
instance :Av Tryz.prog 204:=⟨fun vs w=>AB Tryz.func204 rfl (by decide) vs w⟩
instance :Av Tryz.prog 205:=⟨fun vs w=>AB Tryz.func205 rfl (by decide) vs w⟩
instance :Av Tryz.prog 206:=⟨fun vs w=>AB Tryz.func206 rfl (by decide) vs w⟩
instance :Av Tryz.prog 209:=⟨fun vs w=>AB Tryz.func209 rfl (by decide) vs w⟩
instance :Av Tryz.prog 210:=⟨fun vs w=>AB Tryz.func210 rfl (by decide) vs w⟩
instance :Av Tryz.prog 211:=⟨fun vs w=>AB Tryz.func211 rfl (by decide) vs w⟩
instance :Av Tryz.prog 212:=⟨fun vs w=>AB Tryz.func212 rfl (by decide) vs w⟩
instance :Av Tryz.prog 213:=⟨fun vs w=>AB Tryz.func213 rfl (by decide) vs w⟩
instance :Av Tryz.prog 214:=⟨fun vs w=>AB Tryz.func214 rfl (by decide) vs w⟩
instance :Av Tryz.prog 215:=⟨fun vs w=>AB Tryz.func215 rfl (by decide) vs w⟩
instance :Av Tryz.prog 216:=⟨fun vs w=>AB Tryz.func216 rfl (by decide) vs w⟩
instance :Av Tryz.prog 217:=⟨fun vs w=>AB Tryz.func217 rfl (by decide) vs w⟩
instance :Av Tryz.prog 218:=⟨fun vs w=>AB Tryz.func218 rfl (by decide) vs w⟩
instance :Av Tryz.prog 219:=⟨fun vs w=>AB Tryz.func219 rfl (by decide) vs w⟩
instance :Av Tryz.prog 221:=⟨fun vs w=>AB Tryz.func221 rfl (by decide) vs w⟩
instance :Av Tryz.prog 222:=⟨fun vs w=>AB Tryz.func222 rfl (by decide) vs w⟩
instance :Av Tryz.prog 223:=⟨fun vs w=>AB Tryz.func223 rfl (by decide) vs w⟩
instance :Av Tryz.prog 224:=⟨fun vs w=>AB Tryz.func224 rfl (by decide) vs w⟩
instance :Av Tryz.prog 225:=⟨fun vs w=>AB Tryz.func225 rfl (by decide) vs w⟩
instance :Av Tryz.prog 228:=⟨fun vs w=>AB Tryz.func228 rfl (by decide) vs w⟩
instance :Av Tryz.prog 229:=⟨fun vs w=>AB Tryz.func229 rfl (by decide) vs w⟩
instance :Av Tryz.prog 230:=⟨fun vs w=>AB Tryz.func230 rfl (by decide) vs w⟩
instance :Av Tryz.prog 231:=⟨fun vs w=>AB Tryz.func231 rfl (by decide) vs w⟩
instance :Av Tryz.prog 232:=⟨fun vs w=>AB Tryz.func232 rfl (by decide) vs w⟩
instance :Av Tryz.prog 233:=⟨fun vs w=>AB Tryz.func233 rfl (by decide) vs w⟩
instance :Av Tryz.prog 244:=⟨fun vs w=>AB Tryz.func244 rfl (by decide) vs w⟩
instance :Av Tryz.prog 245:=⟨fun vs w=>AB Tryz.func245 rfl (by decide) vs w⟩
instance :Av Tryz.prog 246:=⟨fun vs w=>AB Tryz.func246 rfl (by decide) vs w⟩
instance :Av Tryz.prog 247:=⟨fun vs w=>AB Tryz.func247 rfl (by decide) vs w⟩
instance :Av Tryz.prog 248:=⟨fun vs w=>AB Tryz.func248 rfl (by decide) vs w⟩
instance :Av Tryz.prog 249:=⟨fun vs w=>AB Tryz.func249 rfl (by decide) vs w⟩
instance :Av Tryz.prog 250:=⟨fun vs w=>AB Tryz.func250 rfl (by decide) vs w⟩
instance :Av Tryz.prog 251:=⟨fun vs w=>AB Tryz.func251 rfl (by decide) vs w⟩
instance :Av Tryz.prog 252:=⟨fun vs w=>AB Tryz.func252 rfl (by decide) vs w⟩
instance :Av Tryz.prog 253:=⟨fun vs w=>AB Tryz.func253 rfl (by decide) vs w⟩
instance :Av Tryz.prog 254:=⟨fun vs w=>AB Tryz.func254 rfl (by decide) vs w⟩
instance :Av Tryz.prog 255:=⟨fun vs w=>AB Tryz.func255 rfl (by decide) vs w⟩
instance :Av Tryz.prog 256:=⟨fun vs w=>AB Tryz.func256 rfl (by decide) vs w⟩
instance :Av Tryz.prog 257:=⟨fun vs w=>AB Tryz.func257 rfl (by decide) vs w⟩
instance :Av Tryz.prog 258:=⟨fun vs w=>AB Tryz.func258 rfl (by decide) vs w⟩
instance :Av Tryz.prog 259:=⟨fun vs w=>AB Tryz.func259 rfl (by decide) vs w⟩
instance :Av Tryz.prog 261:=⟨fun vs w=>AB Tryz.func261 rfl (by decide) vs w⟩
instance :Av Tryz.prog 262:=⟨fun vs w=>AB Tryz.func262 rfl (by decide) vs w⟩
instance :Av Tryz.prog 263:=⟨fun vs w=>AB Tryz.func263 rfl (by decide) vs w⟩
instance :Av Tryz.prog 264:=⟨fun vs w=>AB Tryz.func264 rfl (by decide) vs w⟩
instance :Av Tryz.prog 265:=⟨fun vs w=>AB Tryz.func265 rfl (by decide) vs w⟩
instance :Av Tryz.prog 266:=⟨fun vs w=>AB Tryz.func266 rfl (by decide) vs w⟩
instance :Av Tryz.prog 267:=⟨fun vs w=>AB Tryz.func267 rfl (by decide) vs w⟩
instance :Av Tryz.prog 268:=⟨fun vs w=>AB Tryz.func268 rfl (by decide) vs w⟩
instance :Av Tryz.prog 269:=⟨fun vs w=>AB Tryz.func269 rfl (by decide) vs w⟩
instance :Av Tryz.prog 270:=⟨fun vs w=>AB Tryz.func270 rfl (by decide) vs w⟩
instance :Av Tryz.prog 271:=⟨fun vs w=>AB Tryz.func271 rfl (by decide) vs w⟩
instance :Av Tryz.prog 274:=⟨fun vs w=>AB Tryz.func274 rfl (by decide) vs w⟩
instance :Av Tryz.prog 275:=⟨fun vs w=>AB Tryz.func275 rfl (by decide) vs w⟩
instance :Av Tryz.prog 276:=⟨fun vs w=>AB Tryz.func276 rfl (by decide) vs w⟩
instance :Av Tryz.prog 282:=⟨fun vs w=>AB Tryz.func282 rfl (by decide) vs w⟩
instance :Av Tryz.prog 283:=⟨fun vs w=>AB Tryz.func283 rfl (by decide) vs w⟩
instance :Av Tryz.prog 284:=⟨fun vs w=>AB Tryz.func284 rfl (by decide) vs w⟩
instance :Av Tryz.prog 285:=⟨fun vs w=>AB Tryz.func285 rfl (by decide) vs w⟩
instance :Av Tryz.prog 286:=⟨fun vs w=>AB Tryz.func286 rfl (by decide) vs w⟩
instance :Av Tryz.prog 287:=⟨fun vs w=>AB Tryz.func287 rfl (by decide) vs w⟩
instance :Av Tryz.prog 288:=⟨fun vs w=>AB Tryz.func288 rfl (by decide) vs w⟩
instance :Av Tryz.prog 289:=⟨fun vs w=>AB Tryz.func289 rfl (by decide) vs w⟩
instance :Av Tryz.prog 290:=⟨fun vs w=>AB Tryz.func290 rfl (by decide) vs w⟩
instance :Av Tryz.prog 291:=⟨fun vs w=>AB Tryz.func291 rfl (by decide) vs w⟩
instance :Av Tryz.prog 292:=⟨fun vs w=>AB Tryz.func292 rfl (by decide) vs w⟩
instance :Av Tryz.prog 293:=⟨fun vs w=>AB Tryz.func293 rfl (by decide) vs w⟩
instance :Av Tryz.prog 294:=⟨fun vs w=>AB Tryz.func294 rfl (by decide) vs w⟩
instance :Av Tryz.prog 295:=⟨fun vs w=>AB Tryz.func295 rfl (by decide) vs w⟩
instance :Av Tryz.prog 296:=⟨fun vs w=>AB Tryz.func296 rfl (by decide) vs w⟩
instance :Av Tryz.prog 297:=⟨fun vs w=>AB Tryz.func297 rfl (by decide) vs w⟩
instance :Av Tryz.prog 298:=⟨fun vs w=>AB Tryz.func298 rfl (by decide) vs w⟩
instance :Av Tryz.prog 299:=⟨fun vs w=>AB Tryz.func299 rfl (by decide) vs w⟩
instance :Av Tryz.prog 300:=⟨fun vs w=>AB Tryz.func300 rfl (by decide) vs w⟩
instance :Av Tryz.prog 301:=⟨fun vs w=>AB Tryz.func301 rfl (by decide) vs w⟩
instance :Av Tryz.prog 302:=⟨fun vs w=>AB Tryz.func302 rfl (by decide) vs w⟩
instance :Av Tryz.prog 303:=⟨fun vs w=>AB Tryz.func303 rfl (by decide) vs w⟩
instance :Av Tryz.prog 304:=⟨fun vs w=>AB Tryz.func304 rfl (by decide) vs w⟩
instance :Av Tryz.prog 305:=⟨fun vs w=>AB Tryz.func305 rfl (by decide) vs w⟩
instance :Av Tryz.prog 306:=⟨fun vs w=>AB Tryz.func306 rfl (by decide) vs w⟩
instance :Av Tryz.prog 307:=⟨fun vs w=>AB Tryz.func307 rfl (by decide) vs w⟩
instance :Av Tryz.prog 308:=⟨fun vs w=>AB Tryz.func308 rfl (by decide) vs w⟩
instance :Av Tryz.prog 309:=⟨fun vs w=>AB Tryz.func309 rfl (by decide) vs w⟩
instance :Av Tryz.prog 310:=⟨fun vs w=>AB Tryz.func310 rfl (by decide) vs w⟩
instance :Av Tryz.prog 313:=⟨fun vs w=>AB Tryz.func313 rfl (by decide) vs w⟩
instance :Av Tryz.prog 314:=⟨fun vs w=>AB Tryz.func314 rfl (by decide) vs w⟩
instance :Av Tryz.prog 315:=⟨fun vs w=>AB Tryz.func315 rfl (by decide) vs w⟩
instance :Av Tryz.prog 316:=⟨fun vs w=>AB Tryz.func316 rfl (by decide) vs w⟩
instance :Av Tryz.prog 317:=⟨fun vs w=>AB Tryz.func317 rfl (by decide) vs w⟩
instance :Av Tryz.prog 318:=⟨fun vs w=>AB Tryz.func318 rfl (by decide) vs w⟩
instance :Av Tryz.prog 319:=⟨fun vs w=>AB Tryz.func319 rfl (by decide) vs w⟩
instance :Av Tryz.prog 320:=⟨fun vs w=>AB Tryz.func320 rfl (by decide) vs w⟩
instance :Av Tryz.prog 321:=⟨fun vs w=>AB Tryz.func321 rfl (by decide) vs w⟩
instance :Av Tryz.prog 322:=⟨fun vs w=>AB Tryz.func322 rfl (by decide) vs w⟩
instance :Av Tryz.prog 323:=⟨fun vs w=>AB Tryz.func323 rfl (by decide) vs w⟩
instance :Av Tryz.prog 324:=⟨fun vs w=>AB Tryz.func324 rfl (by decide) vs w⟩
instance :Av Tryz.prog 325:=⟨fun vs w=>AB Tryz.func325 rfl (by decide) vs w⟩
instance :Av Tryz.prog 326:=⟨fun vs w=>AB Tryz.func326 rfl (by decide) vs w⟩
instance :Av Tryz.prog 327:=⟨fun vs w=>AB Tryz.func327 rfl (by decide) vs w⟩
instance :Av Tryz.prog 328:=⟨fun vs w=>AB Tryz.func328 rfl (by decide) vs w⟩
instance :Av Tryz.prog 329:=⟨fun vs w=>AB Tryz.func329 rfl (by decide) vs w⟩
instance :Av Tryz.prog 330:=⟨fun vs w=>AB Tryz.func330 rfl (by decide) vs w⟩
instance :Av Tryz.prog 339:=⟨fun vs w=>AB Tryz.func339 rfl (by decide) vs w⟩
instance :Av Tryz.prog 340:=⟨fun vs w=>AB Tryz.func340 rfl (by decide) vs w⟩
instance :Av Tryz.prog 341:=⟨fun vs w=>AB Tryz.func341 rfl (by decide) vs w⟩
instance :Av Tryz.prog 344:=⟨fun vs w=>AB Tryz.func344 rfl (by decide) vs w⟩
instance :Av Tryz.prog 348:=⟨fun vs w=>AB Tryz.func348 rfl (by decide) vs w⟩
attribute [local irreducible] EB AW B2 FW
instance sQ (a b:Dig):Bj Tryz.prog 121 [.agg (eDig a),.agg (eDig b)] (.raw (.int .i64 (DY a b))):=⟨by
 refine Aj Tryz.func121 Tryz.ntmps121 rfl (rs:= [.tmp 4]) rfl rfl fun hb LF=>?_
 refine Cx fun p=>?_
 refine Ef fun q=>?_
 refine AV (σ:=Nat) (fun k=>k≤32∧ ∀ i,i < k→a.at i=b.at i) (fun k=>32 - k) (fun k=> [(2,.raw (.pointer (some ⟨p,0,none⟩))),(3,.raw (.pointer (some ⟨q,0,none⟩))),(5,.raw (.int .i64 k))]) (fun _=> .box q 45 (eDig b):: .box p 45 (eDig a)::LF) 0 ⟨by simp,by simp⟩ ⟨rfl,rfl,rfl⟩ (.refl _) ?_
 rintro k ⟨hk,he⟩
 refine AY ?_
 refine A1 (fun hc=>?_) (fun hc=>?_)
 ·refine AY ?_
  refine A1 (fun h1=>?_) (fun h1=>?_)
  ·refine AY ?_
   refine Al (.of_eq ?_)
   have h2:a.at k < b.at k:=by rw[UInt8.lt_iff_toNat_lt];omega
   rw[ca (by omega) he (fun e=>by rw[e]at h2;exact UInt8.lt_irrefl _ h2),if_pos h2]
  ·refine AY ?_
   refine A1 (fun h2=>?_) (fun h2=>?_)
   ·refine AY ?_
    refine Al (.of_eq ?_)
    have h3: ¬a.at k < b.at k:=by rw[UInt8.lt_iff_toNat_lt];omega
    rw[ca (by omega) he (fun e=>by rw[e]at h2;omega),if_neg h3]
   ·refine AY ?_
    refine⟨k+1,⟨by omega,fun i hi=>?_⟩,by dsimp only;omega,⟨rfl,rfl,rfl⟩,.refl _⟩
    rcases BC i k with h'|h'
    ·exact he i h'
    ·have:i=k:=by omega
     subst this
     exact UInt8.toNat.inj (by omega)
 ·refine AY ?_
  refine Al (.of_eq ?_)
  rw[LS.2 (Dig.ext_at fun i hi=>he i (by omega))]⟩
instance vd (a:Dig):Bj Tryz.prog 170 [.agg (eDig a)] (.raw (.bool (decide (a=Dig.zero)))):=⟨by
 refine Aj Tryz.func170 Tryz.ntmps170 rfl (rs:= [.tmp 2]) rfl rfl fun hb LF=>?_
 refine Cx fun p=>?_
 exact⟨trivial,_,[],.cons (.tmp 2) .nil,.cons _ (.refl _),.refl _,rfl⟩⟩
instance vL (l m:List Dig) (t u:CZ):Bj Tryz.prog 33 [.slice (l.map eDig) t,.slice (m.map eDig) u] (.raw (.bool (decide (l=m)))):=⟨by
 refine Aj Tryz.func33 Tryz.ntmps33 rfl (rs:= [.tmp 4]) rfl rfl fun hb LF=>?_
 have hlen:l.length≤140737488355328:=(hb (.slice (l.map eDig) t) (by simp)).slice_map
 refine AY ?_
 refine AN (fun h1=>?_) (fun h1=>?_)
 ·refine AY ?_
  refine Al (.of_eq ?_)
  have: ¬l=m:=fun e=>h1 (by rw[e])
  simp[this]
 ·refine AY ?_
  have hl:l.length=m.length:=by omega
  refine AV (σ:=Nat) (fun k=>k≤l.length∧l.take k=m.take k) (fun k=>l.length - k) (fun k=> [(0,.slice (l.map eDig) t),(1,.slice (m.map eDig) u),(5,.raw (.int .i64 k))]) (fun _=>LF) 0 ⟨by simp,by simp⟩ ⟨rfl,rfl,rfl⟩ (.refl _) ?_
  rintro k ⟨hk,he⟩
  refine AY ?_
  refine A1 (fun hc=>?_) (fun hc=>?_)
  ·refine AY ?_
   refine AN (fun h2=>?_) (fun h2=>?_)
   ·refine AY ?_
    refine Al (.of_eq ?_)
    have: ¬l=m:=fun e=>h2 (by simp[e])
    simp[this]
   ·refine AY ?_
    refine⟨k+1,⟨by omega,?_⟩,by dsimp only;omega,⟨rfl,rfl,rfl⟩,.refl _⟩
    rw[A6 (by omega),A6 (by omega),he,h2]
  ·refine AY ?_
   refine Al (.of_eq ?_)
   have:l=m:=by
    rw[AA (by omega),AA (by omega)]at he
    exact he
   simp[this]⟩
instance xi (l:List Dig) (d:Dig) (t:CZ):Bj Tryz.prog 82 [.slice (l.map eDig) t,.agg (eDig d)] (.raw (.bool (decide (d∈l)))):=⟨by
 refine Aj Tryz.func82 Tryz.ntmps82 rfl (rs:= [.tmp 4]) rfl rfl fun hb LF=>?_
 have hlen:l.length≤140737488355328:=(hb (.slice (l.map eDig) t) (by simp)).slice_map
 refine Cx fun b=>?_
 refine AV (σ:=Nat) (fun k=>k≤l.length∧ ∀ i (h:i < l.length),i < k→d≠l[i]) (fun k=>l.length - k) (fun k=> [(0,.slice (l.map eDig) t),(3,.raw (.pointer (some ⟨b,0,none⟩))),(5,.raw (.int .i64 k))]) (fun _=> .box b 45 (eDig d)::LF) 0 ⟨by simp,by simp⟩ ⟨rfl,rfl,rfl⟩ (.refl _) ?_
 rintro k ⟨hk,hne⟩
 refine AY ?_
 refine A1 (fun hc=>?_) (fun hc=>?_)
 ·refine AY ?_
  refine A1 (fun he=>?_) (fun he=>?_)
  ·refine AY ?_;refine Al (.of_eq ?_)
   have:d∈l:=he ▸ AO _
   simp[this]
  ·refine AY ?_
   refine⟨k+1,⟨by omega,fun i h hi=>?_⟩,by dsimp only;omega,⟨rfl,rfl,rfl⟩,.refl _⟩
   rcases BC i k with h'|h'
   ·exact hne i h h'
   ·have:i=k:=by omega
    subst this;exact fun e=>he e.symm
 ·refine AY ?_;refine Al (.of_eq ?_)
  have: ¬d∈l:=fun h=>by
   obtain⟨i,hi,e⟩:=Ak.1 h
   exact hne i hi (by omega) e.symm
  simp[this]⟩
def Ck (l m:List Dig):Bool:=m.all (fun x=>decide (x∈l))
instance xc (l m:List Dig) (t u:CZ):Bj Tryz.prog 122 [.slice (l.map eDig) t,.slice (m.map eDig) u] (.raw (.bool (Ck l m))):=⟨by
 refine Aj Tryz.func122 Tryz.ntmps122 rfl (rs:= [.tmp 4]) rfl rfl fun hb LF=>?_
 have hlen:m.length≤140737488355328:=(hb (.slice (m.map eDig) u) (by simp)).slice_map
 refine AY ?_
 refine AV (σ:=Nat) (fun k=>k≤m.length∧ ∀ i (h:i < m.length),i < k→m[i]∈l) (fun k=>m.length - k) (fun k=> [(0,.slice (l.map eDig) t),(1,.slice (m.map eDig) u),(5,.raw (.int .i64 k))]) (fun _=>LF) 0 ⟨by simp,by simp⟩ ⟨rfl,rfl,rfl⟩ (.refl _) ?_
 rintro k ⟨hk,hne⟩
 refine AY ?_
 refine A1 (fun hc=>?_) (fun hc=>?_)
 ·refine AY ?_
  refine AN (fun he=>?_) (fun he=>?_)
  ·refine AY ?_;refine Al (.of_eq ?_)
   have:Ck l m=false:=by
    unfold Ck;rw[L9];exact⟨_,AO _,by simpa using he⟩
   rw[this]
  ·refine AY ?_
   refine⟨k+1,⟨by omega,fun i h hi=>?_⟩,by dsimp only;omega,⟨rfl,rfl,rfl⟩,.refl _⟩
   rcases BC i k with h'|h'
   ·exact hne i h h'
   ·have:i=k:=by omega
    subst this;exact he
 ·refine AY ?_;refine Al (.of_eq ?_)
  have:Ck l m=true:=by
   unfold Ck;rw[B5];intro x hx
   obtain⟨i,hi,rfl⟩:=Ak.1 hx
   simpa using hne i hi (by omega)
  rw[this]⟩
def ids (s:List Sto):List Dig:=s.map (·.id)
instance xg (s:List Sto) (t:CZ):Bj Tryz.prog 80 [.slice (s.map eSto) t] (.slice ((ids s).map eDig) .ro):=⟨by
 refine Aj Tryz.func80 Tryz.ntmps80 rfl (rs:= [.tmp 2]) rfl rfl fun hb LF=>?_
 have hlen:s.length*37≤140737488355328:=(hb (.slice (s.map eSto) t) (by simp)).slice_cells
 refine AY ?_
 refine Dw 32 ?_
 refine AV (σ:=Nat × CZ) (fun k=>k.1≤s.length) (fun k=>s.length - k.1) (fun k=> [(0,.slice (s.map eSto) t),(3,.slice ((ids (s.take k.1)).map eDig) k.2),(4,.raw (.int .i64 k.1))]) (fun k=> .tok k.2 (ids (s.take k.1)).length 32::LF) (0,.nil) (by simp) ⟨rfl,rfl,rfl⟩ (.refl _) ?_
 rintro⟨k,u⟩ hk
 dsimp only at hk
 refine AY ?_
 refine A1 (fun hc=>?_) (fun hc=>?_)
 ·have hl:(ids (s.take k)).length=k:=by simp[ids];omega
  refine GX fun v=>?_
  have e:ids (s.take (k+1))=ids (s.take k)++ [s[k].id]:=by
   rw[A6 (by omega)];simp only[ids,Az,BH,CX]
  refine⟨(k+1,v),by dsimp only;omega,by dsimp only;omega,⟨rfl,by dsimp only;rw[e];rfl,rfl⟩,by dsimp only;rw[e];exact .refl _⟩
 ·refine AY ?_
  refine Al (.ros ?_)
  rw[AA (by omega)]⟩
def getS:List Sto→Dig→Option Pat
 | [],_=>none
 |x::s,d=>if x.id=d then some x.patch else getS s d
theorem eR {s:List Sto} {d:Dig} (h: ∀ i (h:i < s.length),s[i].id≠d):getS s d=none:=by
 induction s with
 |nil=>rfl
 |cons x s ih=>
  have h0:=h 0 (by simp)
  simp only[B8]at h0
  simp only[getS,h0,if_false]
  exact ih fun i hi=>by have:=h (i+1) (by simpa using hi);simpa using this
theorem eP {s:List Sto} {d:Dig} {k:Nat} (hk:k < s.length) (h: ∀ i (h:i < s.length),i < k→s[i].id≠d) (he:s[k].id=d):getS s d=some s[k].patch:=by
 induction s generalizing k with
 |nil=>simp at hk
 |cons x s ih=>
  cases k with
  |zero=>simp only[B8]at he ⊢;simp[getS,he]
  |succ k=>
   have h0:=h 0 (by simp) (by omega)
   simp only[B8]at h0
   simp only[getS,h0,if_false,Ct]
   exact ih (by simpa using hk) (fun i hi hik=>by have:=h (i+1) (by simpa using hi) (by omega);simpa using this) (by simpa using he)
def xT (o:Option Pat):PV:= .tuple [.agg (Cc (o.getD Pat.zero)),.raw (.bool o.isSome)]
instance sK (s:List Sto) (d:Dig) (t:CZ):Bj Tryz.prog 25 [.slice (s.map eSto) t,.agg (eDig d)] (xT (getS s d)):=⟨by
 refine Aj Tryz.func25 Tryz.ntmps25 rfl (rs:= [.cell 4 42,.tmp 5]) rfl rfl fun hb LF=>?_
 have hlen:s.length≤140737488355328:=(hb (.slice (s.map eSto) t) (by simp)).slice_map
 refine Cx fun b=>?_
 refine Ef fun r=>?_
 refine AV (σ:=Nat) (fun k=>k≤s.length∧ ∀ i (h:i < s.length),i < k→s[i].id≠d) (fun k=>s.length - k) (fun k=> [(0,.slice (s.map eSto) t),(3,.raw (.pointer (some ⟨b,0,none⟩))),(4,.raw (.pointer (some ⟨r,0,none⟩))),(6,.raw (.int .i64 k))]) (fun _=> .box r 42 (Cc Pat.zero):: .box b 45 (eDig d)::LF) 0 ⟨by simp,by simp⟩ ⟨rfl,rfl,rfl,rfl⟩ (.refl _) ?_
 rintro k ⟨hk,hne⟩
 refine AY ?_
 refine A1 (fun hc=>?_) (fun hc=>?_)
 ·refine AY ?_
  refine A1 (fun he=>?_) (fun he=>?_)
  ·refine AY ?_
   refine CJ rfl (.of_eq ?_)
   rw[eP (by omega) hne he];rfl
  ·refine AY ?_
   refine⟨k+1,⟨by omega,fun i h hi=>?_⟩,by dsimp only;omega,⟨rfl,rfl,rfl,rfl⟩,.refl _⟩
   rcases BC i k with h'|h'
   ·exact hne i h h'
   ·have:i=k:=by omega
    subst this;exact he
 ·refine AY ?_
  refine CJ rfl (.of_eq ?_)
  rw[eR fun i h=>hne i h (by omega)];rfl⟩
set_option maxHeartbeats 1000000 in
instance we (l:List Dig) (d:Dig) (t:CZ) [hs:B0 (l.length≤1000000)]:Bj Tryz.prog 83 [.slice (l.map eDig) t,.agg (eDig d)] (.slice ((Fu l d).map eDig) .ro):=⟨by
 refine Aj Tryz.func83 Tryz.ntmps83 rfl (rs:= [.tmp 4]) rfl rfl fun hb LF=>?_
 have hlen:l.length≤1000000:=hs.out
 refine Cx fun b=>?_
 refine AV (σ:=Nat) (fun k=>k≤l.length∧ ∀ i (h:i < l.length),i < k→Dig.lt l[i] d) (fun k=>l.length - k) (fun k=> [(0,.slice (l.map eDig) t),(3,.raw (.pointer (some ⟨b,0,none⟩))),(5,.raw (.int .i64 k))]) (fun _=> .box b 45 (eDig d)::LF) 0 ⟨by simp,by simp⟩ ⟨rfl,rfl,rfl⟩ (.refl _) ?_
 rintro k ⟨hk,hne⟩
 refine AY ?_
 refine Aw (fun hp=>?_) (fun hp=>?_)
 ·have hc:(k:Int) < l.length:=An hp
  refine Bp ?_
  refine A1 (fun h1=>?_) (fun h1=>?_)
  ·refine AY ?_
   refine⟨k+1,⟨by omega,fun i h hi=>?_⟩,by dsimp only;omega,⟨rfl,rfl,rfl⟩,.refl _⟩
   rcases BC i k with h'|h'
   ·exact hne i h h'
   ·have:i=k:=by omega
    subst this;exact h1
  ·refine AY ?_
   refine A1 (fun h2=>?_) (fun h2=>?_)
   ·refine AY ?_
    refine Al (.ros ?_)
    rw[PA hk hne (fun _=>h1),if_pos ⟨by omega,h2⟩]
   ·refine GX fun t1=>?_
    refine Fk fun t2=>?_
    refine Fk fun t3=>?_
    refine Al (.ros ?_)
    rw[PA hk hne (fun _=>h1),if_neg (fun⟨_,e⟩=>h2 e)]
    simp
 ·have hc: ¬(k:Int) < l.length:=B6 hp
  refine Bp ?_
  refine Fk fun t1=>?_
  refine Fk fun t2=>?_
  refine Fk fun t3=>?_
  refine Al (.ros ?_)
  rw[PA hk hne (fun h=>absurd (show(k:Int) < l.length by omega) hc),if_neg (fun⟨h,_⟩=>hc (by omega))]
  simp⟩
def SG (k:Int):Int:=if k=7 then 0 else k
def Ig (k:Int):Bool:=decide (k=5)||decide (k=6)
def Gy (x:Ident):Bool:=!decide (x.patch=Dig.zero)
def rDirectory (x:Atm):Bool:=decide (x.kind=1)&&decide (x.type=4)
def Dn (x:Ident) (n:Int):Bool:=if x.patch=Dig.zero then decide (0≤x.n)&&decide (x.n < n)else decide (0≤x.n)&&decide (x.n < 100000)
def EE (k:Int) (x:Atm):Bool:=if x.kind≠1 then false else if Ig k then decide (x.type=1)else !decide (k=4)||decide (x.type=2)||decide (x.type=3)
def JM (f:Ident) (x:Atm):Bool:=decide (x.kind=5)&&decide (x.file=f)
instance wA:Bj Tryz.prog 339 [] (.agg (eIdent Ident.zero)):=⟨by
 refine Aj Tryz.func339 Tryz.ntmps339 rfl (rs:= [.cell 0 98]) rfl rfl fun hb LF=>?_
 refine Cx fun b=>?_
 exact FK rfl (.refl _)⟩
instance wh:Bj Tryz.prog 202 [] (.agg (eIdent ⟨Dig.zero,-1⟩)):=⟨by
 refine Aj Tryz.func202 Tryz.ntmps202 rfl (rs:= [.cell 0 98]) rfl rfl fun hb LF=>?_
 refine Cx fun b=>?_
 exact FK rfl (.refl _)⟩
instance vj (k:Int):Bj Tryz.prog 259 [.raw (.int .i64 k)] (.raw (.int .i64 (SG k))):=⟨by
 refine Aj Tryz.func259 Tryz.ntmps259 rfl (rs:= [.tmp 2]) rfl rfl fun hb LF=>?_
 refine AY ?_
 refine A1 (fun h=>?_) (fun h=>?_)
 ·refine AY ?_
  refine Al (.of_eq ?_)
  simp[SG,h]
 ·refine AY ?_
  refine Al (.of_eq ?_)
  simp[SG,h]⟩
instance vv (k:Int):Bj Tryz.prog 257 [.raw (.int .i64 k)] (.raw (.bool (Ig k))):=⟨by
 refine Aj Tryz.func257 Tryz.ntmps257 rfl (rs:= [.tmp 2]) rfl rfl fun hb LF=>?_
 refine AY ?_
 refine Aw (fun hp=>?_) (fun hp=>?_)
 ·refine Bp ?_
  refine Al (.of_eq ?_)
  simp_all[Ig]
 ·refine Bp ?_
  refine Al (.of_eq ?_)
  simp_all[Ig]⟩
instance uK (x:Ident):Bj Tryz.prog 213 [.agg (eIdent x)] (.raw (.bool (Gy x))):=⟨by
 refine Aj Tryz.func213 Tryz.ntmps213 rfl (rs:= [.tmp 2]) rfl rfl fun hb LF=>?_
 refine Cx fun b=>?_
 refine Al (.of_eq ?_)
 rfl⟩
instance nR (x:Atm):Bj Tryz.prog 216 [.agg (eAtm x)] (.raw (.bool (rDirectory x))):=⟨by
 refine Aj Tryz.func216 Tryz.ntmps216 rfl (rs:= [.tmp 2]) rfl rfl fun hb LF=>?_
 refine Cx fun b=>?_
 refine Aw (fun hp=>?_) (fun hp=>?_)
 ·refine Bp ?_
  refine Al (.of_eq ?_)
  simp_all[rDirectory]
 ·refine Bp ?_
  refine Al (.of_eq ?_)
  simp_all[rDirectory]⟩
instance s9 (x:Ident) (n:Int):Bj Tryz.prog 341 [.agg (eIdent x),.raw (.int .i64 n)] (.raw (.bool (Dn x n))):=⟨by
 refine Aj Tryz.func341 Tryz.ntmps341 rfl (rs:= [.tmp 4]) rfl rfl fun hb LF=>?_
 refine Cx fun b=>?_
 refine A1 (fun h=>?_) (fun h=>?_)
 ·refine AY ?_
  refine Aw (fun hp=>?_) (fun hp=>?_)
  ·refine Bp ?_
   refine Al (.of_eq ?_)
   simp_all[Dn]<;>omega
  ·refine Bp ?_
   refine Al (.of_eq ?_)
   simp_all[Dn]<;>omega
 ·refine AY ?_
  refine Aw (fun hp=>?_) (fun hp=>?_)
  ·refine Bp ?_
   refine Al (.of_eq ?_)
   simp_all[Dn]<;>omega
  ·refine Bp ?_
   refine Al (.of_eq ?_)
   simp_all[Dn]<;>omega⟩
instance pw (k:Int) (x:Atm):Bj Tryz.prog 215 [.raw (.int .i64 k),.agg (eAtm x)] (.raw (.bool (EE k x))):=⟨by
 refine Aj Tryz.func215 Tryz.ntmps215 rfl (rs:= [.tmp 4]) rfl rfl fun hb LF=>?_
 refine Cx fun b=>?_
 refine AN (fun h=>?_) (fun h=>?_)
 ·refine AY ?_
  refine Al (.of_eq ?_)
  simp[EE,h]
 ·refine AY ?_
  refine AU (fun h2=>?_) (fun h2=>?_)
  ·refine AY ?_
   refine Al (.of_eq ?_)
   simp[EE,h,h2]
  ·refine AY ?_
   refine Aw (fun hp=>?_) (fun hp=>?_)
   ·refine Bp ?_
    refine Al (.of_eq ?_)
    simp_all[EE]
   ·refine Bp ?_
    refine Aw (fun hq=>?_) (fun hq=>?_)
    ·refine Bp ?_
     refine Al (.of_eq ?_)
     simp_all[EE]
    ·refine Bp ?_
     refine Al (.of_eq ?_)
     simp_all[EE]⟩
instance sL (f:Ident) (x:Atm):Bj Tryz.prog 258 [.agg (eIdent f),.agg (eAtm x)] (.raw (.bool (JM f x))):=⟨by
 refine Aj Tryz.func258 Tryz.ntmps258 rfl (rs:= [.tmp 4]) rfl rfl fun hb LF=>?_
 refine Cx fun b=>?_
 refine Ef fun b2=>?_
 refine Aw (fun hp=>?_) (fun hp=>?_)
 ·refine Bp ?_
  refine Al (.of_eq ?_)
  simp_all[JM]
 ·refine Bp ?_
  refine Al (.of_eq ?_)
  simp_all[JM]⟩
def H8 (k:Int) (f:Ident) (x:Atm):Bool:=decide (SG k=0)||decide (x.kind=SG k)&&decide (x.file=f)
def JL (x:Ident) (own:List Atm) (fits:Bool):Int:=if Dn x own.length=false then 7 else if x.patch=Dig.zero∧fits=false then 8 else 0
def LN (own:List Atm) (x:Ident):Atm:=if x.patch=Dig.zero∧0≤x.n then own.getD x.n.toNat Atm.zero else Atm.zero
def H9 (x:Ident) (d:Dig):Ident:=if 0≤x.n∧x.patch=Dig.zero then { x with patch:=d }else x
def Dm (x:Ident) (d:Dig):Ident:=if x.patch=Dig.zero∧0≤x.n then { x with patch:=d }else x
instance pr (k:Int) (f:Ident) (x:Atm):Bj Tryz.prog 218 [.raw (.int .i64 k),.agg (eIdent f),.agg (eAtm x)] (.raw (.bool (H8 k f x))):=⟨by
 refine Aj Tryz.func218 Tryz.ntmps218 rfl (rs:= [.tmp 6]) rfl rfl fun hb LF=>?_
 refine Cx fun b=>?_
 refine Ef fun b2=>?_
 refine Aw (fun hp=>?_) (fun hp=>?_)
 ·refine Bp ?_
  refine Al (.of_eq ?_)
  simp_all[H8]
 ·refine Bp ?_
  refine Aw (fun hq=>?_) (fun hq=>?_)
  ·refine Bp ?_
   refine Al (.of_eq ?_)
   simp_all[H8]
  ·refine Bp ?_
   refine Al (.of_eq ?_)
   simp_all[H8]⟩
instance xU (x:Ident) (own:List Atm) (t:CZ) (fits:Bool):Bj Tryz.prog 317 [.agg (eIdent x),.slice (own.map eAtm) t,.raw (.bool fits)] (.raw (.int .i64 (JL x own fits))):=⟨by
 refine Aj Tryz.func317 Tryz.ntmps317 rfl (rs:= [.tmp 6]) rfl rfl fun hb LF=>?_
 refine Cx fun b=>?_
 refine AU (fun h=>?_) (fun h=>?_)
 ·refine AY ?_
  refine Al (.of_eq ?_)
  simp_all[JL]
 ·refine AY ?_
  refine Aw (fun hp=>?_) (fun hp=>?_)
  ·refine Bp ?_
   refine AU (fun h2=>?_) (fun h2=>?_)
   ·refine AY ?_
    refine Al (.of_eq ?_)
    simp_all[JL]
   ·refine AY ?_
    refine Al (.of_eq ?_)
    simp_all[JL]
  ·refine Bp ?_
   refine Al (.of_eq ?_)
   simp_all[JL]⟩
instance xZ (own:List Atm) (t:CZ) (x:Ident):Bj Tryz.prog 318 [.slice (own.map eAtm) t,.agg (eIdent x)] (.agg (eAtm (LN own x))):=⟨by
 refine Aj Tryz.func318 Tryz.ntmps318 rfl (rs:= [.cell 4 180]) rfl rfl fun hb LF=>?_
 refine Cx fun b=>?_
 refine Ef fun b2=>?_
 refine Aw (fun hp=>?_) (fun hp=>?_)
 ·refine Bp ?_
  refine Aw (fun hq=>?_) (fun hq=>?_)
  ·refine Bp ?_
   refine A1 (fun h=>?_) (fun h=>?_)
   ·have h0:0≤x.n:=An hq
    refine AY ?_
    refine FK rfl (.of_eq ?_)
    have:x.n.toNat < own.length:=by omega
    simp_all[LN]
   ·refine AY ?_
    refine FK rfl (.of_eq ?_)
    have h0:0≤x.n:=An hq
    have: ¬x.n.toNat < own.length:=by omega
    simp_all[LN]
  ·refine Bp ?_
   refine FK rfl (.of_eq ?_)
   have h0: ¬0≤x.n:=B6 hq
   simp[LN,h0]
 ·refine Bp ?_
  refine FK rfl (.of_eq ?_)
  simp_all[LN]⟩
instance pQ (x:Ident) (d:Dig):Bj Tryz.prog 219 [.agg (eIdent x),.agg (eDig d)] (.agg (eIdent (H9 x d))):=⟨by
 refine Aj Tryz.func219 Tryz.ntmps219 rfl (rs:= [.cell 4 98]) rfl rfl fun hb LF=>?_
 refine Cx fun b=>?_
 refine Ef fun b2=>?_
 refine Ef fun b3=>?_
 refine Aw (fun hp=>?_) (fun hp=>?_)
 ·refine Bp ?_
  refine A1 (fun h=>?_) (fun h=>?_)
  ·refine AY ?_
   refine FK rfl (.of_eq ?_)
   simp_all[H9]
  ·refine AY ?_
   refine FK rfl (.of_eq ?_)
   simp_all[H9]
 ·refine Bp ?_
  refine FK rfl (.of_eq ?_)
  have h0: ¬0≤x.n:=B6 hp
  simp[H9,h0]⟩
instance ti (x:Ident) (d:Dig):Bj Tryz.prog 291 [.agg (eIdent x),.agg (eDig d)] (.agg (eIdent (Dm x d))):=⟨by
 refine Aj Tryz.func291 Tryz.ntmps291 rfl (rs:= [.cell 4 98]) rfl rfl fun hb LF=>?_
 refine Cx fun b=>?_
 refine Ef fun b2=>?_
 refine Ef fun b3=>?_
 refine Aw (fun hp=>?_) (fun hp=>?_)
 ·refine Bp ?_
  refine A1 (fun h=>?_) (fun h=>?_)
  ·refine AY ?_
   refine FK rfl (.of_eq ?_)
   simp_all[Dm]
  ·refine AY ?_
   refine FK rfl (.of_eq ?_)
   simp[Dm,h]
 ·refine Bp ?_
  refine FK rfl (.of_eq ?_)
  simp_all[Dm]⟩
def J6 (a b:Ident):Int:=if DY a.patch b.patch≠0 then DY a.patch b.patch else if a.n < b.n then -1 else if b.n < a.n then 1 else 0
instance pz (a b:Ident):Bj Tryz.prog 322 [.agg (eIdent a),.agg (eIdent b)] (.raw (.int .i64 (J6 a b))):=⟨by
 refine Aj Tryz.func322 Tryz.ntmps322 rfl (rs:= [.tmp 4]) rfl rfl fun hb LF=>?_
 refine Cx fun p=>?_
 refine Ef fun q=>?_
 refine AN (fun h=>?_) (fun h=>?_)
 ·refine AY ?_
  refine Al (.of_eq ?_)
  simp[J6,h]
 ·refine AY ?_
  refine A1 (fun h1=>?_) (fun h1=>?_)
  ·refine AY ?_
   refine Al (.of_eq ?_)
   simp[J6,h,h1]
  ·refine AY ?_
   refine A1 (fun h2=>?_) (fun h2=>?_)
   ·refine AY ?_
    refine Al (.of_eq ?_)
    simp[J6,h,h1,h2]
   ·refine AY ?_
    refine Al (.of_eq ?_)
    simp[J6,h,h1,h2]⟩
def Qf (l:List Ident):Bool:=(List.range (l.length - 1)).all fun i=>decide (J6 (l.getD i Ident.zero) (l.getD (i+1) Ident.zero) < 0)
instance nw (l:List Ident) (t:CZ):Bj Tryz.prog 316 [.slice (l.map eIdent) t] (.raw (.bool (Qf l))):=⟨by
 refine Aj Tryz.func316 Tryz.ntmps316 rfl (rs:= [.tmp 2]) rfl rfl fun hb LF=>?_
 have hlen:l.length≤140737488355328:=(hb (.slice (l.map eIdent) t) (by simp)).slice_map
 refine AY ?_
 refine AV (σ:=Nat) (fun k=>1≤k∧ ∀ i,i+1 < k→i+1 < l.length→J6 (l.getD i Ident.zero) (l.getD (i+1) Ident.zero) < 0) (fun k=>l.length - k) (fun k=> [(0,.slice (l.map eIdent) t),(3,.raw (.int .i64 k))]) (fun _=>LF) 1 ⟨by simp,fun i h=>by omega⟩ ⟨rfl,rfl⟩ (.refl _) ?_
 rintro k ⟨hk,he⟩
 refine AY ?_
 refine A1 (fun hc=>?_) (fun hc=>?_)
 ·obtain⟨j,rfl⟩: ∃ j,k=j+1:=⟨k - 1,by omega⟩
  refine AY ?_
  have e:((↑(j+1):Int) - 1).toNat=j:=by omega
  have hj:j+1 < l.length:=by omega
  refine A1 (fun h1=>?_) (fun h1=>?_)
  ·refine AY ?_
   refine Al (.of_eq ?_)
   simp only[e]at h1
   have:Qf l=false:=by
    unfold Qf
    rw[L9]
    refine⟨j,DS.2 (by omega),?_⟩
    simp only[AJ,Eu,AZ hj,AZ (show j < l.length by omega),BO]
    omega
   rw[this]
  ·refine AY ?_
   simp only[e]at h1
   refine⟨j+1+1,⟨by omega,fun i h2 h3=>?_⟩,by dsimp only;omega,⟨rfl,rfl⟩,.refl _⟩
   rcases BC (i+1) (j+1)with h'|h'
   ·exact he i h' h3
   ·have:i=j:=by omega
    subst this
    simp only[Eu,AZ hj,AZ (show i < l.length by omega),BO]
    omega
 ·refine AY ?_
  refine Al (.of_eq ?_)
  have:Qf l=true:=by
   unfold Qf
   rw[B5]
   intro i hi
   rw[DS]at hi
   exact Bh (he i (by omega) (by omega))
  rw[this]⟩
instance sF (l m:List Ident) (t u:CZ):Bj Tryz.prog 158 [.slice (l.map eIdent) t,.slice (m.map eIdent) u] (.raw (.bool (decide (l=m)))):=⟨by
 refine Aj Tryz.func158 Tryz.ntmps158 rfl (rs:= [.tmp 4]) rfl rfl fun hb LF=>?_
 have hlen:l.length≤140737488355328:=(hb (.slice (l.map eIdent) t) (by simp)).slice_map
 refine AY ?_
 refine AN (fun h1=>?_) (fun h1=>?_)
 ·refine AY ?_
  refine Al (.of_eq ?_)
  have: ¬l=m:=fun e=>h1 (by rw[e])
  simp[this]
 ·refine AY ?_
  have hl:l.length=m.length:=by omega
  refine AV (σ:=Nat) (fun k=>k≤l.length∧l.take k=m.take k) (fun k=>l.length - k) (fun k=> [(0,.slice (l.map eIdent) t),(1,.slice (m.map eIdent) u),(5,.raw (.int .i64 k))]) (fun _=>LF) 0 ⟨by simp,by simp⟩ ⟨rfl,rfl,rfl⟩ (.refl _) ?_
  rintro k ⟨hk,he⟩
  refine AY ?_
  refine A1 (fun hc=>?_) (fun hc=>?_)
  ·refine AY ?_
   refine AN (fun h2=>?_) (fun h2=>?_)
   ·refine AY ?_
    refine Al (.of_eq ?_)
    have: ¬l=m:=fun e=>h2 (by simp[e])
    simp[this]
   ·refine AY ?_
    refine⟨k+1,⟨by omega,?_⟩,by dsimp only;omega,⟨rfl,rfl,rfl⟩,.refl _⟩
    rw[A6 (by omega),A6 (by omega),he,h2]
  ·refine AY ?_
   refine Al (.of_eq ?_)
   have:l=m:=by
    rw[AA (by omega),AA (by omega)]at he
    exact he
   simp[this]⟩
instance vJ (l m:List Str) (t u:CZ):Bj Tryz.prog 157 [.slice (l.map eS) t,.slice (m.map eS) u] (.raw (.bool (decide (l=m)))):=⟨by
 refine Aj Tryz.func157 Tryz.ntmps157 rfl (rs:= [.tmp 4]) rfl rfl fun hb LF=>?_
 have hlen:l.length≤140737488355328:=(hb (.slice (l.map eS) t) (by simp)).slice_map
 refine AY ?_
 refine AN (fun h1=>?_) (fun h1=>?_)
 ·refine AY ?_
  refine Al (.of_eq ?_)
  have: ¬l=m:=fun e=>h1 (by rw[e])
  simp[this]
 ·refine AY ?_
  have hl:l.length=m.length:=by omega
  refine AV (σ:=Nat) (fun k=>k≤l.length∧l.take k=m.take k) (fun k=>l.length - k) (fun k=> [(0,.slice (l.map eS) t),(1,.slice (m.map eS) u),(5,.raw (.int .i64 k))]) (fun _=>LF) 0 ⟨by simp,by simp⟩ ⟨rfl,rfl,rfl⟩ (.refl _) ?_
  rintro k ⟨hk,he⟩
  refine AY ?_
  refine A1 (fun hc=>?_) (fun hc=>?_)
  ·refine AY ?_
   refine AN (fun h2=>?_) (fun h2=>?_)
   ·refine AY ?_
    refine Al (.of_eq ?_)
    have: ¬l=m:=fun e=>h2 (by simp[e])
    simp[this]
   ·refine AY ?_
    refine⟨k+1,⟨by omega,?_⟩,by dsimp only;omega,⟨rfl,rfl,rfl⟩,.refl _⟩
    rw[A6 (by omega),A6 (by omega),he,h2]
  ·refine AY ?_
   refine Al (.of_eq ?_)
   have:l=m:=by
    rw[AA (by omega),AA (by omega)]at he
    exact he
   simp[this]⟩
theorem rr (a b:Chg):decide (a=b)=(decide (a.kind=b.kind)&&decide (a.file=b.file)&&decide (a.type=b.type)&&decide (a.parent=b.parent)&&decide (a.name=b.name)&&decide (a.mode=b.mode)&&decide (a.data=b.data)&&decide (a.after=b.after)&&decide (a.before=b.before)&&decide (a.lines=b.lines)&&decide (a.over=b.over)):=by
 cases a;cases b;rw[IA];simp[and_assoc]
instance l0 (a b:Chg):Bj Tryz.prog 106 [.agg (BG a),.agg (BG b)] (.raw (.bool (decide (a=b)))):=⟨by
 refine Aj Tryz.func106 Tryz.ntmps106 rfl (rs:= [.tmp 4]) rfl rfl fun hb LF=>?_
 rw[rr]
 refine Cx fun p=>?_
 refine Ef fun q=>?_
 iterate 10
  refine Aw (fun hp=>?_) (fun hp=>by
   refine Bp ?_
   refine Al (.of_eq ?_)
   simp_all)
  refine Bp ?_
 refine Al (.of_eq ?_)
 simp_all⟩
end Go.Proofs
