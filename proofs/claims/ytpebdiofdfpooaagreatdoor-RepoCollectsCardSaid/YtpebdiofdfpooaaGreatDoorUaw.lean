/- What the inputs of the rows are: repositories, names, what is done with a repository. -/
import Derived.Test.YtpebdiofdfpooaaGreatDoorUav
import Derived.Test.YtpebdiofdfpooaaGreatDoorUad
set_option linter.unusedSimpArgs false
set_option linter.unusedVariables false
namespace Go.Proofs
open Go Go.Q Go.ChangeShapes Go.WideShapes Go.ChangeAt Go.WideMaps Go.WideElems Go.RowKit
theorem wM:DY Tryz.prog 78 (fun xs=> ∃ c,xs=eBrn c):=
 DY.to (Fh (n:=2) (r:= [(9,0),(39,1)]) (by kernel_rfl) (by kernel_rfl) (.cons 1 (by kernel_rfl) Kh (.cons 1 (by kernel_rfl) aw (.nil _))))
  fun xs ⟨_,.cons ⟨a0,e0⟩ (.cons ⟨a1,e1⟩ .nil),e⟩=>⟨⟨a0,a1⟩,by subst e0 e1 e;simp[eBrn,eS]⟩
theorem wG:DY Tryz.prog 80 (fun xs=> ∃ c,xs=eTgg c):=
 DY.to (Fh (n:=3) (r:= [(9,0),(9,1),(39,2)]) (by kernel_rfl) (by kernel_rfl) (.cons 1 (by kernel_rfl) Kh (.cons 1 (by kernel_rfl) Kh (.cons 1 (by kernel_rfl) aw (.nil _)))))
  fun xs ⟨_,.cons ⟨a0,e0⟩ (.cons ⟨a1,e1⟩ (.cons ⟨a2,e2⟩ .nil)),e⟩=>⟨⟨a0,a1,a2⟩,by subst e0 e1 e2 e;simp[eTgg,eS]⟩
theorem sk:DY Tryz.prog 24 (fun xs=> ∃ l:List Brn,xs= [.slice (l.map eBrn) .ro]):=DY.list (sz:=2) wM (fun _=>by simp) (by kernel_rfl) (by kernel_rfl) rfl (by decide) (ble (by kernel_rfl))
theorem sh:DY Tryz.prog 25 (fun xs=> ∃ l:List Tgg,xs= [.slice (l.map eTgg) .ro]):=DY.list (sz:=3) wG (fun _=>by simp) (by kernel_rfl) (by kernel_rfl) rfl (by decide) (ble (by kernel_rfl))
theorem TT:DY Tryz.prog 27 (fun xs=> ∃ c:Repo,xs=Ay c):=
 DY.to (Fh (n:=4) (r:= [(23,0),(24,1),(25,2),(9,3)]) (by kernel_rfl) (by kernel_rfl) (.cons 1 (by kernel_rfl) dK (.cons 1 (by kernel_rfl) sk (.cons 1 (by kernel_rfl) sh (.cons 1 (by kernel_rfl) Kh (.nil _))))))
  fun xs ⟨_,.cons ⟨a0,e0⟩ (.cons ⟨a1,e1⟩ (.cons ⟨a2,e2⟩ (.cons ⟨a3,e3⟩ .nil))),e⟩=>⟨⟨a0,a1,a2,a3⟩,by subst e0 e1 e2 e3 e;simp[Ay,eS]⟩
theorem bA:DY Tryz.prog 58 (fun xs=> ∃ c:Deed,xs=DM c):=
 DY.to (Fh (n:=41) (r:= [(3,0),(9,1),(9,2),(42,3),(45,8),(23,40)]) (by kernel_rfl) (by kernel_rfl)
  (.cons 1 (by kernel_rfl) Vh (.cons 1 (by kernel_rfl) Kh (.cons 1 (by kernel_rfl) Kh (.cons 5 (by kernel_rfl) jz (.cons 32 (by kernel_rfl) dM (.cons 1 (by kernel_rfl) dK (.nil _))))))))
  fun xs ⟨yss,h,e⟩=>by
   rcases h with _|⟨⟨a0,_,e0⟩,h⟩
   rcases h with _|⟨⟨a1,e1⟩,h⟩
   rcases h with _|⟨⟨a2,e2⟩,h⟩
   rcases h with _|⟨⟨a3,e3⟩,h⟩
   rcases h with _|⟨⟨a4,e4⟩,h⟩
   rcases h with _|⟨⟨a5,e5⟩,h⟩
   cases h
   exact⟨⟨a0,a1,a2,a3,a4,a5⟩,by subst e0 e1 e2 e3 e4 e5 e;simp[DM,eS]⟩
theorem dN:DY Tryz.prog 71 (fun xs=> ∃ l:List Deed,xs= [.slice (l.map DM) .ro]):=DY.list (sz:=41) bA (fun _=>by simp) (by kernel_rfl) (by kernel_rfl) rfl (by decide) (ble (by kernel_rfl))
set_option maxRecDepth 20000 in
theorem SU {t:Nat} {W:World} {base:Nat} {v:Value} {g:Gh} {s:Str} (ht:Tryz.prog.underlying t=some .string) (hv:Value.okWide Tryz.prog W .any base t v) (h:E8 g v.cells.toList (eS s)):VR g v (.str s):=by
 have:v.cells= #[v]:=by
  unfold Value.okWide at hv
  rw[ht]at hv
  simp only[Cell.okWide,ht]at hv
  cases v<;>simp[Cell.ok,ht]at hv<;>rfl
 rw[this]at h
 exact h.uncons.1
end Go.Proofs
