/-
  Part 17 of the proof that TopTiles returns true at every call and leaves what it was given as it was; no condition beyond the row's own.
-/
import Derived.Test.YtlchkibailfldaaGreatM16
set_option linter.unusedVariables false
set_option linter.unusedSimpArgs false
set_option linter.unusedSectionVars false
namespace Go.Proofs.YtlchkibailfldaaGreat.Ex
open Go Go.RowKit
section
set_option maxRecDepth 1000000
section
variable [Sy]
def k3:eZ:=⟨216,[.r (.one (.slice 510 0 243 0))],[ab6,aFS,ab5,ab4,ab3,ab2,ab1,EH,EG,(510,.cells 1 5 dG),kP,kO,kN,kM,kL,kK,YV,C5,Ae,Ad,z_,z8,z7,QJ,US,xn,xm,zB],521,.tup [.agg [.slice 530 0 1 0,.slice 537 0 1 0,.slice 540 0 1 0,i 0],.one (i 0)],[mK,mJ,mI,mH,mG,ab6,aFS,ab5,ab4,ab3,ab2,ab1,EH,EG,(510,.cells 1 5 dG),kP,kO,kN,kM,kL,kK,YV,C5,Ae,Ad,z_,z8,z7,QJ,US,xn,xm,zB],542⟩
theorem aB4:fB (jm Tryz.prog gM 300 (eW ks2) 25) k3=true:=by kernel_rfl
def ks3:List eZ:=k3::ks2
theorem aqS:∀k∈ks3,k.Ok Tryz.prog:=fun k hk=>by
 rcases aS.1 hk with rfl|hk
 ·exact fY (ia eC fW (fX aqT) 25) aB4
 ·exact aqT k hk
def k4:eZ:=⟨32,[.r (.agg [.slice 530 0 1 0,.slice 537 0 1 0,.slice 540 0 1 0,i 0])],[mK,mJ,mI,mH,mG,ab6,anf,ab5,ab4,ab3,ab2,ab1,EH,EG,(510,.cells 1 5 dG),kP,kO,kN,kM,kL,kK,YV,C5,Ae,Ad,z_,z8,z7,QJ,US,xn,xm,zB],542,.tup [.one (i 0),.one (i 0)],[mK,mJ,mI,mH,mG,ab6,anf,ab5,ab4,ab3,ab2,ab1,EH,EG,(510,.cells 1 5 dG),kP,kO,kN,kM,kL,kK,YV,C5,Ae,Ad,z_,z8,z7,QJ,US,xn,xm,zB],595⟩
theorem aB3:fB (jm Tryz.prog gM 300 (eW ks3) 25) k4=true:=by kernel_rfl
def ks4:List eZ:=k4::ks3
theorem aqR:∀k∈ks4,k.Ok Tryz.prog:=fun k hk=>by
 rcases aS.1 hk with rfl|hk
 ·exact fY (ia eC fW (fX aqS) 25) aB3
 ·exact aqS k hk
def k5:eZ:=⟨8,[.r (.agg [.slice 530 0 1 0,.slice 537 0 1 0,.slice 540 0 1 0,i 0]),.r (.one (i 4)),.r (.one (i 4))],[mK,mJ,mI,mH,mG,ab6,anf,ab5,ab4,ab3,ab2,ab1,EH,EG,(510,.cells 1 5 dG),kP,kO,kN,kM,kL,kK,YV,C5,Ae,Ad,z_,z8,z7,QJ,US,xn,xm,zB],595,.tup [.one (.slice 694 0 1 0),.one (i 0)],[pL,mK,mJ,mI,mH,mG,ab6,anf,ab5,ab4,ab3,ab2,ab1,EH,EG,(510,.cells 1 5 dG),kP,kO,kN,kM,kL,kK,YV,C5,Ae,Ad,z_,z8,z7,QJ,US,xn,xm,zB],695⟩
theorem aB2:fB (jm Tryz.prog gM 300 (eW ks4) 25) k5=true:=by kernel_rfl
def ks5:List eZ:=k5::ks4
theorem aqQ:∀k∈ks5,k.Ok Tryz.prog:=fun k hk=>by
 rcases aS.1 hk with rfl|hk
 ·exact fY (ia eC fW (fX aqR) 25) aB2
 ·exact aqR k hk
def k6:eZ:=⟨217,[.r (.agg [.slice 530 0 1 0,.slice 537 0 1 0,.slice 540 0 1 0,i 0]),.r (.one (i 4)),.r (.one (i 4))],[aFR,pL,mK,mJ,mI,mH,mG,ab6,anf,ab5,ab4,ab3,ab2,ab1,EH,EG,(510,.cells 1 5 dG),kP,kO,kN,kM,kL,kK,YV,C5,Ae,Ad,z_,z8,z7,QJ,US,xn,xm,zB],696,.tup [.one (i 2),.one (i 0)],[aFR,pL,mK,mJ,mI,mH,mG,ab6,anf,ab5,ab4,ab3,ab2,ab1,EH,EG,(510,.cells 1 5 dG),kP,kO,kN,kM,kL,kK,YV,C5,Ae,Ad,z_,z8,z7,QJ,US,xn,xm,zB],777⟩
theorem aB1:fB (jm Tryz.prog gM 300 (eW ks5) 25) k6=true:=by kernel_rfl
def ks6:List eZ:=k6::ks5
theorem aqP:∀k∈ks6,k.Ok Tryz.prog:=fun k hk=>by
 rcases aS.1 hk with rfl|hk
 ·exact fY (ia eC fW (fX aqQ) 25) aB1
 ·exact aqQ k hk
def k7:eZ:=⟨108,[.r (.agg [i 2,i 4,i 4,i 64,i 1,i 10,i 10,i 3]),.r (.agg [i 0,i 0,i 0]),.r (.one (.slice 510 0 243 0))],[EH,EG,(510,.cells 1 5 dG),kP,kO,kN,kM,kL,kK,YV,C5,Ae,Ad,z_,z8,z7,QJ,US,xn,xm,zB],514,.tup [.agg [.slice 530 0 1 0,.slice 537 0 1 0,.slice 540 0 1 0,i 0],.one (.slice 694 0 1 0),.one (i 2),.one (i 0)],[pL,mK,mJ,mI,mH,mG,EH,EG,(510,.cells 1 5 dG),kP,kO,kN,kM,kL,kK,YV,C5,Ae,Ad,z_,z8,z7,QJ,US,xn,xm,zB],778⟩
theorem aB0:fB (jm Tryz.prog gM 300 (eW ks6) 25) k7=true:=by kernel_rfl
def ks7:List eZ:=k7::ks6
theorem aqO:∀k∈ks7,k.Ok Tryz.prog:=fun k hk=>by
 rcases aS.1 hk with rfl|hk
 ·exact fY (ia eC fW (fX aqP) 25) aB0
 ·exact aqP k hk
end
end
end Go.Proofs.YtlchkibailfldaaGreat.Ex
