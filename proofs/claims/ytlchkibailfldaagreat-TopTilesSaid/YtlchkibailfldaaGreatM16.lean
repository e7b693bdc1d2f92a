/-
  Part 16 of the proof that TopTiles returns true at every call and leaves what it was given as it was; no condition beyond the row's own.
-/
import Derived.Test.YtlchkibailfldaaGreatM15
set_option linter.unusedVariables false
set_option linter.unusedSimpArgs false
set_option linter.unusedSectionVars false
namespace Go.Proofs.YtlchkibailfldaaGreat.Ex
open Go Go.RowKit
section
set_option maxRecDepth 1000000
instance (priority:=low) faB:Fa:=Fa.bare
instance (priority:=low) aKe[Sy]:fN:=fN.bare
section
variable [Sy]
@[reducible] def i(x:Int):SC:= .int .i64 x
def zB:Nat×SB:=(0,.cells 0 62 [i 2,i 4,i 4,i 64,i 1,i 10,i 10,i 3])
def YV:Nat×SB:=(18,.cells 0 127 [i 2,i 4,i 4,i 64,i 1,i 10,i 10,i 3,.ptr 7 0,.nils])
def C5:Nat×SB:=(17,.cells 7 198 [i 0,i 0,i 0,i 0,i 0,.ptr 8 0,.ptr 10 0,i 0,i 0,i 0,i 0,i 0,.ptr 13 0,.ptr 15 0])
def Ae:Nat×SB:=(15,.cells 0 246 [.slice 14 0 1 0,i 0,i 0])
def Ad:Nat×SB:=(14,.cells 2 177 [i 0,i 0])
def z_:Nat×SB:=(13,.cells 0 244 [i 64,i 0,i 0,.nils])
def z8:Nat×SB:=(10,.cells 0 246 [.slice 9 0 1 0,i 0,i 0])
def z7:Nat×SB:=(9,.cells 2 177 [i 0,i 0])
def QJ:Nat×SB:=(8,.cells 0 244 [i 64,i 0,i 0,.nils])
def US:Nat×SB:=(7,.cells 0 190 [i 2,i 4,i 4,i 64,i 1,i 10,i 10,i 3,.slice 17 0 2 0,.ptr 5 0,.map 6,i 0,i 0,i 0,i 0,i 0,i 0,i 0,i 0,i 0,i 0])
def xn:Nat×SB:=(6,.map [] 0)
def xm:Nat×SB:=(5,.cells 0 242 [i 10,.nils,.nils,.nils,.nils])
def kP:Nat×SB:=(24,.cells 1 3 [i 1])
def kO:Nat×SB:=(23,.cells 18 52 [i 6,i 0,i (-1),.bool false,i 0,i 0,i 0,i 0,.nils,.nils,.nils,i 0,i 0,.nils,.nils,i 0,.slice 22 0 1 0,i 9])
def kN:Nat×SB:=(22,.cells 2 92 [i 0,i 0])
def kM:Nat×SB:=(21,.cells 4 39 [i 1,i 1,i 9,.slice 20 0 1 0])
def kL:Nat×SB:=(20,.cells 1 3 [i 5])
def kK:Nat×SB:=(19,.cells 0 28 [.slice 21 0 1 0,.slice 23 0 1 0,.slice 24 0 1 0,i 0])
def ab6:Nat×SB:=(520,.cells 0 62 [i 2,i 4,i 4,i 64,i 1,i 10,i 10,i 3])
def aFS:Nat×SB:=(519,.cells 0 28 [.nils,.nils,.nils,i 0])
def ab5:Nat×SB:=(518,.cells 0 140 [i 0,i 0,i 0])
def ab4:Nat×SB:=(517,.cells 0 62 [i 2,i 4,i 4,i 64,i 1,i 10,i 10,i 3])
def ab3:Nat×SB:=(516,.cells 0 28 [.nils,.nils,.nils,i 0])
def ab2:Nat×SB:=(515,.cells 0 140 [i 0,i 0,i 0])
def ab1:Nat×SB:=(514,.cells 0 62 [i 2,i 4,i 4,i 64,i 1,i 10,i 10,i 3])
def EH:Nat×SB:=(513,.cells 0 140 [i 0,i 0,i 0])
def EG:Nat×SB:=(512,.cells 0 140 [i 0,i 0,i 0])
def mK:Nat×SB:=(540,.cells 1 3 [i 1])
def mJ:Nat×SB:=(537,.cells 18 52 [i 6,i 0,i (-1),.bool false,i 0,i 0,i 0,i 0,.nils,.nils,.nils,i 0,i 0,.nils,.nils,i 0,.slice 535 0 1 0,i 9])
def mI:Nat×SB:=(535,.cells 2 92 [i 0,i 0])
def mH:Nat×SB:=(530,.cells 4 39 [i 1,i 1,i 9,.slice 528 0 1 0])
def mG:Nat×SB:=(528,.cells 1 3 [i 5])
def anf:Nat×SB:=(519,.cells 0 28 [.slice 530 0 1 0,.slice 537 0 1 0,.slice 540 0 1 0,i 0])
def pL:Nat×SB:=(694,.cells 9 46 [i 1,i 0,i 0,i 0,i 1,i 1,.nils,i 1,i 16])
def aFR:Nat×SB:=(695,.cells 0 46 [i 1,i 0,i 0,i 0,i 1,i 1,.nils,i 1,i 16])
def awI:Nat×SB:=(511,.cells 0 28 [.slice 530 0 1 0,.slice 537 0 1 0,.slice 540 0 1 0,i 0])
def vj:Nat×SB:=(836,.cells 1 3 [i 0])
def vi:Nat×SB:=(832,.cells 1 42 [.nils,.nils])
def Cu:Nat×SB:=(831,.cells 4 39 [i 1,i 1,i 9,.slice 528 0 1 0,i 1,i 1,i 9,.slice 836 0 1 0])
def aCb:Nat×SB:=(778,.cells 0 133 [i 0,i 0,i 0,i 0,.slice 530 0 1 0,.slice 537 0 1 0,.slice 540 0 1 0,i 0,.slice 694 0 1 0,i 2,.slice 831 0 2 0,.slice 832 0 2 0])
def Ac:Nat×SB:=(853,.cells 2 177 [i 0,i 0])
def Ab:Nat×SB:=(847,.cells 0 209 [.slice 846 0 1 0,i 0,.ptr 841 0,.bool false])
def Aa:Nat×SB:=(846,.cells 9 46 [i 1,i 0,i 0,i 0,i 1,i 1,.nils,i 1,i 16])
def XW:Nat×SB:=(841,.cells 0 293 [.slice 840 0 1 0,i 0])
def aCa:Nat×SB:=(840,.cells 4 296 [i 2,i 0,i 0,.nils])
def aB':Nat×SB:=(5,.cells 0 242 [i 10,.slice 853 0 1 0,.nils,.nils,.nils])
def Cs:Nat×SB:=(855,.cells 1 128 [.ptr 778 0])
def Jn:Nat×SB:=(778,.cells 0 133 [i 1,i 0,i 1,i 0,.slice 530 0 1 0,.slice 537 0 1 0,.slice 540 0 1 0,i 0,.slice 694 0 1 0,i 2,.slice 831 0 2 0,.slice 832 0 2 0])
def Cr:Nat×SB:=(18,.cells 0 127 [i 2,i 4,i 4,i 64,i 1,i 10,i 10,i 3,.ptr 7 0,.slice 855 0 1 0])
def GU:Nat×SB:=(865,.cells 7 179 [i 4,i 0,i 0,i 0,i 0,i 0,i 0])
def ane:Nat×SB:=(840,.cells 4 296 [i 3,i 0,i 0,.nils])
def aFQ:Nat×SB:=(17,.cells 7 198 [i 1,i 0,i 0,i 0,i 0,.ptr 8 0,.ptr 10 0,i 0,i 0,i 0,i 0,i 0,.ptr 13 0,.ptr 15 0])
def aFP:Nat×SB:=(7,.cells 0 190 [i 2,i 4,i 4,i 64,i 1,i 10,i 10,i 3,.slice 17 0 2 0,.ptr 5 0,.map 6,i 1,i 0,i 0,i 0,i 0,i 0,i 0,i 0,i 0,i 0])
def GR:Nat×SB:=(5,.cells 0 242 [i 10,.slice 861 0 0 0,.nils,.nils,.nils])
def Pn:Nat×SB:=(884,.cells 7 179 [i 12,i 1,i 0,i 0,i 0,i 0,i 0,i 6,i 0,i 0,i 0,i 0,i 0,i 0])
def Pm:Nat×SB:=(883,.cells 1 3 [i 0])
def aFO:Nat×SB:=(17,.cells 7 198 [i 2,i 0,i 0,i 0,i 0,.ptr 8 0,.ptr 10 0,i 0,i 0,i 0,i 0,i 0,.ptr 13 0,.ptr 15 0])
def awH:Nat×SB:=(8,.cells 0 244 [i 64,i 16,i 16,.slice 883 0 1 0])
def awG:Nat×SB:=(7,.cells 0 190 [i 2,i 4,i 4,i 64,i 1,i 10,i 10,i 3,.slice 17 0 2 0,.ptr 5 0,.map 6,i 1,i 0,i 0,i 0,i 0,i 1,i 0,i 0,i 0,i 0])
def XV:Nat×SB:=(889,.cells 7 179 [i 7,i 0,i 0,i 0,i 0,i 0,i 0])
def aFN:Nat×SB:=(17,.cells 7 198 [i 3,i 0,i 0,i 0,i 1,.ptr 8 0,.ptr 10 0,i 0,i 0,i 0,i 0,i 0,.ptr 13 0,.ptr 15 0])
def awF:Nat×SB:=(917,.cells 1 3 [i 0])
def awE:Nat×SB:=(916,.cells 0 52 [i 6,i 0,i (-1),.bool false,i 0,i 0,i 0,i 0,.nils,.nils,.nils,i 0,i 0,.nils,.nils,i 0,.slice 535 0 1 0,i 9])
def awD:Nat×SB:=(915,.cells 0 52 [i 6,i 0,i (-1),.bool false,i 0,i 0,i 0,i 0,.nils,.nils,.nils,i 0,i 0,.nils,.nils,i 0,.slice 535 0 1 0,i 9])
def awC:Nat×SB:=(913,.cells 0 39 [i 1,i 1,i 9,.slice 528 0 1 0])
def awB:Nat×SB:=(914,.cells 0 39 [i 0,i 0,i 0,.nils])
def awA:Nat×SB:=(912,.cells 0 52 [i 6,i 0,i (-1),.bool false,i 0,i 0,i 0,i 0,.nils,.nils,.nils,i 0,i 0,.nils,.nils,i 0,.slice 535 0 1 0,i 9])
def awz:Nat×SB:=(911,.cells 0 46 [i 1,i 0,i 0,i 0,i 1,i 1,.nils,i 1,i 16])
def awy:Nat×SB:=(910,.cells 0 179 [i 8,i 0,i 0,i 0,i 0,i 0,i 0])
def awx:Nat×SB:=(909,.cells 0 179 [i 12,i 1,i 0,i 0,i 0,i 0,i 0])
def agQ:Nat×SB:=(908,.cells 7 179 [i 12,i 1,i 0,i 0,i 0,i 0,i 0,i 8,i 0,i 0,i 0,i 0,i 0,i 0])
def aww:Nat×SB:=(907,.cells 0 177 [i 0,i 0])
def awv:Nat×SB:=(906,.cells 0 179 [i 8,i 0,i 0,i 0,i 0,i 0,i 0])
def awu:Nat×SB:=(905,.cells 0 46 [i 1,i 0,i 0,i 0,i 1,i 1,.nils,i 1,i 16])
def awt:Nat×SB:=(904,.cells 0 179 [i 8,i 0,i 0,i 0,i 0,i 0,i 0])
def aws:Nat×SB:=(903,.cells 0 179 [i 12,i 1,i 0,i 0,i 0,i 0,i 0])
def awr:Nat×SB:=(902,.cells 1 3 [i 0,i 1])
def awq:Nat×SB:=(901,.cells 0 179 [i 0,i 0,i 0,i 0,i 0,i 0,i 0])
def awp:Nat×SB:=(900,.cells 0 177 [i 0,i 0])
def awo:Nat×SB:=(899,.cells 0 177 [i 0,i 0])
def awn:Nat×SB:=(898,.cells 0 177 [i 0,i 0])
def awm:Nat×SB:=(897,.cells 0 177 [i 0,i 0])
def awl:Nat×SB:=(896,.cells 0 177 [i 0,i 0])
def awk:Nat×SB:=(895,.cells 0 177 [i 0,i 0])
def awj:Nat×SB:=(894,.cells 0 177 [i 0,i 0])
def awi:Nat×SB:=(893,.cells 0 177 [i 0,i 0])
def awh:Nat×SB:=(892,.cells 0 179 [i 0,i 0,i 0,i 0,i 0,i 0,i 0])
def awg:Nat×SB:=(891,.cells 1 3 [i 0,i 1])
def agP:Nat×SB:=(841,.cells 0 293 [.slice 840 0 1 0,i 1])
def agO:Nat×SB:=(840,.cells 4 296 [i 4,i 0,i 0,.nils])
def agN:Nat×SB:=(8,.cells 0 244 [i 64,i 0,i 16,.nils])
def agM:Nat×SB:=(7,.cells 0 190 [i 2,i 4,i 4,i 64,i 1,i 10,i 10,i 3,.slice 17 0 2 0,.ptr 5 0,.map 6,i 1,i 1,i 0,i 0,i 0,i 2,i 0,i 0,i 0,i 0])
def aB_:Nat×SB:=(995,.cells 1 3 [i 5])
def awf:Nat×SB:=(1024,.cells 1 3 [i 5])
def aB9:Nat×SB:=(831,.cells 4 39 [i 1,i 1,i 9,.slice 528 0 1 0,i 1,i 1,i 9,.slice 1024 0 1 0])
def aB8:Nat×SB:=(778,.cells 0 133 [i 2,i 1,i 1,i 0,.slice 530 0 1 0,.slice 537 0 1 0,.slice 540 0 1 0,i 0,.slice 694 0 1 0,i 2,.slice 831 0 2 0,.nils])
@[reducible] def u(x:Int):SC:= .int .u8 x
def dG:List SC:=[u 84,u 70,u 1,u 0,u 0,u 0,u 0,u 0,u 0,u 0,u 0,u 0,u 0,u 0,u 0,u 0,u 0,u 0,u 1,u 0,u 0,u 0,u 0,u 0,u 0,u 0,u 1,u 0,u 0,u 0,u 0,u 0,u 0,u 0,u 1,u 0,u 0,u 0,u 0,u 0,u 0,u 0,u 9,u 0,u 0,u 0,u 0,u 0,u 0,u 0,u 1,u 0,u 0,u 0,u 0,u 0,u 0,u 0,u 5,u 0,u 0,u 0,u 0,u 0,u 0,u 0,u 1,u 0,u 0,u 0,u 0,u 0,u 0,u 0,u 6,u 0,u 0,u 0,u 0,u 0,u 0,u 0,u 0,u 255,u 255,u 255,u 255,u 255,u 255,u 255,u 255,u 0,u 0,u 0,u 0,u 0,u 0,u 0,u 0,u 0,u 0,u 0,u 0,u 0,u 0,u 0,u 0,u 0,u 0,u 0,u 0,u 0,u 0,u 0,u 0,u 0,u 0,u 0,u 0,u 0,u 0,u 0,u 0,u 0,u 0,u 0,u 0,u 0,u 0,u 0,u 0,u 0,u 0,u 0,u 0,u 0,u 0,u 0,u 0,u 0,u 0,u 0,u 0,u 0,u 0,u 0,u 0,u 0,u 0,u 0,u 0,u 0,u 0,u 0,u 0,u 0,u 0,u 0,u 0,u 0,u 0,u 0,u 0,u 0,u 0,u 0,u 0,u 0,u 0,u 0,u 0,u 0,u 0,u 0,u 0,u 0,u 0,u 0,u 0,u 0,u 0,u 0,u 0,u 0,u 0,u 0,u 0,u 0,u 0,u 0,u 0,u 0,u 0,u 0,u 0,u 0,u 0,u 0,u 0,u 0,u 0,u 0,u 1,u 0,u 0,u 0,u 0,u 0,u 0,u 0,u 0,u 0,u 0,u 0,u 0,u 0,u 0,u 0,u 0,u 0,u 0,u 0,u 0,u 0,u 0,u 0,u 9,u 0,u 0,u 0,u 0,u 0,u 0,u 0,u 1,u 0,u 0,u 0,u 0,u 0,u 0,u 0,u 1]
theorem fW:Tryz.prog.follows .mixedOrders=true:=by kernel_rfl
def ks0:List eZ:=[]
theorem aqV:∀k∈ks0,k.Ok Tryz.prog:=fun k hk=>by cases hk
def k1:eZ:=⟨18,[.r (.agg [i 2,i 4,i 4,i 64,i 1,i 10,i 10,i 3])],[zB],1,.tup [.one (.ptr 18 0),.one (i 0)],[YV,C5,Ae,Ad,z_,z8,z7,QJ,US,xn,xm,zB],19⟩
theorem aB6:fB (jm Tryz.prog gM 300 (eW ks0) 25) k1=true:=by kernel_rfl
def ks1:List eZ:=k1::ks0
theorem aqU:∀k∈ks1,k.Ok Tryz.prog:=fun k hk=>by
 rcases aS.1 hk with rfl|hk
 ·exact fY (ia eC fW (fX aqV) 25) aB6
 ·exact aqV k hk
def k2:eZ:=⟨20,[.r (.agg [.slice 21 0 1 0,.slice 23 0 1 0,.slice 24 0 1 0,i 0])],[kP,kO,kN,kM,kL,kK,YV,C5,Ae,Ad,z_,z8,z7,QJ,US,xn,xm,zB],25,.r (.one (.slice 510 0 243 0)),[(510,.cells 1 5 dG),kP,kO,kN,kM,kL,kK,YV,C5,Ae,Ad,z_,z8,z7,QJ,US,xn,xm,zB],511⟩
theorem aB5:fB (jm Tryz.prog gM 300 (eW ks1) 25) k2=true:=by kernel_rfl
def ks2:List eZ:=k2::ks1
theorem aqT:∀k∈ks2,k.Ok Tryz.prog:=fun k hk=>by
 rcases aS.1 hk with rfl|hk
 ·exact fY (ia eC fW (fX aqU) 25) aB5
 ·exact aqU k hk
end
end
end Go.Proofs.YtlchkibailfldaaGreat.Ex
