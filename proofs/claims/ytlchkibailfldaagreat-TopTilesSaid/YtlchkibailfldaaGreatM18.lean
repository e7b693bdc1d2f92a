/-
  Part 18 of the proof that TopTiles returns true at every call and leaves what it was given as it was; no condition beyond the row's own.
-/
import Derived.Test.YtlchkibailfldaaGreatM17
set_option linter.unusedVariables false
set_option linter.unusedSimpArgs false
set_option linter.unusedSectionVars false
namespace Go.Proofs.YtlchkibailfldaaGreat.Ex
open Go Go.RowKit
section
set_option maxRecDepth 1000000
section
variable [Sy]
def k8:eZ:=⟨109,[.r (.one (.ptr 778 0))],[(778,.cells 0 133 [i 0,i 0,i 0,i 0,.slice 530 0 1 0,.slice 537 0 1 0,.slice 540 0 1 0,i 0,.slice 694 0 1 0,i 2,.nils,.nils]),awI,pL,mK,mJ,mI,mH,mG,EH,EG,(510,.cells 1 5 dG),kP,kO,kN,kM,kL,kK,YV,C5,Ae,Ad,z_,z8,z7,QJ,US,xn,xm,zB],779,.r (.one (i 0)),[vj,vi,Cu,aCb,awI,pL,mK,mJ,mI,mH,mG,EH,EG,(510,.cells 1 5 dG),kP,kO,kN,kM,kL,kK,YV,C5,Ae,Ad,z_,z8,z7,QJ,US,xn,xm,zB],838⟩
theorem aBZ:fB (jm Tryz.prog gM 300 (eW ks7) 25) k8=true:=by kernel_rfl
def ks8:List eZ:=k8::ks7
theorem aqN:∀k∈ks8,k.Ok Tryz.prog:=fun k hk=>by
 rcases aS.1 hk with rfl|hk
 ·exact fY (ia eC fW (fX aqO) 25) aBZ
 ·exact aqO k hk
def k9:eZ:=⟨110,[.r (.one (.ptr 7 0)),.r (.one (i 0)),.r (.one (.slice 694 0 1 0)),.r (.one (i 0))],[vj,vi,Cu,aCb,awI,pL,mK,mJ,mI,mH,mG,EH,EG,(510,.cells 1 5 dG),kP,kO,kN,kM,kL,kK,YV,C5,Ae,Ad,z_,z8,z7,QJ,US,xn,xm,zB],838,.r (.one (i 0)),[Ac,Ab,Aa,XW,aCa,vj,vi,Cu,aCb,awI,pL,mK,mJ,mI,mH,mG,EH,EG,(510,.cells 1 5 dG),kP,kO,kN,kM,kL,kK,YV,C5,Ae,Ad,z_,z8,z7,QJ,US,(6,.map [(.int .i64 0,.ptr 847 0,0)] 1),aB',zB],854⟩
theorem aBY:fB (jm Tryz.prog gM 300 (eW ks8) 25) k9=true:=by kernel_rfl
def ks9:List eZ:=k9::ks8
theorem aqM:∀k∈ks9,k.Ok Tryz.prog:=fun k hk=>by
 rcases aS.1 hk with rfl|hk
 ·exact fY (ia eC fW (fX aqN) 25) aBY
 ·exact aqN k hk
def k10:eZ:=⟨19,[.r (.one (.ptr 18 0)),.r (.one (.slice 510 0 243 0))],[(510,.cells 1 5 dG),kP,kO,kN,kM,kL,kK,YV,C5,Ae,Ad,z_,z8,z7,QJ,US,xn,xm,zB],511,.tup [.one (i 0),.one (i 0)],[Cs,Ac,Ab,Aa,XW,aCa,vj,vi,Cu,Jn,pL,mK,mJ,mI,mH,mG,(510,.cells 1 5 dG),kP,kO,kN,kM,kL,kK,Cr,C5,Ae,Ad,z_,z8,z7,QJ,US,(6,.map [(.int .i64 0,.ptr 847 0,0)] 1),aB',zB],856⟩
theorem av':fB (jm Tryz.prog gM 300 (eW ks9) 25) k10=true:=by kernel_rfl
def aBT:List eZ:=k10::ks9
theorem ajU:∀k∈aBT,k.Ok Tryz.prog:=fun k hk=>by
 rcases aS.1 hk with rfl|hk
 ·exact fY (ia eC fW (fX aqM) 25) av'
 ·exact aqM k hk
def k11:eZ:=⟨52,[.r (.one (.ptr 18 0)),.r (.one (i 0)),.r (.one (i 0))],[Cs,Ac,Ab,Aa,XW,aCa,vj,vi,Cu,Jn,pL,mK,mJ,mI,mH,mG,(510,.cells 1 5 dG),kP,kO,kN,kM,kL,kK,Cr,C5,Ae,Ad,z_,z8,z7,QJ,US,(6,.map [(.int .i64 0,.ptr 847 0,0)] 1),aB',zB],856,.tup [.one (.slice 865 0 1 0),.one (i 0)],[GU,Cs,Ac,Ab,Aa,XW,ane,vj,vi,Cu,Jn,pL,mK,mJ,mI,mH,mG,(510,.cells 1 5 dG),kP,kO,kN,kM,kL,kK,Cr,aFQ,Ae,Ad,z_,z8,z7,QJ,aFP,(6,.map [(.int .i64 0,.ptr 847 0,0)] 1),GR,zB],867⟩
theorem av_:fB (jm Tryz.prog gM 300 (eW aBT) 25) k11=true:=by kernel_rfl
def aBS:List eZ:=k11::aBT
theorem ajT:∀k∈aBS,k.Ok Tryz.prog:=fun k hk=>by
 rcases aS.1 hk with rfl|hk
 ·exact fY (ia eC fW (fX ajU) 25) av_
 ·exact ajU k hk
def k12:eZ:=⟨52,[.r (.one (.ptr 18 0)),.r (.one (i 1)),.r (.one (i 0))],[GU,Cs,Ac,Ab,Aa,XW,ane,vj,vi,Cu,Jn,pL,mK,mJ,mI,mH,mG,(510,.cells 1 5 dG),kP,kO,kN,kM,kL,kK,Cr,aFQ,Ae,Ad,z_,z8,z7,QJ,aFP,(6,.map [(.int .i64 0,.ptr 847 0,0)] 1),GR,zB],867,.tup [.one (.slice 884 0 2 0),.one (i 0)],[Pn,Pm,GU,Cs,Ac,Ab,Aa,XW,ane,vj,vi,Cu,Jn,pL,mK,mJ,mI,mH,mG,(510,.cells 1 5 dG),kP,kO,kN,kM,kL,kK,Cr,aFO,Ae,Ad,z_,z8,z7,awH,awG,(6,.map [(.int .i64 0,.ptr 847 0,0)] 1),GR,zB],887⟩
theorem av9:fB (jm Tryz.prog gM 300 (eW aBS) 25) k12=true:=by kernel_rfl
def aBR:List eZ:=k12::aBS
theorem ajS:∀k∈aBR,k.Ok Tryz.prog:=fun k hk=>by
 rcases aS.1 hk with rfl|hk
 ·exact fY (ia eC fW (fX ajT) 25) av9
 ·exact ajT k hk
def k13:eZ:=⟨52,[.r (.one (.ptr 18 0)),.r (.one (i 0)),.r (.one (i 0))],[Pn,Pm,GU,Cs,Ac,Ab,Aa,XW,ane,vj,vi,Cu,Jn,pL,mK,mJ,mI,mH,mG,(510,.cells 1 5 dG),kP,kO,kN,kM,kL,kK,Cr,aFO,Ae,Ad,z_,z8,z7,awH,awG,(6,.map [(.int .i64 0,.ptr 847 0,0)] 1),GR,zB],887,.tup [.one (.slice 889 0 1 0),.one (i 0)],[XV,Pn,Pm,GU,Cs,Ac,Ab,Aa,XW,ane,vj,vi,Cu,Jn,pL,mK,mJ,mI,mH,mG,(510,.cells 1 5 dG),kP,kO,kN,kM,kL,kK,Cr,aFN,Ae,Ad,z_,z8,z7,awH,awG,(6,.map [(.int .i64 0,.ptr 847 0,0)] 1),GR,zB],891⟩
theorem av8:fB (jm Tryz.prog gM 300 (eW aBR) 25) k13=true:=by kernel_rfl
def aBQ:List eZ:=k13::aBR
theorem ajR:∀k∈aBQ,k.Ok Tryz.prog:=fun k hk=>by
 rcases aS.1 hk with rfl|hk
 ·exact fY (ia eC fW (fX ajS) 25) av8
 ·exact ajS k hk
def k14:eZ:=⟨13,[.r (.agg [i 6,i 0,i (-1),.bool false,i 0,i 0,i 0,i 0,.nils,.nils,.nils,i 0,i 0,.nils,.nils,i 0,.slice 535 0 1 0,i 9]),.r (.agg [i 1,i 0,i 0,i 0,i 1,i 1,.nils,i 1,i 16]),.r (.agg [i 1,i 1,i 9,.slice 528 0 1 0]),.r (.agg [i 0,i 0,i 0,.nils]),.r (.agg [i 1,i 1,i 9,.slice 836 0 1 0]),.r (.one .nils)],[awF,awE,awD,awC,awB,awA,awz,awy,awx,agQ,aww,awv,awu,awt,aws,awr,awq,awp,awo,awn,awm,awl,awk,awj,awi,awh,awg,XV,Pn,Pm,GU,Cs,Ac,Ab,Aa,agP,agO,vj,vi,Cu,Jn,pL,mK,mJ,mI,mH,mG,(510,.cells 1 5 dG),kP,kO,kN,kM,kL,kK,Cr,C5,Ae,Ad,z_,z8,z7,agN,agM,(6,.map [(.int .i64 0,.ptr 847 0,0)] 1),GR,zB],918,.tup [.one (.slice 995 0 1 0),.one (i 0)],[aB_,awF,awE,awD,awC,awB,awA,awz,awy,awx,agQ,aww,awv,awu,awt,aws,awr,awq,awp,awo,awn,awm,awl,awk,awj,awi,awh,awg,XV,Pn,Pm,GU,Cs,Ac,Ab,Aa,agP,agO,vj,vi,Cu,Jn,pL,mK,mJ,mI,mH,mG,(510,.cells 1 5 dG),kP,kO,kN,kM,kL,kK,Cr,C5,Ae,Ad,z_,z8,z7,agN,agM,(6,.map [(.int .i64 0,.ptr 847 0,0)] 1),GR,zB],997⟩
theorem av7:fB (jm Tryz.prog gM 300 (eW aBQ) 25) k14=true:=by kernel_rfl
def aBP:List eZ:=k14::aBQ
theorem ajQ:∀k∈aBP,k.Ok Tryz.prog:=fun k hk=>by
 rcases aS.1 hk with rfl|hk
 ·exact fY (ia eC fW (fX ajR) 25) av7
 ·exact ajR k hk
def k15:eZ:=⟨14,[.r (.agg [i 1,i 1,i 9,.slice 836 0 1 0]),.r (.agg [i 1,i 0,i 0,i 0,i 1,i 1,.nils,i 1,i 16]),.r (.one (.slice 995 0 1 0))],[aB_,awF,awE,awD,awC,awB,awA,awz,awy,awx,agQ,aww,awv,awu,awt,aws,awr,awq,awp,awo,awn,awm,awl,awk,awj,awi,awh,awg,XV,Pn,Pm,GU,Cs,Ac,Ab,Aa,agP,agO,vj,vi,Cu,Jn,pL,mK,mJ,mI,mH,mG,(510,.cells 1 5 dG),kP,kO,kN,kM,kL,kK,Cr,C5,Ae,Ad,z_,z8,z7,agN,agM,(6,.map [(.int .i64 0,.ptr 847 0,0)] 1),GR,zB],998,.tup [.agg [i 1,i 1,i 9,.slice 1024 0 1 0],.one (i 0)],[awf,aB_,awF,awE,awD,awC,awB,awA,awz,awy,awx,agQ,aww,awv,awu,awt,aws,awr,awq,awp,awo,awn,awm,awl,awk,awj,awi,awh,awg,XV,Pn,Pm,GU,Cs,Ac,Ab,Aa,agP,agO,vj,vi,Cu,Jn,pL,mK,mJ,mI,mH,mG,(510,.cells 1 5 dG),kP,kO,kN,kM,kL,kK,Cr,C5,Ae,Ad,z_,z8,z7,agN,agM,(6,.map [(.int .i64 0,.ptr 847 0,0)] 1),GR,zB],1026⟩
theorem av6:fB (jm Tryz.prog gM 300 (eW aBP) 25) k15=true:=by kernel_rfl
def aBO:List eZ:=k15::aBP
theorem ajP:∀k∈aBO,k.Ok Tryz.prog:=fun k hk=>by
 rcases aS.1 hk with rfl|hk
 ·exact fY (ia eC fW (fX ajQ) 25) av6
 ·exact ajQ k hk
def k16:eZ:=⟨52,[.r (.one (.ptr 18 0)),.r (.one (i 1)),.r (.one (i 0))],[XV,Pn,Pm,GU,Cs,Ac,Ab,Aa,XW,ane,vj,vi,Cu,Jn,pL,mK,mJ,mI,mH,mG,(510,.cells 1 5 dG),kP,kO,kN,kM,kL,kK,Cr,aFN,Ae,Ad,z_,z8,z7,awH,awG,(6,.map [(.int .i64 0,.ptr 847 0,0)] 1),GR,zB],891,.tup [.one (.slice 908 0 2 0),.one (i 0)],[awf,agQ,XV,Pn,Pm,GU,Cs,Ac,Ab,Aa,agP,agO,vj,vi,aB9,aB8,pL,mK,mJ,mI,mH,mG,(510,.cells 1 5 dG),kP,kO,kN,kM,kL,kK,Cr,C5,Ae,Ad,z_,z8,z7,agN,agM,(6,.map [(.int .i64 0,.ptr 847 0,0)] 1),GR,zB],1026⟩
theorem av5:fB (jm Tryz.prog gM 300 (eW aBO) 25) k16=true:=by kernel_rfl
def aBN:List eZ:=k16::aBO
theorem ajO:∀k∈aBN,k.Ok Tryz.prog:=fun k hk=>by
 rcases aS.1 hk with rfl|hk
 ·exact fY (ia eC fW (fX ajP) 25) av5
 ·exact ajP k hk
def k17:eZ:=⟨26,[.r (.one (.ptr 18 0)),.r (.one (i 0))],[awf,agQ,XV,Pn,Pm,GU,Cs,Ac,Ab,Aa,agP,agO,vj,vi,aB9,aB8,pL,mK,mJ,mI,mH,mG,(510,.cells 1 5 dG),kP,kO,kN,kM,kL,kK,Cr,C5,Ae,Ad,z_,z8,z7,agN,agM,(6,.map [(.int .i64 0,.ptr 847 0,0)] 1),GR,zB],1026,.tup [.one (.slice 1030 0 1 0),.one (i 0)],[(1030,.cells 4 39 [i 1,i 1,i 9,.slice 1028 0 1 0]),(1028,.cells 1 3 [i 5]),awf,agQ,XV,Pn,Pm,GU,Cs,Ac,Ab,Aa,agP,agO,vj,vi,aB9,aB8,pL,mK,mJ,mI,mH,mG,(510,.cells 1 5 dG),kP,kO,kN,kM,kL,kK,Cr,C5,Ae,Ad,z_,z8,z7,agN,agM,(6,.map [(.int .i64 0,.ptr 847 0,0)] 1),GR,zB],1031⟩
theorem av4:fB (jm Tryz.prog gM 300 (eW aBN) 25) k17=true:=by kernel_rfl
def aBM:List eZ:=k17::aBN
theorem ajN:∀k∈aBM,k.Ok Tryz.prog:=fun k hk=>by
 rcases aS.1 hk with rfl|hk
 ·exact fY (ia eC fW (fX ajO) 25) av4
 ·exact ajO k hk
def k18:eZ:=⟨16,[],[],0,.r (.one (.bool true)),[],1031⟩
theorem av3:fB (jm Tryz.prog gM 300 (eW aBM) 25) k18=true:=by kernel_rfl
def aJV:List eZ:=k18::aBM
theorem avW:∀k∈aJV,k.Ok Tryz.prog:=fun k hk=>by
 rcases aS.1 hk with rfl|hk
 ·exact fY (ia eC fW (fX ajN) 25) av3
 ·exact ajN k hk
end
theorem apo(w:World):Calls Tryz.prog 16 #[] w fun e w'=>e= .returned (.bool true)/\Below w.heap.size w w':=by
 letI:Sy:=Sy.bare w
 have h:=avW k18 (bN ..);have hm:b9 (fun _=>⟨0,0,0,xd⟩) (get k18.H) w:=⟨fun n x hx=>(by cases hx),fun n m x y b hx=>(by cases hx),⟨fun n x hx=>(by cases hx),Below.refl _ _,ec _,fun n x hx=>(by cases hx),ec _⟩⟩
 refine(h.run (fun _=>⟨0,0,0,xd⟩) w hm (fun n x hx=>(by cases hx)) (fun s hs=>(by cases hs))).mono ?_
 rintro e w' ⟨U',rfl,hs,_⟩;exact⟨rfl,hs.os,hs.tape,hs.output,hs.sz,fun b hb=>hs.fr b hb (fun n x hx=>(by cases hx))⟩
end
end Go.Proofs.YtlchkibailfldaaGreat.Ex
