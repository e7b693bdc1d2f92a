/-
  Part 8 of the proof that TopTiles returns true at every call and leaves what it was given as it was; no condition beyond the row's own.
-/
import Derived.Test.YtlchkibailfldaaGreatM07
set_option linter.unusedVariables false
set_option linter.unusedSimpArgs false
set_option linter.unusedSectionVars false
namespace Go.Proofs.YtlchkibailfldaaGreat.Ex
noncomputable section
open Go Go.RowKit Tryz
set_option maxRecDepth 100000
variable (N:Nat)(a b c d e f g h i j k l m n o p q s t u v w x y z A B C D E F G H I J K L M O P Q R T U9 V9 W Y Z:PD)
def Bv:dO:=⟨W2,[],0,W4,false⟩
def DC:List Ct:=[]
def FV:PL:=aa W7 (aa (aD W6 W8) (aa W10 (aa (aD W9 W8) (aa (aD W11 W12) (aa W14 (ai (aF [aY dU W15 1])) dp) dp) dp) dp) dp) dp
theorem afk:fF DC Bv f179 FV=true:=by kernel_rfl
def yO:=dj DC Bv FV
def Tl:Ct:=dl DC afk func179 call179 rfl
def apM(N:Nat)(a b c:PD):Oo:=bif bC 1 a.n then bif bC a.n 128 then bif bC 1 b.n then bif bC b.n 128 then bif bC (aH (a.n*b.n)) 4096 then bif bC 1 c.n then oF [.i (if c.n<=4294967296 then(1:Int)else 0)]else oF [.i 0]else oF [.i 0]else oF [.i 0]else oF [.i 0]else oF [.i 0]else oF [.i 0]
theorem ame:dk N DC Bv FV [a,b,c]=apM N a b c:=by kernel_rfl
def v_:dO:=⟨[vq],[],0,W4,false⟩
def yM:List Ct:=[Tl]
def Bu:PL:=an 0 W22 (aa W24 dp (aa (aC (aY Fw W11 3)) dp (aT 4 7 ⟨(u1 (zY::(u1 (W30::W32)))),[(5,W37),l4],7⟩ Fk ⟨la,⟨W42,[],7⟩,0⟩ ⟨qT,⟨(u2 (W44::(iO W46))),[],7⟩,0⟩ (aa (ay e7 Fw) (am W47 (aa (ay (aq jd e7 1 0) aJ) l7 (aa (ay dU (aq jd e7 1 0)) l7 W51))) C1) C0 dp)))
theorem Z9:fF yM v_ f121 Bu=true:=by kernel_rfl
def Mc:=dj yM v_ Bu
def afj:Ct:=dl yM Z9 func121 call121 rfl
def yN(N:Nat)(a b c:PD):Oo:=
 let d:=(el b.q c.n 1 0).n
 bif ltB c.n (bH b.q 1)then aI (bC 0 c.n)<|bif ltB d 0 then oB 1 []else bif ltB a.n d then oB 1 []else oA [.i (aH (c.n+1))]else oB 0 []
def amd(N:Nat):Oo:=oF [.i 1]
def amc(N:Nat):Oo:=oF [.i 0]
def Tj:Oo:=bif eqB e.n 0 then oF [.i 0]else bif cY (if(bH d.q 1)=(aH (a.n*b.n))then(0:Int)else 1) 0 then oF [.i 0]else bi (aO (fun S=>yN N c d (gg S 0)) N [.i 0]) (fun X=>amd N) (fun X=>amc N)
def ajb:Oo:=aB (yO [qi a,qi b,qi c]) 1 fun r=>Tj N a b c d (gg r 0)
theorem afi:dk N yM v_ Bu [a,b,c,d]=ajb N a b c d:=by kernel_rfl
def Bw:dO:=⟨[Ak,Ak],[],0,W4,false⟩
def DD:List Ct:=[]
def FW:PL:=aa (aC (aY W56 W58 3)) dp (aT 4 3 ⟨(Ju::(W62::(u2 (u1 (AL::W64))))),[(0,bZ false jQ mb),AK],3⟩ Fk ⟨la,⟨W66,[],3⟩,0⟩ ⟨qT,⟨(u4 (W44::W67)),[],3⟩,0⟩ (aa W68 (am W69 (am W70 (aa (aC (aY W71 W72 3)) l7 W74))) C1) C0 dp)
theorem afm:fF DD Bw f101 FW=true:=by kernel_rfl
def Tn:=dj DD Bw FW
def amg:Ct:=dl DD afm func101 call101 rfl
def DE(N:Nat)(a b c:PD):Oo:=bif ltB c.n (bH a.q 1)then aI (bC 0 c.n)<|aI (ltB c.n (bH b.q 1))<|bif cY (if((el a.q c.n 1 0).n)=((el b.q c.n 1 0).n)then(0:Int)else 1) 0 then oB 1 []else oA [.i (aH (c.n+1))]else oB 0 []
def apO(N:Nat):Oo:=oF [.i 1]
def apN(N:Nat):Oo:=oF [.i 0]
def apP:Oo:=bif cY (if(bH a.q 1)=(bH b.q 1)then(0:Int)else 1) 0 then oF [.i 0]else bi (aO (fun S=>DE N a b (gg S 0)) N [.i 0]) (fun X=>apO N) (fun X=>apN N)
theorem amf:dk N DD Bw FW [a,b]=apP N a b:=by kernel_rfl
def wa:dO:=⟨[vq,vq],[],0,W4,false⟩
def yP:List Ct:=[amg]
def Bx:PL:=aa (bL W6 et) (aa (bL W9 e7) (aa (bL dU fP) (an 0 [jd,qS] (ai (aF [W78]))) dp) dp) dp
theorem Z_:fF yP wa f50 Bx=true:=by kernel_rfl
def Md:=dj yP wa Bx
def afo:Ct:=dl yP Z_ func50 call50 rfl
def amh(N:Nat)(a:PD):Oo:=oF [.i (if a.n=0 then(0:Int)else 1)]
def ajc:Oo:=bif eqB a.n e.n then bif eqB b.n f.n then bif eqB c.n g.n then aB (Tn [ql d,ql h]) 1 fun r=>amh N (gg r 0)else oF [.i 0]else oF [.i 0]else oF [.i 0]
theorem afn:dk N yP wa Bx [a,b,c,d,e,f,g,h]=ajc N a b c d e f g h:=by kernel_rfl
def wg:dO:=⟨[W79,W79],[],0,W4,false⟩
def yR:List Ct:=[afo]
def BA:PL:=aa (aC (aY W80 W81 3)) dp (aT 4 3 ⟨(Ju::(W62::(u2 (u1 (AL::W67))))),[Vu,Js],3⟩ Fk ⟨la,⟨(iY W46),[],3⟩,0⟩ ⟨qT,⟨(u4 (W44::(iY W41))),[],4⟩,0⟩ (aa (ay dU W80) (am W69 (am (ay dU W81) (an 0 [aq mb dU 4 0,aq mb dU 4 1,aq mb dU 4 2,aq mb dU 4 3,aq dT dU 4 0,aq dT dU 4 1,aq dT dU 4 2,aq dT dU 4 3] (aa W85 l7 W74)))) C1) C0 dp)
theorem aab:fF yR wg f15 BA=true:=by kernel_rfl
def Mg:=dj yR wg BA
def afs:Ct:=dl yR aab func15 call15 rfl
def Tq(N:Nat)(a b:PD):Oo:=bif eqB b.n 0 then oB 1 []else oA [.i (aH (a.n+1))]
def yS:Oo:=bif ltB c.n (bH a.q 4)then aI (bC 0 c.n)<|aI (ltB c.n (bH b.q 4))<|aB (Md [.i ((el a.q c.n 4 0).n),.i ((el a.q c.n 4 1).n),.i ((el a.q c.n 4 2).n),PD.l ((el a.q c.n 4 3).q),.i ((el b.q c.n 4 0).n),.i ((el b.q c.n 4 1).n),.i ((el b.q c.n 4 2).n),PD.l ((el b.q c.n 4 3).q)]) 1 fun r=>Tq N c (gg r 0)else oB 0 []
def amk(N:Nat):Oo:=oF [.i 1]
def amj(N:Nat):Oo:=oF [.i 0]
def ajd:Oo:=bif cY (if(bH a.q 4)=(bH b.q 4)then(0:Int)else 1) 0 then oF [.i 0]else bi (aO (fun S=>yS N a b (gg S 0)) N [.i 0]) (fun X=>amk N) (fun X=>amj N)
theorem afr:dk N yR wg BA [a,b]=ajd N a b:=by kernel_rfl
def wb:dO:=⟨[Kn,W1],[],0,W4,false⟩
def yQ:List Ct:=[]
def By:PL:=aa CV W91 (aa W92 (aa (ay W6 Vt) W93 dp) dp)
theorem Z':fF yQ wb f183 By=true:=by kernel_rfl
def Bz:=dj yQ wb By
def afq:Ct:=dl yQ Z' func183 call183 rfl
def Wn(N:Nat)(a b c:PD):Oo:=bif eqB a.n 3 then bif bC 0 b.n then oF [.i (if b.n<=c.n then(1:Int)else 0)]else oF [.i 0]else bif bC 0 a.n then bif ltB a.n 3 then oF [.i (if b.n=0 then(1:Int)else 0)]else oF [.i 0]else oF [.i 0]
theorem afp:dk N yQ wb By [a,b,c]=Wn N a b c:=by kernel_rfl
def FU:dO:=⟨[Ak],[],0,W4,false⟩
def J4:List Ct:=[]
def Mb:PL:=aT 2 2 ⟨(Ju::(u2 (W94::W95))),W96,2⟩ Fk ⟨la,⟨W97,[],2⟩,0⟩ ⟨qT,⟨(u2 (W44::W98)),[],2⟩,0⟩ aI8 C0 dp
theorem amb:fF J4 FU f256 Mb=true:=by kernel_rfl
def r8:=dj J4 FU Mb
def DB:Ct:=dl J4 amb func256 call256 rfl
def J5(N:Nat)(a b:PD):Oo:=
 let c:=(el a.q b.n 1 0).n
 bif ltB b.n (bH a.q 1)then aI (bC 0 b.n)<|bif bC (-32767) c then bif ltB 32767 c then oB 1 []else oA [.i (aH (b.n+1))]else oB 1 []else oB 0 []
def avv(N:Nat):Oo:=oF [.i 1]
def avu(N:Nat):Oo:=oF [.i 0]
def ay2:Oo:=bi (aO (fun S=>J5 N a (gg S 0)) N [.i 0]) (fun X=>avv N) (fun X=>avu N)
theorem apL:dk N J4 FU Mb [a]=ay2 N a:=by kernel_rfl
def tt:dO:=⟨[Ak,W1,W1],[],0,[W1,W1,W3],false⟩
def tu:List Ct:=[DB]
def v7:PL:=aa aE_ sO (aa (ay (aR 81) W56) sO (an 0 [mb] (aa W85 sO (aa (ay dU W9) sO (aa (ay W9 aE9) sO (aa aI7 sO (aT 5 5 ⟨(Ju::(W94::(AL::(u4 (u2 (nB::(W30::(p7::R7)))))))),W96,5⟩ ayR ⟨la,⟨(u8 (u1 (nB::(W30::air)))),[],5⟩,2⟩ dN aI3 aI2 dL)))))))
theorem Wm:fF tu tt f259 v7=true:=by kernel_rfl
def lu:=dj tu tt v7
def v8:Ct:=dl tu Wm func259 call259 rfl
def tv(N:Nat)(a b c d e f:PD):Oo:=
 let g:=(el a.q f.n 1 0).n
 bif ltB f.n (bH a.q 1)then aI (bC 0 f.n)<|oA [.i (aH (d.n+(lU (aH (g*b.n)) (aH (g*c.n))))),.i (aH (e.n+(gI (aH (g*b.n)) (aH (g*c.n))))),.i (aH (f.n+1))]else oB 0 [qi d,qi e]
def Ma(N:Nat)(a b:PD):Oo:=bif bC (-17592186044416) a.n then bif ltB 17592186044416 a.n then oF [.i 0,.i 0,.i 0]else bif bC (-17592186044416) b.n then bif ltB 17592186044416 b.n then oF [.i 0,.i 0,.i 0]else oF [qi a,qi b,.i 1]else oF [.i 0,.i 0,.i 0]else oF [.i 0,.i 0,.i 0]
def L_:Oo:=bif eqB d.n 0 then oF [.i 0,.i 0,.i 0]else bif ltB c.n b.n then oF [.i 0,.i 0,.i 0]else bif ltB b.n (-68719476736)then oF [.i 0,.i 0,.i 0]else bif ltB 68719476736 c.n then oF [.i 0,.i 0,.i 0]else bi (aO (fun S=>tv N a b c (gg S 0) (gg S 1) (gg S 2)) N [.i 0,.i 0,.i 0]) (fun X=>Ma N (gg X 0) (gg X 1)) (fun X=>none)
def Z7:Oo:=bif eqB (bH a.q 1) 0 then oF [.i 0,.i 0,.i 0]else bif ltB 81 (bH a.q 1)then oF [.i 0,.i 0,.i 0]else aB (r8 [ql a]) 1 fun r=>L_ N a b c (gg r 0)
theorem Z6:dk N tu tt v7 [a,b,c]=Z7 N a b c:=by kernel_rfl
def v6:dO:=⟨Qs,[],0,kE,false⟩
def yL:List Ct:=[]
def Bs:PL:=aa (aD i_ W6) (aa (ay ii W6) dp (aa W90 (aa (ay Qp W9) dp (aa aio aE7 (am (aD aJ aE6) (am (aD aE6 R6) (am (aD aJ aE5) (am (aD aE5 R6) (am (aC (aY aE4 aJ 3)) (aa (ay aI1 (bf aE3 aE4)) (ai (aF [aQ aE3 W5])) (ai (aF [aE3])))))))))) dp)) dp
theorem Z5:fF yL v6 f281 Bs=true:=by kernel_rfl
def jh:=dj yL v6 Bs
def Bt:Ct:=dl yL Z5 func281 call281 rfl
def aja(N:Nat)(a b:PD):Oo:=
 let c:=aek ((aH (b.n-1))+0)
 let d:=aek (b.n+0)
 let e:=aH (Int.tdiv (aH (a.n+(FK .i64 1 c))) (FK .i64 1 d))
 bif bC (-17592186044416) a.n then bif ltB 17592186044416 a.n then oF [.i 0]else bif bC 0 b.n then bif ltB 24 b.n then oF [.i 0]else bif eqB b.n 0 then oF [qi a]else aI (bC 0 c)<|aI (bC c 64)<|aI (bC 0 d)<|aI (bC d 64)<|aI (cY (if(FK .i64 1 d)=0 then(0:Int)else 1) 0)<|bif ltB (aH (a.n+(FK .i64 1 c))) (aH (e*(FK .i64 1 d)))then oF [.i (aH (e-1))]else oF [.i e]else oF [.i 0]else oF [.i 0]
theorem afh:dk N yL v6 Bs [a,b]=aja N a b:=by kernel_rfl
def vX:dO:=⟨[W1,W1,W1,Ak,W1,W1],[],0,kE,false⟩
def yI:List Ct:=[DB,v8]
def Bp:PL:=aa W10 (aa (ay uU W9) l5 (aa W14 (aa (ay uU dU) l5 (aa aI0 l5 (an 0 [jd] (aa Hx mZ (aa R5 (aa ayP mZ (aa W7 (aa ayO kW (aa (aD W5 e7) aIZ kW)) kW)) mZ))))) l5)) l5
theorem Z1:fF yI vX f224 Bp=true:=by kernel_rfl
def Lt:=dj yI vX Bp
def afd:Ct:=dl yI Z1 func224 call224 rfl
def Tg(N:Nat)(a:PD):Oo:=bif eqB a.n 0 then oF [.i 11]else oF [.i 0]
def Tf:Oo:=bif eqB e.n 0 then oF [.i 10]else bif bC 0 c.n then bif ltB 24 c.n then oF [.i 10]else bif bC 1 a.n then bif ltB 4294967296 a.n then oF [.i 2]else bif bC 1 d.n then bif ltB 4294967296 d.n then oF [.i 2]else aB (lu [ql b,.i 0,qi a]) 3 fun r=>Tg N (gg r 2)else oF [.i 2]else oF [.i 2]else oF [.i 10]
def Wi:Oo:=bif bC 1 b.n then bif ltB 9 b.n then oF [.i 9]else bif bC 1 c.n then bif ltB 9 c.n then oF [.i 9]else bif cY (if(bH d.q 1)=(aH (b.n*c.n))then(0:Int)else 1) 0 then oF [.i 9]else aB (r8 [ql d]) 1 fun r=>Tf N a d e f (gg r 0)else oF [.i 9]else oF [.i 9]
theorem afc:dk N yI vX Bp [a,b,c,d,e,f]=Wi N a b c d e f:=by kernel_rfl
def tU:dO:=⟨[W1,Ak,Ak,W1,W1,W1],[],0,kE,false⟩
def tV:List Ct:=[DB,v8,Bt]
def wv:PL:=aa (aD W5 W58) (aa (ay uU W58) l5 (aa (aD W5 YR) (aa (ay uU YR) l5 (an 0 [dT] (aa Hx mZ (an 0 [ie] (aa Qo mZ (aa adv (aa (ay Qp gK) mZ (aa R5 (aa ayP mZ (aa W7 (aa ayO kW (aa (aD W5 e7) aIY kW)) kW)) mZ)) mZ)))))) l5)) l5
theorem WM:fF tV tU f225 wv=true:=by kernel_rfl
def Ig:=dj tV tU wv
def aaw:Ct:=dl tV WM func225 call225 rfl
def M1(N:Nat)(a:PD):Oo:=bif eqB a.n 0 then oF [.i 11]else oF [.i 0]
def M0:Oo:=aB (lu [ql a,qi b,qi c]) 3 fun r=>M1 N (gg r 2)
def MZ:Oo:=aB (jh [qi c,qi b]) 1 fun r=>M0 N a d (gg r 0)
def MY:Oo:=bif eqB e.n 0 then oF [.i 11]else aB (jh [qi c,qi b]) 1 fun r=>MZ N a b d (gg r 0)
def MX:Oo:=bif eqB g.n 0 then oF [.i 10]else bif bC 0 d.n then bif ltB 24 d.n then oF [.i 10]else bif bC 0 e.n then bif ltB 24 e.n then oF [.i 10]else bif bC 1 a.n then bif ltB 4294967296 a.n then oF [.i 2]else bif bC 1 f.n then bif ltB 4294967296 f.n then oF [.i 2]else aB (lu [ql b,.i 0,qi a]) 3 fun r=>MY N c d (gg r 0) (gg r 1) (gg r 2)else oF [.i 2]else oF [.i 2]else oF [.i 10]else oF [.i 10]
def MW:Oo:=bif eqB g.n 0 then oF [.i 10]else aB (r8 [ql c]) 1 fun r=>MX N a b c d e f (gg r 0)
def M2:Oo:=bif bC 1 (bH b.q 1)then bif ltB 9 (bH b.q 1)then oF [.i 9]else bif bC 1 (bH c.q 1)then bif ltB 9 (bH c.q 1)then oF [.i 9]else aB (r8 [ql b]) 1 fun r=>MW N a b c d e f (gg r 0)else oF [.i 9]else oF [.i 9]
theorem aav:dk N tV tU wv [a,b,c,d,e,f]=M2 N a b c d e f:=by kernel_rfl
def vZ:dO:=⟨[Hw,W1],[],0,kE,false⟩
def yJ:List Ct:=[DB]
def Bq:PL:=aa W10 (aa ain JH (aa (aD W5 vr) (aa (ay W8 vr) JH (aT 4 3 ⟨(Ju::(u4 (AL::aim))),[ayM],3⟩ Fk ⟨la,⟨(iO JF),[],3⟩,0⟩ ⟨qT,⟨(u4 (AL::W32)),[],4⟩,1⟩ (aa (ay dU vr) (am W69 (aa (bL aoH aJ) ayK (aa (ay qk aoH) ayK (an 0 [ayL] (aa W85 qj aIW))))) C1) dp ayJ)) JH)) JH
theorem Z4:fF yJ vZ f261 Bq=true:=by kernel_rfl
def Br:=dj yJ vZ Bq
def afg:Ct:=dl yJ Z4 func261 call261 rfl
def Ti(N:Nat)(a b c:PD):Oo:=
 let d:=(el a.q b.n 2 0).n
 bif eqB c.n 0 then oB 1 [.i 10]else bif bC (-128) d then bif ltB 256 d then oB 1 [.i 2]else oA [.i (aH (b.n+1))]else oB 1 [.i 2]
def yK:Oo:=
 let c:=(el a.q b.n 2 1).q
 bif ltB b.n (bH a.q 2)then aI (bC 0 b.n)<|bif eqB (bH c 1) 0 then oB 1 [.i 9]else bif ltB 8 (bH c 1)then oB 1 [.i 9]else aB (r8 [PD.l c]) 1 fun r=>Ti N a b (gg r 0)else oB 0 []
def al_(N:Nat):Oo:=oF [.i 0]
def al9(N:Nat)(a:PD):Oo:=oF [qi a]
def Wl:Oo:=bif bC 1 b.n then bif ltB 128 b.n then oF [.i 8]else bif bC 1 (bH a.q 2)then bif ltB 128 (bH a.q 2)then oF [.i 8]else bi (aO (fun S=>yK N a (gg S 0)) N [.i 0]) (fun X=>al_ N) (fun X=>al9 N (gg X 0))else oF [.i 8]else oF [.i 8]
theorem aff:dk N yJ vZ Bq [a,b]=Wl N a b:=by kernel_rfl
def tQ:dO:=⟨[uT,Hw,Hw,W1,W1,W1],[],0,kE,false⟩
def tR:List Ct:=[afg,v8,Bt]
def wu:PL:=an 0 [jd,W6] (aa (aC W78) ayI (an 0 [jp,W9] (aa aE0 (ai (aF [fb])) (aa (ay W12 (bf atd x_)) JH (aa W47 (aa (ay Qp e7) mZ (aa aiq (aa (ay Qp fP) mZ (aa W14 (aa aoG kW (aa (aD W5 dq) (aa (ay W15 dq) kW (aT 15 12 ⟨(u1 (aIV::(aEZ::(W30::(u2 ((aV (aE (ew 9 0)))::(u8 (jv::(adt::(aEY::(u64 (iO (u8 []))))))))))))),[(3,bZ false oS jd),(4,bZ false oS jp),(9,a_ 0 88 [W33,W34,W35])],12⟩ ayR ⟨fC 1,⟨(u2 (aEZ::(u8 (u4 (jv::(adt::(u64 aim))))))),aIU,12⟩,2⟩ aIT (aa (ay fj atd) (am ata (an 1 [aq jd fj 2 1,aJ,dU] (aa R4 l7 (an 2 [i9,e7] (an 2 [i8,e7] (aa aij (ai (aL ⟨[jn kD kD,fH eo eo,as'],[]⟩)) (ai (aL ⟨[jn fT kD,fH eK eo,as'],[]⟩)))))))) (ai (bE 0 ⟨[fT,eK],[]⟩))) (aT 25 12 ⟨(u2 (aEZ::(u8 (u4 (jv::(adt::(u4 (aEY::(u64 (iO (u4 []))))))))))),aIU,12⟩ Fk ⟨fC 3,⟨(u64 (iO W66)),[],12⟩,0⟩ aIT (aa (ay fj x_) (am ata (an 1 [aq jp fj 2 1,fT,eK] (aa R4 l7 (ai (aL ⟨[as'],[]⟩))))) C1) dp adw) adw)) kW)) kW)) mZ)) mZ)))))
theorem WK:fF tR tQ f226 wu=true:=by kernel_rfl
def Id:=dj tR tQ wu
def aau:Ct:=dl tR WK func226 call226 rfl
def MU(N:Nat)(a b c d e:PD):Oo:=bif eqB c.n 0 then oA [.i (lU d.n d.n),.i (gI e.n e.n),.i (aH (c.n+1))]else oA [.i (lU a.n d.n),.i (gI b.n e.n),.i (aH (c.n+1))]
def MT:Oo:=aB (jh [qi e,qi a]) 1 fun r=>MU N b c d f (gg r 0)
def MS:Oo:=bif eqB g.n 0 then oB 1 []else aB (jh [qi e,qi a]) 1 fun r=>MT N a b c d f (gg r 0)
def tT:Oo:=bif ltB f.n (bH b.q 2)then aI (bC 0 f.n)<|aB (lu [PD.l ((el b.q f.n 2 1).q),.i 0,qi a]) 3 fun r=>MS N c d e f (gg r 0) (gg r 1) (gg r 2)else oB 0 [qi d,qi e]
def MR(N:Nat)(a b:PD):Oo:=bif eqB b.n 0 then oB 1 []else oA [.i (aH (a.n+1))]
def tS:Oo:=bif ltB d.n (bH a.q 2)then aI (bC 0 d.n)<|aB (lu [PD.l ((el a.q d.n 2 1).q),qi b,qi c]) 3 fun r=>MR N d (gg r 2)else oB 0 []
def afz(N:Nat):Oo:=oF [.i 0]
def MQ(N:Nat):Oo:=oF [.i 11]
def MP:Oo:=bi (aO (fun S=>tS N a b c (gg S 0)) N [.i 0]) (fun X=>afz N) (fun X=>MQ N)
def If:Oo:=bif cY (if g.n=0 then(0:Int)else 1) 0 then oF [qi g]else bif ltB 4096 (aH ((bH b.q 2)*(bH c.q 2)))then oF [.i 8]else bif bC 0 d.n then bif ltB 24 d.n then oF [.i 10]else bif bC 0 e.n then bif ltB 24 e.n then oF [.i 10]else bif bC 1 a.n then bif ltB 4294967296 a.n then oF [.i 2]else bif bC 1 f.n then bif ltB 4294967296 f.n then oF [.i 2]else bi (aO (fun S=>tT N a b d (gg S 0) (gg S 1) (gg S 2)) N [.i 0,.i 0,.i 0]) (fun X=>MP N c (gg X 0) (gg X 1)) (fun X=>MQ N)else oF [.i 2]else oF [.i 2]else oF [.i 10]else oF [.i 10]
def Ie:Oo:=bif cY (if h.n=0 then(0:Int)else 1) 0 then oF [qi h]else aB (Br [ql d,qi a]) 1 fun r=>If N b c d e f g (gg r 0)
def MV:Oo:=aB (Br [ql d,qi a]) 1 fun r=>Ie N b c d e f g h (gg r 0)
theorem aat:dk N tR tQ wu [a,b,c,d,e,f,g,h]=MV N a b c d e f g h:=by kernel_rfl
def FX:dO:=⟨W2,[],0,Qn,false⟩
def J6:List Ct:=[]
def Me:PL:=aIS
theorem ami:fF J6 FX f262 Me=true:=by kernel_rfl
def Mf:=dj J6 FX Me
def apR:Ct:=dl J6 ami func262 call262 rfl
def ay3(N:Nat)(a b c:PD):Oo:=
 let d:=aH (a.n*b.n)
 bif ltB a.n 0 then oF [.i 0,.i 0]else bif ltB b.n 0 then oF [.i 0,.i 0]else bif ltB c.n 0 then oF [.i 0,.i 0]else bif ltB 0 b.n then aI (cY (if b.n=0 then(0:Int)else 1) 0)<|bif ltB (aH (Int.tdiv c.n b.n)) a.n then oF [.i 0,.i 0]else oF [.i d,.i 1]else oF [.i d,.i 1]
theorem apQ:dk N J6 FX Me [a,b,c]=ay3 N a b c:=by kernel_rfl
def wt:dO:=⟨[uT],[],0,Qn,false⟩
def yV:List Ct:=[apR]
def BH:PL:=an 0 [W6,W9,W15] (aa W24 jo (aa R2 jo (aa JD jo (aa R1 jo aIR))))
theorem aas:fF yV wt f228 BH=true:=by kernel_rfl
def MO:=dj yV wt BH
def afy:Ct:=dl yV aas func228 call228 rfl
def Gb(N:Nat)(a b:PD):Oo:=oF [qi a,.i (if b.n=0 then(0:Int)else 1)]
def Tt:Oo:=bif eqB e.n 0 then oF [.i 0,.i 0]else bif ltB a.n 1 then oF [.i 0,.i 0]else bif ltB b.n 1 then oF [.i 0,.i 0]else bif ltB c.n 1 then oF [.i 0,.i 0]else aB (Mf [qi d,qi c,.i 4294967296]) 2 fun r=>Gb N (gg r 0) (gg r 1)
def WI:Oo:=aB (Mf [qi a,qi b,.i 4294967296]) 2 fun r=>Tt N a b c (gg r 0) (gg r 1)
theorem afx:dk N yV wt BH [a,b,c]=WI N a b c:=by kernel_rfl
def eU:dO:=⟨[ads,W3],[],0,kE,false⟩
def ji:List Ct:=[]
def Rn:PL:=l5
def Rm:PL:=l5
def Rl:PL:=aET
def Rj:PL:=aa aES l5 aET
def Av:PL:=aJ5
def wm:PL:=Av
def MI:List (Bm×Bool):=[]++[(bL vr aJ,true)]
theorem MH:gl ji eU f263 eU.ins.length Rn MI []=true:=by kernel_rfl
def pu:List (Bm×Bool):=[]++[(bL vr aJ,false)]
def MK:List (Bm×Bool):=pu++[(ay (aR 32) vr,true)]
theorem MG:gl ji eU f263 eU.ins.length Rm MK []=true:=by kernel_rfl
def MJ:List (Bm×Bool):=pu++[(ay (aR 32) vr,false)]
theorem MF:gl ji eU f263 eU.ins.length Rl MJ []=true:=by kernel_rfl
theorem ME:gl ji eU f263 eU.ins.length Rj pu []=true:=fG (by kernel_rfl) MG MF
theorem MD:gl ji eU f263 eU.ins.length Av [] []=true:=fG (by kernel_rfl) MH ME
theorem WG:fF ji eU f263 wm=true:=xS MD (by kernel_rfl)
def qB:=dj ji eU wm
def Ib:Ct:=dl ji WG func263 call263 rfl
def jU(N:Nat)(a b c d:PD):Oo:=
 let e:=(el a.q d.n 2 1).n
 let f:=(el a.q d.n 2 0).n
 let g:=aH (d.n+1)
 let h:=if e=0 then(0:Int)else 1
 let i:=aH (c.n+(-1))
 let j:=aH (c.n+1)
 let k:=aH (c.n+0)
 bif ltB d.n (bH a.q 2)then aI (bC 0 d.n)<|bif ltB f 0 then oB 1 [.i 1]else bif ltB 11 f then oB 1 [.i 1]else bif eqB f 1 then bif eqB b.n 0 then oB 1 [.i 1]else bif bC f 2 then bif ltB c.n 0 then oB 1 [.i 1]else bif eqB f 2 then bif bC (-4294967296) e then bif ltB 4294967296 e then oB 1 [.i 10]else oA [.i j,.i g]else oB 1 [.i 10]else bif eqB f 10 then bif bC 0 e then bif ltB 24 e then oB 1 [.i 10]else oA [.i j,.i g]else oB 1 [.i 10]else bif cY h 0 then oB 1 [.i 10]else oA [.i j,.i g]else bif bC 10 f then bif ltB c.n 1 then oB 1 [.i 1]else bif eqB f 2 then bif bC (-4294967296) e then bif ltB 4294967296 e then oB 1 [.i 10]else oA [.i k,.i g]else oB 1 [.i 10]else bif eqB f 10 then bif bC 0 e then bif ltB 24 e then oB 1 [.i 10]else oA [.i k,.i g]else oB 1 [.i 10]else bif cY h 0 then oB 1 [.i 10]else oA [.i k,.i g]else bif ltB c.n 2 then oB 1 [.i 1]else bif eqB f 2 then bif bC (-4294967296) e then bif ltB 4294967296 e then oB 1 [.i 10]else oA [.i i,.i g]else oB 1 [.i 10]else bif eqB f 10 then bif bC 0 e then bif ltB 24 e then oB 1 [.i 10]else oA [.i i,.i g]else oB 1 [.i 10]else bif cY h 0 then oB 1 [.i 10]else oA [.i i,.i g]else bif bC f 2 then bif ltB c.n 0 then oB 1 [.i 1]else bif eqB f 2 then bif bC (-4294967296) e then bif ltB 4294967296 e then oB 1 [.i 10]else oA [.i j,.i g]else oB 1 [.i 10]else bif eqB f 10 then bif bC 0 e then bif ltB 24 e then oB 1 [.i 10]else oA [.i j,.i g]else oB 1 [.i 10]else bif cY h 0 then oB 1 [.i 10]else oA [.i j,.i g]else bif bC 10 f then bif ltB c.n 1 then oB 1 [.i 1]else bif eqB f 2 then bif bC (-4294967296) e then bif ltB 4294967296 e then oB 1 [.i 10]else oA [.i k,.i g]else oB 1 [.i 10]else bif eqB f 10 then bif bC 0 e then bif ltB 24 e then oB 1 [.i 10]else oA [.i k,.i g]else oB 1 [.i 10]else bif cY h 0 then oB 1 [.i 10]else oA [.i k,.i g]else bif ltB c.n 2 then oB 1 [.i 1]else bif eqB f 2 then bif bC (-4294967296) e then bif ltB 4294967296 e then oB 1 [.i 10]else oA [.i i,.i g]else oB 1 [.i 10]else bif eqB f 10 then bif bC 0 e then bif ltB 24 e then oB 1 [.i 10]else oA [.i i,.i g]else oB 1 [.i 10]else bif cY h 0 then oB 1 [.i 10]else oA [.i i,.i g]else oB 0 [qi c]
def ML(N:Nat)(a:PD):Oo:=bif cY (if a.n=1 then(0:Int)else 1) 0 then oF [.i 1]else oF [.i 0]
def afw(N:Nat)(a:PD):Oo:=oF [qi a]
def DR:Oo:=bif eqB (bH a.q 2) 0 then oF [.i 9]else bif ltB 32 (bH a.q 2)then oF [.i 9]else bi (aO (fun S=>jU N a b (gg S 0) (gg S 1)) N [.i 0,.i 0]) (fun X=>ML N (gg X 0)) (fun X=>afw N (gg X 0))
theorem Ia:dk N ji eU wm [a,b]=DR N a b:=by kernel_rfl
def tM:dO:=⟨Qs,[],0,Qn,false⟩
def tN:List Ct:=[]
def wj:PL:=aa aoF (aa as_ (aa (ay aJ aig) (am aIN (aa (ay (dD ii aig) aEQ) jo JE)) JE) (aa as9 (am aii (aa (ay (dD ii W9) aEQ) jo JE)) JE)) (aa as_ (aa (ay aJ aig) (am aIN (aa (ay (dD ii aig) W6) jo JE)) JE) (aa as9 (am aii (aa (ay (dD ii W9) W6) jo JE)) JE))
theorem Wz:fF tN tM f293 wj=true:=by kernel_rfl
def nf:=dj tN tM wj
def aao:Ct:=dl tN Wz func293 call293 rfl
def Mz(N:Nat)(a b:PD):Oo:=
 let c:=aH (a.n*b.n)
 let d:=aH (0-b.n)
 let e:=cY (if b.n=0 then(0:Int)else 1) 0
 let f:=cY (if d=0 then(0:Int)else 1) 0
 let g:=aH (Int.tdiv 17592186044416 b.n)
 let h:=aH (Int.tdiv 17592186044416 d)
 bif ltB a.n 0 then bif ltB b.n 0 then bif ltB 0 d then aI f<|bif ltB h (aH (0-a.n))then oF [.i 0,.i 0]else oF [.i c,.i 1]else oF [.i c,.i 1]else bif ltB 0 b.n then aI e<|bif ltB g (aH (0-a.n))then oF [.i 0,.i 0]else oF [.i c,.i 1]else oF [.i c,.i 1]else bif ltB b.n 0 then bif ltB 0 d then aI f<|bif ltB h a.n then oF [.i 0,.i 0]else oF [.i c,.i 1]else oF [.i c,.i 1]else bif ltB 0 b.n then aI e<|bif ltB g a.n then oF [.i 0,.i 0]else oF [.i c,.i 1]else oF [.i c,.i 1]
theorem aan:dk N tN tM wj [a,b]=Mz N a b:=by kernel_rfl
def pq:dO:=⟨[Kn,Kn],[],0,[Kn,W3],false⟩
def n8:List Ct:=[aao]
def rk:PL:=an 0 [W6,dU] (an 0 [W6,gK] (an 0 [W9,dU] (an 0 [W9,gK] (aa (aC e7) (aa (aC dq) (aa as6 (ai (aF [aIM,aIL,ayy])) aEP) aEP) aEP))))
theorem MB:fF n8 pq f292 rk=true:=by kernel_rfl
def m3:=dj n8 pq rk
def Q9:Ct:=dl n8 MB func292 call292 rfl
def DO(N:Nat)(a b c d e f g h:PD):Oo:=
 let i:=lU (lU (lU a.n c.n) e.n) g.n
 let j:=gI (gI (gI a.n c.n) e.n) g.n
 bif cY b.n 0 then bif cY d.n 0 then bif cY f.n 0 then oF [.i i,.i j,.i (if h.n=0 then(0:Int)else 1)]else oF [.i i,.i j,.i 0]else oF [.i i,.i j,.i 0]else oF [.i i,.i j,.i 0]
def DN:Oo:=aB (nf [qi a,qi b]) 2 fun r=>DO N c d e f g h (gg r 0) (gg r 1)
def DM:Oo:=aB (nf [qi a,qi b]) 2 fun r=>DN N a c d e f g (gg r 0) (gg r 1)
def DL:Oo:=aB (nf [qi a,qi d]) 2 fun r=>DM N b c d e f (gg r 0) (gg r 1)
def BE:Oo:=aB (nf [qi a,qi c]) 2 fun r=>DL N a b c d (gg r 0) (gg r 1)
theorem Q8:dk N n8 pq rk [a,b,c,d]=BE N a b c d:=by kernel_rfl
def d_:dO:=⟨[Kn,Kn,Kn,W1,W1],[],0,[Kn,W3],false⟩
def iR:List Ct:=[Q9,Bt]
def WF:PL:=aEH
def WE:PL:=aEF
def WD:PL:=aa aia aEH aEF
def WC:PL:=aED
def WB:PL:=aEz
def WA:PL:=aa aia aED aEz
def DP:PL:=aJ4
def BF:PL:=DP
def rn:List (Bm×Bool):=[]++[(ay dU aJ,true)]
def Ri:List (Bm×Bool):=rn++[(ay gK aJ,true)]
theorem Re:gl iR d_ f285 d_.ins.length WF Ri []=true:=by kernel_rfl
def Rh:List (Bm×Bool):=rn++[(ay gK aJ,false)]
theorem Rd:gl iR d_ f285 d_.ins.length WE Rh []=true:=by kernel_rfl
theorem Rc:gl iR d_ f285 d_.ins.length WD rn []=true:=fG (by kernel_rfl) Re Rd
def rm:List (Bm×Bool):=[]++[(ay dU aJ,false)]
def Rg:List (Bm×Bool):=rm++[(ay gK aJ,true)]
theorem Rb:gl iR d_ f285 d_.ins.length WC Rg []=true:=by kernel_rfl
def Rf:List (Bm×Bool):=rm++[(ay gK aJ,false)]
theorem Ra:gl iR d_ f285 d_.ins.length WB Rf []=true:=by kernel_rfl
theorem Q':gl iR d_ f285 d_.ins.length WA rm []=true:=fG (by kernel_rfl) Rb Ra
theorem Q_:gl iR d_ f285 d_.ins.length DP [] []=true:=fG (by kernel_rfl) Rc Q'
theorem aap:fF iR d_ f285 BF=true:=xS Q_ (by kernel_rfl)
def pr:=dj iR d_ BF
def afv:Ct:=dl iR aap func285 call285 rfl
def mv(N:Nat)(a b c:PD):Oo:=bif cY c.n 0 then bif bC (-17592186044416) a.n then bif bC a.n 17592186044416 then bif bC (-17592186044416) b.n then oF [qi a,qi b,.i (if b.n<=17592186044416 then(1:Int)else 0)]else oF [qi a,qi b,.i 0]else oF [qi a,qi b,.i 0]else oF [qi a,qi b,.i 0]else oF [qi a,qi b,.i 0]
def Ts(N:Nat)(a b:PD):Oo:=bif bC (-17592186044416) a.n then bif bC a.n 17592186044416 then bif bC (-17592186044416) b.n then oF [qi a,qi b,.i (if b.n<=17592186044416 then(1:Int)else 0)]else oF [qi a,qi b,.i 0]else oF [qi a,qi b,.i 0]else oF [qi a,qi b,.i 0]
def mu:Oo:=aB (jh [qi b,qi a]) 1 fun r=>Ts N c (gg r 0)
def J8:Oo:=
 let i:= -17592186044416
 let j:=aH (d.n-e.n)
 let k:=gI (aH (0-c.n)) (aH (0-d.n))
 let l:=aH (c.n+e.n)
 let m:=aH (d.n+f.n)
 let n:=aH (c.n-f.n)
 let o:=gI j (aH (f.n-c.n))
 let p:=gI (aH (0-c.n)) d.n
 let q:=gI c.n (aH (0-d.n))
 let s:=lU c.n e.n
 let t:=lU d.n f.n
 let u:=gI c.n e.n
 let v:=gI d.n f.n
 let w:=gI c.n d.n
 let x:=if g.n<=17592186044416 then(1:Int)else 0
 let y:=if h.n<=17592186044416 then(1:Int)else 0
 let z:=if t<=17592186044416 then(1:Int)else 0
 let A:=if v<=17592186044416 then(1:Int)else 0
 let B:=if m<=17592186044416 then(1:Int)else 0
 let C:=if j<=17592186044416 then(1:Int)else 0
 let D:=if o<=17592186044416 then(1:Int)else 0
 let E:=m3 [qi c,qi d,qi e,qi f]
 let F:=jh [qi c,qi b]
 let G:=aH (0-w)
 let H:=aH (0-k)
 let I:=aH (0-p)
 let J:=aH (0-q)
 let K:=if w<=17592186044416 then(1:Int)else 0
 let L:=if k<=17592186044416 then(1:Int)else 0
 let M:=if p<=17592186044416 then(1:Int)else 0
 let O:=if q<=17592186044416 then(1:Int)else 0
 bif ltB c.n 0 then bif ltB d.n 0 then bif eqB a.n 0 then bif bC i g.n then oF [.i 0,qi g,.i x]else oF [.i 0,qi g,.i 0]else bif eqB a.n 1 then bif bC i h.n then oF [.i 0,qi h,.i y]else oF [.i 0,qi h,.i 0]else bif eqB a.n 2 then bif bC i b.n then bif bC b.n 17592186044416 then oF [qi b,qi b,.i 1]else oF [qi b,qi b,.i 0]else oF [qi b,qi b,.i 0]else bif eqB a.n 3 then bif bC i l then bif bC l 17592186044416 then bif bC i m then oF [.i l,.i m,.i B]else oF [.i l,.i m,.i 0]else oF [.i l,.i m,.i 0]else oF [.i l,.i m,.i 0]else bif eqB a.n 4 then bif bC i n then bif bC n 17592186044416 then bif bC i j then oF [.i n,.i j,.i C]else oF [.i n,.i j,.i 0]else oF [.i n,.i j,.i 0]else oF [.i n,.i j,.i 0]else bif eqB a.n 5 then aB E 3 fun r=>mv N (gg r 0) (gg r 1) (gg r 2)else bif eqB a.n 6 then bif bC i s then bif bC s 17592186044416 then bif bC i t then oF [.i s,.i t,.i z]else oF [.i s,.i t,.i 0]else oF [.i s,.i t,.i 0]else oF [.i s,.i t,.i 0]else bif eqB a.n 7 then bif bC i u then bif bC u 17592186044416 then bif bC i v then oF [.i u,.i v,.i A]else oF [.i u,.i v,.i 0]else oF [.i u,.i v,.i 0]else oF [.i u,.i v,.i 0]else bif eqB a.n 8 then bif bC i o then oF [.i 0,.i o,.i D]else oF [.i 0,.i o,.i 0]else bif eqB a.n 9 then bif bC i H then bif bC H 17592186044416 then bif bC i k then oF [.i H,.i k,.i L]else oF [.i H,.i k,.i 0]else oF [.i H,.i k,.i 0]else oF [.i H,.i k,.i 0]else bif eqB a.n 10 then aB F 1 fun r=>mu N b d (gg r 0)else bif bC i k then oF [.i 0,.i k,.i L]else oF [.i 0,.i k,.i 0]else bif eqB a.n 0 then bif bC i g.n then oF [.i 0,qi g,.i x]else oF [.i 0,qi g,.i 0]else bif eqB a.n 1 then bif bC i h.n then oF [.i 0,qi h,.i y]else oF [.i 0,qi h,.i 0]else bif eqB a.n 2 then bif bC i b.n then bif bC b.n 17592186044416 then oF [qi b,qi b,.i 1]else oF [qi b,qi b,.i 0]else oF [qi b,qi b,.i 0]else bif eqB a.n 3 then bif bC i l then bif bC l 17592186044416 then bif bC i m then oF [.i l,.i m,.i B]else oF [.i l,.i m,.i 0]else oF [.i l,.i m,.i 0]else oF [.i l,.i m,.i 0]else bif eqB a.n 4 then bif bC i n then bif bC n 17592186044416 then bif bC i j then oF [.i n,.i j,.i C]else oF [.i n,.i j,.i 0]else oF [.i n,.i j,.i 0]else oF [.i n,.i j,.i 0]else bif eqB a.n 5 then aB E 3 fun r=>mv N (gg r 0) (gg r 1) (gg r 2)else bif eqB a.n 6 then bif bC i s then bif bC s 17592186044416 then bif bC i t then oF [.i s,.i t,.i z]else oF [.i s,.i t,.i 0]else oF [.i s,.i t,.i 0]else oF [.i s,.i t,.i 0]else bif eqB a.n 7 then bif bC i u then bif bC u 17592186044416 then bif bC i v then oF [.i u,.i v,.i A]else oF [.i u,.i v,.i 0]else oF [.i u,.i v,.i 0]else oF [.i u,.i v,.i 0]else bif eqB a.n 8 then bif bC i o then oF [.i 0,.i o,.i D]else oF [.i 0,.i o,.i 0]else bif eqB a.n 9 then bif bC i I then bif bC I 17592186044416 then bif bC i p then oF [.i I,.i p,.i M]else oF [.i I,.i p,.i 0]else oF [.i I,.i p,.i 0]else oF [.i I,.i p,.i 0]else bif eqB a.n 10 then aB F 1 fun r=>mu N b d (gg r 0)else bif bC i p then oF [.i 0,.i p,.i M]else oF [.i 0,.i p,.i 0]else bif ltB d.n 0 then bif eqB a.n 0 then bif bC i g.n then oF [.i 0,qi g,.i x]else oF [.i 0,qi g,.i 0]else bif eqB a.n 1 then bif bC i h.n then oF [.i 0,qi h,.i y]else oF [.i 0,qi h,.i 0]else bif eqB a.n 2 then bif bC i b.n then bif bC b.n 17592186044416 then oF [qi b,qi b,.i 1]else oF [qi b,qi b,.i 0]else oF [qi b,qi b,.i 0]else bif eqB a.n 3 then bif bC i l then bif bC l 17592186044416 then bif bC i m then oF [.i l,.i m,.i B]else oF [.i l,.i m,.i 0]else oF [.i l,.i m,.i 0]else oF [.i l,.i m,.i 0]else bif eqB a.n 4 then bif bC i n then bif bC n 17592186044416 then bif bC i j then oF [.i n,.i j,.i C]else oF [.i n,.i j,.i 0]else oF [.i n,.i j,.i 0]else oF [.i n,.i j,.i 0]else bif eqB a.n 5 then aB E 3 fun r=>mv N (gg r 0) (gg r 1) (gg r 2)else bif eqB a.n 6 then bif bC i s then bif bC s 17592186044416 then bif bC i t then oF [.i s,.i t,.i z]else oF [.i s,.i t,.i 0]else oF [.i s,.i t,.i 0]else oF [.i s,.i t,.i 0]else bif eqB a.n 7 then bif bC i u then bif bC u 17592186044416 then bif bC i v then oF [.i u,.i v,.i A]else oF [.i u,.i v,.i 0]else oF [.i u,.i v,.i 0]else oF [.i u,.i v,.i 0]else bif eqB a.n 8 then bif bC i o then oF [.i 0,.i o,.i D]else oF [.i 0,.i o,.i 0]else bif eqB a.n 9 then bif bC i J then bif bC J 17592186044416 then bif bC i q then oF [.i J,.i q,.i O]else oF [.i J,.i q,.i 0]else oF [.i J,.i q,.i 0]else oF [.i J,.i q,.i 0]else bif eqB a.n 10 then aB F 1 fun r=>mu N b d (gg r 0)else bif bC i q then oF [.i 0,.i q,.i O]else oF [.i 0,.i q,.i 0]else bif eqB a.n 0 then bif bC i g.n then oF [.i 0,qi g,.i x]else oF [.i 0,qi g,.i 0]else bif eqB a.n 1 then bif bC i h.n then oF [.i 0,qi h,.i y]else oF [.i 0,qi h,.i 0]else bif eqB a.n 2 then bif bC i b.n then bif bC b.n 17592186044416 then oF [qi b,qi b,.i 1]else oF [qi b,qi b,.i 0]else oF [qi b,qi b,.i 0]else bif eqB a.n 3 then bif bC i l then bif bC l 17592186044416 then bif bC i m then oF [.i l,.i m,.i B]else oF [.i l,.i m,.i 0]else oF [.i l,.i m,.i 0]else oF [.i l,.i m,.i 0]else bif eqB a.n 4 then bif bC i n then bif bC n 17592186044416 then bif bC i j then oF [.i n,.i j,.i C]else oF [.i n,.i j,.i 0]else oF [.i n,.i j,.i 0]else oF [.i n,.i j,.i 0]else bif eqB a.n 5 then aB E 3 fun r=>mv N (gg r 0) (gg r 1) (gg r 2)else bif eqB a.n 6 then bif bC i s then bif bC s 17592186044416 then bif bC i t then oF [.i s,.i t,.i z]else oF [.i s,.i t,.i 0]else oF [.i s,.i t,.i 0]else oF [.i s,.i t,.i 0]else bif eqB a.n 7 then bif bC i u then bif bC u 17592186044416 then bif bC i v then oF [.i u,.i v,.i A]else oF [.i u,.i v,.i 0]else oF [.i u,.i v,.i 0]else oF [.i u,.i v,.i 0]else bif eqB a.n 8 then bif bC i o then oF [.i 0,.i o,.i D]else oF [.i 0,.i o,.i 0]else bif eqB a.n 9 then bif bC i G then bif bC G 17592186044416 then bif bC i w then oF [.i G,.i w,.i K]else oF [.i G,.i w,.i 0]else oF [.i G,.i w,.i 0]else oF [.i G,.i w,.i 0]else bif eqB a.n 10 then aB F 1 fun r=>mu N b d (gg r 0)else bif bC i w then oF [.i 0,.i w,.i K]else oF [.i 0,.i w,.i 0]
theorem MC:dk N iR d_ BF [a,b,c,d,e,f,g,h]=J8 N a b c d e f g h:=by kernel_rfl
def nK:dO:=⟨[ads,W1,W1],[],0,W2,false⟩
def m4:List Ct:=[Ib,afv]
def pv:PL:=an 0 [mb,W5] (aa (aC vn) aII (aa W10 (aa aEy adq (aa W14 (aa aoG adq (aT 8 5 ⟨(Ju::(W94::(AL::(u4 (u2 (u1 (ayf::(W30::(u64 W97))))))))),[as8,aIH],6⟩ aEw ⟨la,⟨(u8 (u2 (ayf::(u64 (iY JB))))),[aIH],6⟩,1⟩ ⟨qT,⟨(u4 (u2 (JC::(JC::(atb::ah'))))),[],12⟩,0⟩ (aa (ay e7 vr) (am W47 (aa (aD R0 fv) (an 1 [R0,aoB,aJ,aJ,aJ,aJ,W9,dU] (aa aoA l7 (am (aD aJ aye) (am (aD aye x_) (am (aD (d8 aye W5) f_) (ai (aL ⟨[cW (ic jp aJ aye 2) ayd,W50],[(5,some 13)]⟩))))))) (aa (aD YS R0) (am aEu (am aEt (an 1 [R0,aoB,aEs,aEr,aJ,aJ,W9,dU] (aa aoA l7 (am (aD ah_ x_) (am (aD (d8 ah_ W5) f_) (ai (aL ⟨[cW (ic jp aJ ah_ 2) ayd,W50],[(5,some 13)]⟩)))))))) (am aEu (am aEt (am (aD aJ ah9) (am (ay ah9 x_) (an 1 [R0,aoB,aq jp ah9 2 0,aq jp ah9 2 1,aEs,aEr,W9,dU] (aa aoA l7 (am (aD ah9 x_) (am (aD (d8 ah9 W5) f_) (ai (aL ⟨[cW (ic jp aJ ah9 2) ayd,W50],[(5,some 13)]⟩))))))))))))) aIG) aIF aIE)) adq)) adq))
theorem Jm:fF m4 nK f264 pv=true:=by kernel_rfl
def lQ:=dj m4 nK pv
def MM:Ct:=dl m4 Jm func264 call264 rfl
def rr(N:Nat)(a b c d e:PD):Oo:=
 let f:=aH ((bH a.q 2)-0)
 bif eqB e.n 0 then oB 1 []else aI (bC 0 f)<|aI (bC f (bH a.q 2))<|aI (bC (f+1) 1000000)<|oA [PD.l ((iv a.q 0 f 2)++(([]++[qi c])++[qi d])),.i (aH (b.n+1))]
def Ax(N:Nat)(a b c d e:PD):Oo:=
 let f:=aH ((bH a.q 2)-1)
 bif eqB e.n 0 then oB 1 []else aI (bC f (bH a.q 2))<|aI (bC (f+1) 1000000)<|oA [PD.l ((iv a.q 0 f 2)++(([]++[qi c])++[qi d])),.i (aH (b.n+1))]
def Aw(N:Nat)(a b c d e:PD):Oo:=
 let f:=aH ((bH a.q 2)-2)
 bif eqB e.n 0 then oB 1 []else aI (bC f (bH a.q 2))<|aI (bC (f+1) 1000000)<|oA [PD.l ((iv a.q 0 f 2)++(([]++[qi c])++[qi d])),.i (aH (b.n+1))]
def iD:Oo:=
 let f:=bH d.q 2
 let g:=(el a.q e.n 2 0).n
 let h:=aH (f-1)
 let i:=(el a.q e.n 2 1).n
 let j:=aH (f-2)
 let k:=(el d.q h 2 0).n
 let l:=(el d.q h 2 1).n
 bif ltB e.n (bH a.q 2)then aI (bC 0 e.n)<|bif bC g 2 then aB (pr [.i g,.i i,.i 0,.i 0,.i 0,.i 0,qi b,qi c]) 3 fun r=>rr N d e (gg r 0) (gg r 1) (gg r 2)else bif bC 10 g then aI (bC 0 h)<|aI (ltB h f)<|aB (pr [.i g,.i i,.i k,.i l,.i 0,.i 0,qi b,qi c]) 3 fun r=>Ax N d e (gg r 0) (gg r 1) (gg r 2)else aI (bC 0 h)<|aI (ltB h f)<|aI (bC 0 j)<|aI (ltB j f)<|aB (pr [.i g,.i i,.i ((el d.q j 2 0).n),.i ((el d.q j 2 1).n),.i k,.i l,qi b,qi c]) 3 fun r=>Aw N d e (gg r 0) (gg r 1) (gg r 2)else oB 0 [d]
def rq(N:Nat)(a:PD):Oo:=aI (ltB 0 (bH a.q 2))<|oF [.i ((el a.q 0 2 0).n),.i ((el a.q 0 2 1).n),.i 0]
def Ro(N:Nat):Oo:=oF [.i 0,.i 0,.i 11]
def ro:Oo:=bif cY (if d.n=0 then(0:Int)else 1) 0 then oF [.i 0,.i 0,qi d]else bif bC 1 b.n then bif ltB 4294967296 b.n then oF [.i 0,.i 0,.i 2]else bif bC 1 c.n then bif ltB 4294967296 c.n then oF [.i 0,.i 0,.i 2]else bi (aO (fun S=>iD N a b c (gg S 0) (gg S 1)) N [PD.l [],.i 0]) (fun X=>rq N (gg X 0)) (fun X=>Ro N)else oF [.i 0,.i 0,.i 2]else oF [.i 0,.i 0,.i 2]
def qC:Oo:=aB (qB [ql a,.i 1]) 1 fun r=>ro N a b c (gg r 0)
theorem wo:dk N m4 nK pv [a,b,c]=qC N a b c:=by kernel_rfl
def tO:dO:=⟨[ads,W3,W1,W1,W1],[],0,kE,false⟩
def tP:List Ct:=[Ib,MM]
def wq:PL:=an 0 [mb,aY W9 aJ 3] (aa adp aEq (aa (aD W5 et) (aa (ay W15 et) kW (aa aio (an 1 [mb,dU,W5] ayI) (an 1 [mb,dU,gK] ayI))) kW))
theorem WH:fF tP tO f229 wq=true:=by kernel_rfl
def lw:=dj tP tO wq
def aaq:Ct:=dl tP WH func229 call229 rfl
def MN(N:Nat)(a:PD):Oo:=oF [qi a]
def BG:Oo:=bif cY (if f.n=0 then(0:Int)else 1) 0 then oF [qi f]else bif bC 1 e.n then bif ltB 4294967296 e.n then oF [.i 2]else bif eqB b.n 0 then aB (lQ [ql a,qi c,.i 1]) 3 fun r=>MN N (gg r 2)else aB (lQ [ql a,qi c,qi d]) 3 fun r=>MN N (gg r 2)else oF [.i 2]
def DU:Oo:=aB (qB [ql a,.i (if b.n=0 then(0:Int)else 1)]) 1 fun r=>BG N a b c d e (gg r 0)
theorem Ic:dk N tP tO wq [a,b,c,d,e]=DU N a b c d e:=by kernel_rfl
def b7:dO:=⟨[x8],[],0,W4,false⟩
def dC:List Ct:=[]
def My:PL:=dp
def Mx:PL:=dp
def Mw:PL:=dp
def Mv:PL:=aIy
def Mu:PL:=aEp
def Mt:PL:=aEo
def Ms:PL:=aa l9 aEp aEo
def Mr:PL:=aEn
def Mp:PL:=aa YI dp aEn
def Mo:PL:=aIw
def I7:PL:=aEm
def I6:PL:=aEl
def I5:PL:=aa l9 aEm aEl
def I4:PL:=aIv
def I3:PL:=aEk
def I2:PL:=aa ayb dp aEk
def u5:PL:=aJ3
def tL:PL:=u5
def F8:List (Bm×Bool):=[]++[(ay W6 W5,true)]
theorem Jh:gl dC b7 f180 b7.ins.length My F8 []=true:=by kernel_rfl
def mj:List (Bm×Bool):=[]++[(ay W6 W5,false)]
def F9:List (Bm×Bool):=mj++[(ay l8 W6,true)]
theorem Jg:gl dC b7 f180 b7.ins.length Mx F9 []=true:=by kernel_rfl
def ml:List (Bm×Bool):=mj++[(ay l8 W6,false)]
def mp:List (Bm×Bool):=ml++[(aC (aY W6 l8 3),true)]
def Ji:List (Bm×Bool):=mp++[(aC (aY dU mY 3),true)]
theorem Jf:gl dC b7 f180 b7.ins.length Mw Ji []=true:=by kernel_rfl
def nI:List (Bm×Bool):=mp++[(aC (aY dU mY 3),false)]
def Jj:List (Bm×Bool):=nI++[(bL W6 W5,true)]
theorem Je:gl dC b7 f180 b7.ins.length Mv Jj []=true:=by kernel_rfl
def nJ:List (Bm×Bool):=nI++[(bL W6 W5,false)]
def Jl:List (Bm×Bool):=nJ++[(bL W6 fv,true)]
theorem Jd:gl dC b7 f180 b7.ins.length Mu Jl []=true:=by kernel_rfl
def Jk:List (Bm×Bool):=nJ++[(bL W6 fv,false)]
theorem Jc:gl dC b7 f180 b7.ins.length Mt Jk []=true:=by kernel_rfl
theorem Ja:gl dC b7 f180 b7.ins.length Ms nJ []=true:=fG (by kernel_rfl) Jd Jc
theorem I_:gl dC b7 f180 b7.ins.length Mr nI []=true:=fG (by kernel_rfl) Je Ja
theorem I9:gl dC b7 f180 b7.ins.length Mp mp []=true:=fG (by kernel_rfl) Jf I_
def mo:List (Bm×Bool):=ml++[(aC (aY W6 l8 3),false)]
def F_:List (Bm×Bool):=mo++[(bL W6 W5,true)]
theorem I8:gl dC b7 f180 b7.ins.length Mo F_ []=true:=by kernel_rfl
def mq:List (Bm×Bool):=mo++[(bL W6 W5,false)]
def Ga:List (Bm×Bool):=mq++[(bL W6 fv,true)]
theorem F7:gl dC b7 f180 b7.ins.length I7 Ga []=true:=by kernel_rfl
def F':List (Bm×Bool):=mq++[(bL W6 fv,false)]
theorem F6:gl dC b7 f180 b7.ins.length I6 F' []=true:=by kernel_rfl
theorem F5:gl dC b7 f180 b7.ins.length I5 mq []=true:=fG (by kernel_rfl) F7 F6
theorem F4:gl dC b7 f180 b7.ins.length I4 mo []=true:=fG (by kernel_rfl) I8 F5
theorem F3:gl dC b7 f180 b7.ins.length I3 ml []=true:=fG (by kernel_rfl) I9 F4
theorem F2:gl dC b7 f180 b7.ins.length I2 mj []=true:=fG (by kernel_rfl) Jg F3
theorem F1:gl dC b7 f180 b7.ins.length u5 [] []=true:=fG (by kernel_rfl) Jh F2
theorem Q7:fF dC b7 f180 tL=true:=xS F1 (by kernel_rfl)
def DK:=dj dC b7 tL
def Wy:Ct:=dl dC Q7 func180 call180 rfl
def Tr(N:Nat)(a b c d e f g h i j k l m n o p q s:PD):Oo:=
 let t:=if s.n=0 then(0:Int)else 1
 let u:=if p.n=0 then(0:Int)else 1
 let v:=if a.n=4 then(0:Int)else 1
 let w:=if a.n=3 then(0:Int)else 1
 let x:=bH q.q 2
 let y:=if g.n=0 then(0:Int)else 1
 let z:=if h.n=0 then(0:Int)else 1
 let A:=if m.n=0 then(0:Int)else 1
 let B:=bH n.q 2
 let C:=bH o.q 2
 let D:=bH k.q 1
 let E:=bH j.q 1
 let F:=bH i.q 1
 let G:=if l.n=0 then(0:Int)else 1
 let H:=if a.n=2 then(0:Int)else 1
 bif ltB a.n 1 then oF [.i 0]else bif ltB 6 a.n then oF [.i 0]else bif cY (if a.n=6 then(0:Int)else 1) 0 then bif cY (if c.n=(-1)then(0:Int)else 1) 0 then oF [.i 0]else bif eqB a.n 1 then bif cY H 0 then bif ltB 0 E then oF [.i 0]else bif ltB 0 D then oF [.i 0]else bif cY w 0 then bif ltB 0 B then oF [.i 0]else bif ltB 0 C then oF [.i 0]else bif cY A 0 then oF [.i 0]else bif cY v 0 then bif cY u 0 then oF [.i 0]else bif ltB 0 x then oF [.i 0]else bif eqB a.n 5 then bif cY t 0 then oF [.i 0]else oF [.i 1]else oF [.i 1]else bif ltB 0 x then oF [.i 0]else bif cY t 0 then oF [.i 0]else oF [.i 1]else bif cY v 0 then bif cY u 0 then oF [.i 0]else bif ltB 0 x then oF [.i 0]else bif eqB a.n 5 then bif cY t 0 then oF [.i 0]else oF [.i 1]else oF [.i 1]else bif ltB 0 x then oF [.i 0]else bif cY t 0 then oF [.i 0]else oF [.i 1]else bif cY w 0 then bif ltB 0 B then oF [.i 0]else bif ltB 0 C then oF [.i 0]else bif cY v 0 then bif cY u 0 then oF [.i 0]else bif ltB 0 x then oF [.i 0]else bif eqB a.n 5 then bif cY t 0 then oF [.i 0]else oF [.i 1]else oF [.i 1]else bif ltB 0 x then oF [.i 0]else bif cY t 0 then oF [.i 0]else oF [.i 1]else bif cY v 0 then bif cY u 0 then oF [.i 0]else bif ltB 0 x then oF [.i 0]else bif eqB a.n 5 then bif cY t 0 then oF [.i 0]else oF [.i 1]else oF [.i 1]else bif ltB 0 x then oF [.i 0]else bif cY t 0 then oF [.i 0]else oF [.i 1]else bif eqB a.n 2 then bif cY y 0 then oF [.i 0]else bif cY z 0 then oF [.i 0]else bif ltB 0 F then oF [.i 0]else bif cY w 0 then bif ltB 0 B then oF [.i 0]else bif ltB 0 C then oF [.i 0]else bif cY v 0 then bif cY u 0 then oF [.i 0]else bif ltB 0 x then oF [.i 0]else bif eqB a.n 5 then bif cY t 0 then oF [.i 0]else oF [.i 1]else oF [.i 1]else bif ltB 0 x then oF [.i 0]else bif cY t 0 then oF [.i 0]else oF [.i 1]else bif cY v 0 then bif cY u 0 then oF [.i 0]else bif ltB 0 x then oF [.i 0]else bif eqB a.n 5 then bif cY t 0 then oF [.i 0]else oF [.i 1]else oF [.i 1]else bif ltB 0 x then oF [.i 0]else bif cY t 0 then oF [.i 0]else oF [.i 1]else bif cY w 0 then bif eqB e.n 0 then bif eqB f.n 0 then bif cY y 0 then oF [.i 0]else bif cY z 0 then oF [.i 0]else bif ltB 0 F then oF [.i 0]else bif ltB 0 E then oF [.i 0]else bif ltB 0 D then oF [.i 0]else bif ltB 0 B then oF [.i 0]else bif ltB 0 C then oF [.i 0]else bif cY G 0 then oF [.i 0]else bif cY A 0 then oF [.i 0]else bif cY v 0 then bif cY u 0 then oF [.i 0]else bif ltB 0 x then oF [.i 0]else bif eqB a.n 5 then bif cY t 0 then oF [.i 0]else oF [.i 1]else oF [.i 1]else bif ltB 0 x then oF [.i 0]else bif cY t 0 then oF [.i 0]else oF [.i 1]else oF [.i 0]else oF [.i 0]else bif cY y 0 then oF [.i 0]else bif cY z 0 then oF [.i 0]else bif ltB 0 F then oF [.i 0]else bif ltB 0 E then oF [.i 0]else bif ltB 0 D then oF [.i 0]else bif cY v 0 then bif cY u 0 then oF [.i 0]else bif ltB 0 x then oF [.i 0]else bif eqB a.n 5 then bif cY t 0 then oF [.i 0]else oF [.i 1]else oF [.i 1]else bif ltB 0 x then oF [.i 0]else bif cY t 0 then oF [.i 0]else oF [.i 1]else bif eqB a.n 1 then bif cY H 0 then bif ltB 0 E then oF [.i 0]else bif ltB 0 D then oF [.i 0]else bif cY w 0 then bif ltB 0 B then oF [.i 0]else bif ltB 0 C then oF [.i 0]else bif cY A 0 then oF [.i 0]else bif cY v 0 then bif cY u 0 then oF [.i 0]else bif eqB a.n 5 then bif cY t 0 then oF [.i 0]else oF [.i 1]else oF [.i 1]else bif cY t 0 then oF [.i 0]else oF [.i 1]else bif cY v 0 then bif cY u 0 then oF [.i 0]else bif eqB a.n 5 then bif cY t 0 then oF [.i 0]else oF [.i 1]else oF [.i 1]else bif cY t 0 then oF [.i 0]else oF [.i 1]else bif cY w 0 then bif ltB 0 B then oF [.i 0]else bif ltB 0 C then oF [.i 0]else bif cY v 0 then bif cY u 0 then oF [.i 0]else bif eqB a.n 5 then bif cY t 0 then oF [.i 0]else oF [.i 1]else oF [.i 1]else bif cY t 0 then oF [.i 0]else oF [.i 1]else bif cY v 0 then bif cY u 0 then oF [.i 0]else bif eqB a.n 5 then bif cY t 0 then oF [.i 0]else oF [.i 1]else oF [.i 1]else bif cY t 0 then oF [.i 0]else oF [.i 1]else bif eqB a.n 2 then bif cY y 0 then oF [.i 0]else bif cY z 0 then oF [.i 0]else bif ltB 0 F then oF [.i 0]else bif cY w 0 then bif ltB 0 B then oF [.i 0]else bif ltB 0 C then oF [.i 0]else bif cY v 0 then bif cY u 0 then oF [.i 0]else bif eqB a.n 5 then bif cY t 0 then oF [.i 0]else oF [.i 1]else oF [.i 1]else bif cY t 0 then oF [.i 0]else oF [.i 1]else bif cY v 0 then bif cY u 0 then oF [.i 0]else bif eqB a.n 5 then bif cY t 0 then oF [.i 0]else oF [.i 1]else oF [.i 1]else bif cY t 0 then oF [.i 0]else oF [.i 1]else bif cY w 0 then bif eqB e.n 0 then bif eqB f.n 0 then bif cY y 0 then oF [.i 0]else bif cY z 0 then oF [.i 0]else bif ltB 0 F then oF [.i 0]else bif ltB 0 E then oF [.i 0]else bif ltB 0 D then oF [.i 0]else bif ltB 0 B then oF [.i 0]else bif ltB 0 C then oF [.i 0]else bif cY G 0 then oF [.i 0]else bif cY A 0 then oF [.i 0]else bif cY v 0 then bif cY u 0 then oF [.i 0]else bif eqB a.n 5 then bif cY t 0 then oF [.i 0]else oF [.i 1]else oF [.i 1]else bif cY t 0 then oF [.i 0]else oF [.i 1]else oF [.i 0]else oF [.i 0]else bif cY y 0 then oF [.i 0]else bif cY z 0 then oF [.i 0]else bif ltB 0 F then oF [.i 0]else bif ltB 0 E then oF [.i 0]else bif ltB 0 D then oF [.i 0]else bif cY v 0 then bif cY u 0 then oF [.i 0]else bif eqB a.n 5 then bif cY t 0 then oF [.i 0]else oF [.i 1]else oF [.i 1]else bif cY t 0 then oF [.i 0]else oF [.i 1]
theorem Wx:dk N dC b7 tL [a,b,c,d,e,f,g,h,i,j,k,l,m,n,o,p,q,s]=Tr N a b c d e f g h i j k l m n o p q s:=by kernel_rfl
def rj:dO:=⟨[x8,uT,uT],[],0,[uT,W1],false⟩
def qz:List Ct:=[afd,aaw,aau,afy,aaq]
def tK:PL:=aa pZ (an 0 aIt aya) (aa l9 (an 1 aIs aya) (aa CV (an 2 aIr (ai (aF [aow,aou,eo,iy]))) (aa vp (aa (aD W5 fI) (aa (ay W8 fI) aIq aIp) aIq) (aa uS (an 3 asV (aa ax' (ai (aF [eh,d5,eo,adx])) (ai (aF [eh,d5,iy,aJ])))) (aa vo (an 4 [iI,aIo,eE,gm,eo] (aa ax_ aya (aa YI (an 4 [iI,W5,eE,gm,eo] (aa ax9 aIn (aa aIm aIl (aa aIk aIl ax8)))) (an 4 [iI,aJ,eE,gm,eo] (aa ax9 aIn ax8))))) (an 4 [iI,aJ,eE,gm,eo] (aa ax_ aya ax8)))))))
theorem Q6:fF qz rj f184 tK=true:=by kernel_rfl
def ka:=dj qz rj tK
def Wt:Ct:=dl qz Q6 func184 call184 rfl
def H_(N:Nat)(a b c d:PD):Oo:=oF [qi b,qi c,qi a,qi d]
def H9(N:Nat)(a b c d:PD):Oo:=oF [.i (bH a.q 2),.i (bH b.q 2),qi c,qi d]
def H8(N:Nat)(a b c d e:PD):Oo:=bif eqB e.n 0 then oF [qi b,qi c,qi a,.i 11]else oF [qi b,qi c,qi d,.i 0]
def H7(N:Nat)(a b c d e f:PD):Oo:=bif cY (if f.n=0 then(0:Int)else 1) 0 then oF [qi b,qi c,qi a,qi f]else bif cY (if b.n=d.n then(0:Int)else 1) 0 then oF [qi b,qi c,qi a,.i 8]else bif cY (if c.n=e.n then(0:Int)else 1) 0 then oF [qi b,qi c,qi a,.i 8]else oF [qi b,qi c,qi a,.i 0]
def H6(N:Nat)(a b c d:PD):Oo:=bif cY (if d.n=0 then(0:Int)else 1) 0 then oF [qi b,qi c,qi a,qi d]else oF [qi b,qi c,qi a,.i 0]
def qA:Oo:=bif cY (if j.n=0 then(0:Int)else 1) 0 then oF [qi d,qi e,qi c,qi j]else bif cY (if a.n=(-1)then(0:Int)else 1) 0 then aB (lw [ql b,.i 1,qi f,qi i,qi c]) 1 fun r=>H7 N c d e g h (gg r 0)else aB (lw [ql b,.i 0,qi f,qi i,qi c]) 1 fun r=>H6 N c d e (gg r 0)
def aal(N:Nat)(a b c d:PD):Oo:=bif cY (if d.n=0 then(0:Int)else 1) 0 then oF [qi b,qi c,qi a,qi d]else oF [qi b,qi c,qi a,.i 0]
def yT(N:Nat)(a b c d e f g h i j k l m n o p q s t u v w x y:PD):Oo:=bif eqB a.n 1 then aB (Lt [qi v,qi g,qi h,ql i,qi l,qi s]) 1 fun r=>H_ N s t u (gg r 0)else bif eqB a.n 2 then aB (Ig [qi v,ql j,ql k,qi l,qi m,qi s]) 1 fun r=>H_ N s t u (gg r 0)else bif eqB a.n 3 then aB (Id [qi t,qi u,qi v,ql n,ql o,qi l,qi m,qi s]) 1 fun r=>H9 N n o s (gg r 0)else bif eqB a.n 4 then bif bC 1 p.n then bif ltB 128 p.n then oF [qi t,qi u,qi s,.i 9]else oF [qi p,.i 1,.i (aH (t.n*u.n)),.i 0]else oF [qi t,qi u,qi s,.i 9]else bif eqB a.n 5 then aB (MO [qi t,qi u,qi v]) 2 fun r=>H8 N s t u (gg r 0) (gg r 1)else bif eqB a.n 6 then aB (lw [ql q,.i (if(if c.n=(-1)then(0:Int)else 1)=0 then(0:Int)else 1),qi v,qi y,qi s]) 1 fun r=>qA N c q s t u v w x y (gg r 0)else aB (lw [ql q,.i 0,qi v,qi y,qi s]) 1 fun r=>aal N s t u (gg r 0)
theorem DI:dk N qz rj tK [a,b,c,d,e,f,g,h,i,j,k,l,m,n,o,p,q,s,t,u,v,w,x,y]=yT N a b c d e f g h i j k l m n o p q s t u v w x y:=by kernel_rfl
def F0:dO:=⟨[x8,uT,uT],[],0,[uT,W1],false⟩
def J7:List Ct:=[Wy,Tl,afq,Wt]
def Mn:PL:=an 0 aon (aa aIj YH (an 1 asV (aa ax' asU (aa vo (aa YI (an 1 [fZ,gQ,gm] (aa ah5 asU (aa pZ aEj (aa l9 aEj (aa CV aEj aIh))))) aIg) aIg))))
theorem amo:fF J7 F0 f123 Mn=true:=by kernel_rfl
def r_:=dj J7 F0 Mn
def apV:Ct:=dl J7 amo func123 call123 rfl
def avw(N:Nat)(a b c d:PD):Oo:=bif cY (if d.n=0 then(0:Int)else 1) 0 then oF [.i 0,.i 0,.i 0,qi d]else oF [qi a,qi b,qi c,.i 0]
def Ww:Oo:=bif eqB z.n 0 then oF [.i 0,.i 0,.i 0,.i 1]else aB (ka [qi a,qi b,qi c,.i (if d.n=0 then(0:Int)else 1),qi e,qi f,qi g,qi h,ql i,ql j,ql k,qi l,qi m,ql n,ql o,qi p,ql q,qi s,qi t,qi u,qi v,qi w,qi x,qi y]) 4 fun r=>avw N (gg r 0) (gg r 1) (gg r 2) (gg r 3)
def yU(N:Nat)(a b c d:PD):Oo:=bif cY (if d.n=0 then(0:Int)else 1) 0 then oF [.i 0,.i 0,.i 0,qi d]else oF [qi a,qi b,qi c,.i 0]
def aje:Oo:=
 let A:=Bz [qi e,qi f,qi v]
 bif eqB z.n 0 then oF [.i 0,.i 0,.i 0,.i 2]else bif eqB a.n 1 then aB A 1 fun r=>Ww N a b c d e f g h i j k l m n o p q s t u v w x y (gg r 0)else bif eqB a.n 2 then aB A 1 fun r=>Ww N a b c d e f g h i j k l m n o p q s t u v w x y (gg r 0)else bif eqB a.n 3 then aB A 1 fun r=>Ww N a b c d e f g h i j k l m n o p q s t u v w x y (gg r 0)else aB (ka [qi a,qi b,qi c,.i (if d.n=0 then(0:Int)else 1),qi e,qi f,qi g,qi h,ql i,ql j,ql k,qi l,qi m,ql n,ql o,qi p,ql q,qi s,qi t,qi u,qi v,qi w,qi x,qi y]) 4 fun r=>yU N (gg r 0) (gg r 1) (gg r 2) (gg r 3)
def n6:Oo:=bif eqB z.n 0 then oF [.i 0,.i 0,.i 0,.i 1]else aB (ka [qi a,qi b,qi c,.i (if d.n=0 then(0:Int)else 1),qi e,qi f,qi g,qi h,ql i,ql j,ql k,qi l,qi m,ql n,ql o,qi p,ql q,qi s,qi t,qi u,qi v,qi w,qi x,qi y]) 4 fun r=>yU N (gg r 0) (gg r 1) (gg r 2) (gg r 3)
def DJ(N:Nat)(a b c d:PD):Oo:=bif cY (if d.n=0 then(0:Int)else 1) 0 then oF [.i 0,.i 0,.i 0,qi d]else oF [qi a,qi b,qi c,.i 0]
def Wv:Oo:=
 let A:=ka [qi a,qi b,qi c,.i (if d.n=0 then(0:Int)else 1),qi e,qi f,qi g,qi h,ql i,ql j,ql k,qi l,qi m,ql n,ql o,qi p,ql q,qi s,qi t,qi u,qi v,qi w,qi x,qi y]
 let B:=Bz [qi e,qi f,qi v]
 bif eqB z.n 0 then oF [.i 0,.i 0,.i 0,.i 2]else bif eqB a.n 6 then bif cY (if c.n=(-1)then(0:Int)else 1) 0 then aB (yO [qi w,qi x,qi y]) 1 fun r=>aje N a b c d e f g h i j k l m n o p q s t u v w x y (gg r 0)else bif eqB a.n 1 then aB B 1 fun r=>n6 N a b c d e f g h i j k l m n o p q s t u v w x y (gg r 0)else bif eqB a.n 2 then aB B 1 fun r=>n6 N a b c d e f g h i j k l m n o p q s t u v w x y (gg r 0)else bif eqB a.n 3 then aB B 1 fun r=>n6 N a b c d e f g h i j k l m n o p q s t u v w x y (gg r 0)else aB A 4 fun r=>DJ N (gg r 0) (gg r 1) (gg r 2) (gg r 3)else bif eqB a.n 1 then aB B 1 fun r=>n6 N a b c d e f g h i j k l m n o p q s t u v w x y (gg r 0)else bif eqB a.n 2 then aB B 1 fun r=>n6 N a b c d e f g h i j k l m n o p q s t u v w x y (gg r 0)else bif eqB a.n 3 then aB B 1 fun r=>n6 N a b c d e f g h i j k l m n o p q s t u v w x y (gg r 0)else aB A 4 fun r=>DJ N (gg r 0) (gg r 1) (gg r 2) (gg r 3)
def Wu:Oo:=bif eqB z.n 0 then oF [.i 0,.i 0,.i 0,.i 1]else aB (yO [qi t,qi u,qi v]) 1 fun r=>Wv N a b c d e f g h i j k l m n o p q s t u v w x y (gg r 0)
def ajf:Oo:=aB (DK [qi a,qi b,qi c,.i (if d.n=0 then(0:Int)else 1),qi e,qi f,qi g,qi h,ql i,ql j,ql k,qi l,qi m,ql n,ql o,qi p,ql q,qi s]) 1 fun r=>Wu N a b c d e f g h i j k l m n o p q s t u v w x y (gg r 0)
theorem aam:dk N J7 F0 Mn [a,b,c,d,e,f,g,h,i,j,k,l,m,n,o,p,q,s,t,u,v,w,x,y]=ajf N a b c d e f g h i j k l m n o p q s t u v w x y:=by kernel_rfl
def tA:dO:=⟨[Hu],[],0,kE,false⟩
def tB:List Ct:=[]
def wh:PL:=aa (bL W80 aJ) RX (aa aEh RX (aa (ay Ao lk) RX (aa aEg RX (aa (ay Ao YR) RX (aa aia kW (aa (aD nR gK) kW (aT 7 6 ⟨aIf,ah3,6⟩ Fk ⟨fC 1,⟨(u1 (zY::(u1 (YG::(u64 aol))))),ah3,6⟩,0⟩ aEf (aa (ay et Ht) (am R5 (aa (bL (aq dT et 18 0) l8) (aa (aC (aY asS mY 3)) (aT 11 9 ⟨(u1 (zY::(u1 (YG::(nB::((aV (aE (mR 8 0 2 0)))::(W30::ah1))))))),[An,Vu,uQ,qh,(8,a_ 1 3 [ax ax6,ax asS])],9⟩ Fk aIc aEf (aa (ay e7 fv) (am W47 (am (ay e7 (bF (ao asR asS) 1)) (aa (ay aIb aJ) l7 (aa (aD lk aIb) l7 W51)))) C1) ax5 l7) aIa) aIa)) C1) (aT 16 6 ⟨(u1 (zY::(u1 (YG::(u2 (u1 (nB::aEe))))))),ah3,6⟩ Fk ⟨fC 5,⟨(u64 aim),[],6⟩,0⟩ ⟨qT,⟨aId,[],6⟩,0⟩ aH' dp ax3) ax3)))))))
theorem Wp:fF tB tA f176 wh=true:=by kernel_rfl
def HW:=dj tB tA wh
def aad:Ct:=dl tB Wp func176 call176 rfl
def tE(N:Nat)(a b c d:PD):Oo:=
 let e:=([]++[PD.i ((el b.q c.n 18 1).n)])++[PD.i ((el b.q c.n 18 2).n)]
 let f:=(el e d.n 1 0).n
 bif ltB d.n 2 then aI (bC 0 d.n)<|aI (ltB d.n (bH e 1))<|bif ltB f 0 then oB 1 []else bif bC (aH ((bH a.q 4)+(bH b.q 18))) f then oB 1 []else oA [.i (aH (d.n+1))]else oB 0 []
def pn(N:Nat)(a:PD):Oo:=oA [.i (aH (a.n+1))]
def BC(N:Nat):Oo:=oB 1 []
def pm(N:Nat)(a b c d:PD):Oo:=
 let e:=[]++[PD.i ((el b.q c.n 18 1).n)]
 let f:=(el e d.n 1 0).n
 bif ltB d.n 1 then aI (bC 0 d.n)<|aI (ltB d.n (bH e 1))<|bif ltB f 0 then oB 1 []else bif bC (aH ((bH a.q 4)+(bH b.q 18))) f then oB 1 []else oA [.i (aH (d.n+1))]else oB 0 []
def tD:Oo:=bif ltB c.n (bH b.q 18)then aI (bC 0 c.n)<|bif eqB ((el b.q c.n 18 0).n) 6 then bif cY (if((el b.q c.n 18 2).n)=(-1)then(0:Int)else 1) 0 then bi (aO (fun S=>tE N a b c (gg S 0)) N [.i 0]) (fun X=>pn N c) (fun X=>BC N)else bi (aO (fun S=>pm N a b c (gg S 0)) N [.i 0]) (fun X=>pn N c) (fun X=>BC N)else bi (aO (fun S=>pm N a b c (gg S 0)) N [.i 0]) (fun X=>pn N c) (fun X=>BC N)else oB 0 []
def tC(N:Nat)(a b c d:PD):Oo:=
 let e:=(el c.q d.n 1 0).n
 bif ltB d.n (bH c.q 1)then aI (bC 0 d.n)<|bif ltB e 0 then oB 1 []else bif bC (aH ((bH a.q 4)+(bH b.q 18))) e then oB 1 []else oA [.i (aH (d.n+1))]else oB 0 []
def afu(N:Nat):Oo:=oF [.i 0]
def Mj(N:Nat):Oo:=oF [.i 6]
def Mi:Oo:=bi (aO (fun S=>tC N a b c (gg S 0)) N [.i 0]) (fun X=>afu N) (fun X=>Mj N)
def aae:Oo:=bif eqB (bH a.q 4) 0 then oF [.i 5]else bif eqB (bH b.q 18) 0 then oF [.i 5]else bif ltB 16 (aH ((bH a.q 4)+(bH b.q 18)))then oF [.i 5]else bif eqB (bH c.q 1) 0 then oF [.i 5]else bif ltB 16 (bH c.q 1)then oF [.i 5]else bif ltB d.n 0 then oF [.i 2]else bif bC 4 d.n then oF [.i 2]else bi (aO (fun S=>tD N a b (gg S 0)) N [.i 0]) (fun X=>Mi N a b c) (fun X=>Mj N)
theorem aac:dk N tB tA wh [a,b,c,d]=aae N a b c d:=by kernel_rfl
def BB:dO:=⟨adm,[],0,W4,false⟩
def DF:List Ct:=[]
def FY:PL:=aT 2 3 ⟨(Ju::(W94::(u2 (u1 (AL::W95))))),W96,3⟩ Fk ⟨la,⟨Am,[],3⟩,0⟩ ⟨qT,⟨(u4 (ax2::W98)),[],3⟩,0⟩ (aa W68 (am W69 (aa (bL W71 W9) l7 W74)) C1) dp C0
theorem aft:fF DF BB f177 FY=true:=by kernel_rfl
def r9:=dj DF BB FY
def amm:Ct:=dl DF aft func177 call177 rfl
def DG(N:Nat)(a b c:PD):Oo:=bif ltB c.n (bH a.q 1)then aI (bC 0 c.n)<|bif eqB ((el a.q c.n 1 0).n) b.n then oB 1 []else oA [.i (aH (c.n+1))]else oB 0 []
def apT(N:Nat):Oo:=oF [.i 0]
def apS(N:Nat):Oo:=oF [.i 1]
def apU:Oo:=bi (aO (fun S=>DG N a b (gg S 0)) N [.i 0]) (fun X=>apT N) (fun X=>apS N)
theorem aml:dk N DF BB FY [a,b]=apU N a b:=by kernel_rfl
def tG:dO:=⟨[Hu],[],0,adm,false⟩
def tH:List Ct:=[aad,amm]
def wi:PL:=an 0 Qm (aa (aC ax1) aH_ (aT 5 7 ⟨(u1 (zY::(u2 (u1 (ah0::(u64 W98)))))),ax0,8⟩ ⟨[cn],[(7,none)]⟩ ⟨la,⟨(u4 (u1 (ah0::(u64 W98)))),[(7,aoi)],8⟩,1⟩ ⟨qT,⟨(u2 (Jy::((aV (aE (eB 7)))::ahZ))),[],8⟩,0⟩ (aa (ay Ql Ht) (aT 8 8 ⟨(u1 (zY::(u2 (u1 (ah0::(p7::(rN::(u64 W46)))))))),ax0,8⟩ ⟨[mY,aJ],[]⟩ ⟨qg,⟨(u1 (zY::(u2 (u1 (ah0::(p7::(u64 W95))))))),ax0,8⟩,1⟩ dN (aa (ay dq Ht) (aa axZ (an 1 [gD,adl] (am axY (aa (bL (aq dT dq 18 0) l8) (aa (aC (aY asQ mY 3)) (aT 14 12 ⟨(u1 (zY::(u2 (u1 (ah0::(p7::(rN::(aEd::(aEc::((aV (aE (mR 11 0 2 0)))::(jv::(u64 JG)))))))))))),[An,Vu,uQ,qh,(7,aoi),(11,a_ 1 3 [ax axX,ax asQ])],12⟩ aH9 aH8 dN (aa (ay fT fv) (aa as6 (am axV (am (ay fT (bF (ao asP asQ) 1)) (aa (ay aH7 W80) aH6 (an 1 [gD,aH7] aH5)))) aH4) aH3) aH2 dL) aH1) aH1))) aH0) aH0) (aa axZ l7 (am aHZ (ai (aL ⟨[cW gD (ao cn fP)],[(7,some 9)]⟩)))) dL) (ai (bE 0 ⟨[gD],[(7,some 7)]⟩))) (ai (aF [gD,aJ])) aHY))
theorem Ws:fF tH tG f120 wi=true:=by kernel_rfl
def H4:=dj tH tG wi
def aai:Ct:=dl tH Ws func120 call120 rfl
def BD(N:Nat)(a b:PD):Oo:=oA [.i (if b.n=0 then(0:Int)else 1),.i (aH (a.n+1))]
def pp:Oo:=
 let g:=([]++[PD.i ((el b.q d.n 18 1).n)])++[PD.i ((el b.q d.n 18 2).n)]
 let h:=(el g f.n 1 0).n
 bif ltB f.n 2 then bif cY e.n 0 then aI (bC 0 f.n)<|aI (ltB f.n (bH g 1))<|bif ltB h (bH a.q 4)then oA [.i 1,.i (aH (f.n+1))]else aB (r9 [ql c,.i h]) 1 fun r=>BD N f (gg r 0)else oA [.i 0,.i (aH (f.n+1))]else oB 0 [.i (if e.n=0 then(0:Int)else 1)]
def po(N:Nat)(a b c d:PD):Oo:=bif cY d.n 0 then oA [.i (aH ((bH a.q 4)+c.n)),.i (aH (c.n+1))]else oA [qi b,.i (aH (c.n+1))]
def lh:Oo:=
 let g:=[]++[PD.i ((el b.q d.n 18 1).n)]
 let h:=(el g f.n 1 0).n
 bif ltB f.n 1 then bif cY e.n 0 then aI (bC 0 f.n)<|aI (ltB f.n (bH g 1))<|bif ltB h (bH a.q 4)then oA [.i 1,.i (aH (f.n+1))]else aB (r9 [ql c,.i h]) 1 fun r=>BD N f (gg r 0)else oA [.i 0,.i (aH (f.n+1))]else oB 0 [.i (if e.n=0 then(0:Int)else 1)]
def Mm:Oo:=
 let g:=if f.n=0 then(1:Int)else 0
 aI (bC 0 e.n)<|bif eqB ((el b.q e.n 18 0).n) 6 then bif cY (if((el b.q e.n 18 2).n)=(-1)then(0:Int)else 1) 0 then bi (aO (fun S=>pp N a b c e (gg S 0) (gg S 1)) N [.i g,.i 0]) (fun X=>po N a d e (gg X 0)) (fun X=>none)else bi (aO (fun S=>lh N a b c e (gg S 0) (gg S 1)) N [.i g,.i 0]) (fun X=>po N a d e (gg X 0)) (fun X=>none)else bi (aO (fun S=>lh N a b c e (gg S 0) (gg S 1)) N [.i g,.i 0]) (fun X=>po N a d e (gg X 0)) (fun X=>none)
def tJ:Oo:=bif ltB e.n (bH b.q 18)then bif ltB d.n 0 then aB (r9 [ql c,.i (aH ((bH a.q 4)+e.n))]) 1 fun r=>Mm N a b c d e (gg r 0)else oB 0 [qi d]else oB 0 [qi d]
def Ml(N:Nat)(a b:PD):Oo:=bif ltB b.n 0 then oB 1 []else aI (bC ((bH a.q 1)+1) 1000000)<|oA [PD.l (a.q++([]++[qi b]))]
def tI:Oo:=bif ltB (bH c.q 1) (bH b.q 18)then bi (aO (fun S=>tJ N a b c (gg S 0) (gg S 1)) N [.i (-1),.i 0]) (fun X=>Ml N c (gg X 0)) (fun X=>none)else oB 0 [c]
def Mk(N:Nat)(a:PD):Oo:=oF [ql a,.i 0]
def aaj(N:Nat):Oo:=oF [PD.l [],.i 7]
def H5:Oo:=bif cY (if c.n=0 then(0:Int)else 1) 0 then oF [PD.l [],qi c]else bi (aO (fun S=>tI N a b (gg S 0)) N [PD.l []]) (fun X=>Mk N (gg X 0)) (fun X=>aaj N)
def aak:Oo:=aB (HW [ql a,ql b,ql c,qi d]) 1 fun r=>H5 N a b (gg r 0)
theorem aah:dk N tH tG wi [a,b,c,d]=aak N a b c d:=by kernel_rfl
def ri:dO:=⟨[Hu],[],0,[kZ (ib Fm),W1,W1],false⟩
def qx:List Ct:=[aai,afj,apV]
def tF:PL:=an 0 Qm (aa adp aHX (am aEa (am aD' (aT 6 9 ⟨(u1 (zY::(u2 (u1 (Qk::(u1 (ahW::(rN::aEe)))))))),axU,9⟩ aHW ⟨la,⟨(u1 (zY::(u2 (u1 (Qk::(u1 (ahW::ah1))))))),axU,9⟩,1⟩ ⟨qT,⟨(u2 (Jy::(p7::(aD8::(u64 aol))))),[],10⟩,1⟩ aHV (aT 12 9 ⟨(u1 (zY::(u2 (u1 (Qk::(u1 (ahW::(u1 (Hq::(u64 (iO []))))))))))),[An,Vu,uQ,qh,asO,axT],9⟩ ⟨[gY,aJ],[]⟩ ⟨qg,⟨(u4 (u2 (u1 (ahW::ah1)))),[axT],9⟩,1⟩ ⟨qT,⟨(u2 (Jy::(rN::(Hq::(u64 aol))))),[],17⟩,2⟩ (aa (ay lH asN) (am axS (am (aD aJ qf) (am (ay qf Ht) (aa (bL axR l8) (aa (aC (aY Hp mY 3)) (am axQ (am (aD aJ Hp) (am (ay Hp lk) (am (ay Hp aog) (am aD3 (am aD2 (am aD1 (an 2 aHU aHT)))))))) aHR) aHR)))) aHQ) aHP aHO) aHN))))
theorem Q4:fF qx ri f69 tF=true:=by kernel_rfl
def fu:=dj qx ri tF
def DH:Ct:=dl qx Q4 func69 call69 rfl
def H3(N:Nat)(a b c d e:PD):Oo:=
 let f:=aH ((bH a.q 4)+(bH b.q 18))
 bif eqB e.n 0 then oB 1 [qi d]else aI (bC f (bH c.q 3))<|aI (ltB d.n f)<|aI (ltB d.n (bH c.q 3))<|oA [PD.l (cM (cM (cM c.q d.n 3 0 (PD.i ((el a.q d.n 4 0).n))) d.n 3 1 (PD.i ((el a.q d.n 4 1).n))) d.n 3 2 (PD.i ((el a.q d.n 4 2).n))),.i (aH (d.n+1))]
def qy:Oo:=bif ltB d.n (bH a.q 4)then aI (bC 0 d.n)<|aB (Mc [.i ((el a.q d.n 4 0).n),.i ((el a.q d.n 4 1).n),.i ((el a.q d.n 4 2).n),PD.l ((el a.q d.n 4 3).q)]) 1 fun r=>H3 N a b c d (gg r 0)else oB 0 [c]
def iq(N:Nat)(a b c d e f g h i:PD):Oo:=
 let j:=(el c.q e.n 1 0).n
 bif cY (if i.n=0 then(0:Int)else 1) 0 then oB 1 [el c.q e.n 1 0,qi i]else aI (bC 0 j)<|aI (ltB j (aH ((bH a.q 4)+(bH b.q 18))))<|aI (ltB j (bH d.q 3))<|oA [PD.l (cM (cM (cM d.q j 3 0 (qi f)) j 3 1 (qi g)) j 3 2 (qi h)),.i (aH (e.n+1))]
def lv:Oo:=
 let f:=aH (((el c.q e.n 1 0).n)-(bH a.q 4))
 let g:=(el b.q f 18 1).n
 let h:=aH ((bH a.q 4)+(bH b.q 18))
 let i:=(el b.q f 18 2).n
 let j:=bH d.q 3
 let k:=(el b.q f 18 0).n
 let l:=r_ [.i k,.i g,.i i,.i (if((el b.q f 18 3).n)=0 then(0:Int)else 1),.i ((el b.q f 18 4).n),.i ((el b.q f 18 5).n),.i ((el b.q f 18 6).n),.i ((el b.q f 18 7).n),PD.l ((el b.q f 18 8).q),PD.l ((el b.q f 18 9).q),PD.l ((el b.q f 18 10).q),.i ((el b.q f 18 11).n),.i ((el b.q f 18 12).n),PD.l ((el b.q f 18 13).q),PD.l ((el b.q f 18 14).q),.i ((el b.q f 18 15).n),PD.l ((el b.q f 18 16).q),.i ((el b.q f 18 17).n),.i ((el d.q g 3 0).n),.i ((el d.q g 3 1).n),.i ((el d.q g 3 2).n),.i 0,.i 0,.i 0]
 bif ltB e.n (bH c.q 1)then aI (bC 0 e.n)<|aI (bC 0 f)<|aI (ltB f (bH b.q 18))<|bif eqB k 6 then bif cY (if i=(-1)then(0:Int)else 1) 0 then aI (bC h j)<|aI (bC 0 i)<|aI (ltB i h)<|aI (ltB i j)<|aI (bC 0 g)<|aI (ltB g h)<|aI (ltB g j)<|aB (r_ [.i k,.i g,.i i,.i (if((el b.q f 18 3).n)=0 then(0:Int)else 1),.i ((el b.q f 18 4).n),.i ((el b.q f 18 5).n),.i ((el b.q f 18 6).n),.i ((el b.q f 18 7).n),PD.l ((el b.q f 18 8).q),PD.l ((el b.q f 18 9).q),PD.l ((el b.q f 18 10).q),.i ((el b.q f 18 11).n),.i ((el b.q f 18 12).n),PD.l ((el b.q f 18 13).q),PD.l ((el b.q f 18 14).q),.i ((el b.q f 18 15).n),PD.l ((el b.q f 18 16).q),.i ((el b.q f 18 17).n),.i ((el d.q g 3 0).n),.i ((el d.q g 3 1).n),.i ((el d.q g 3 2).n),.i ((el d.q i 3 0).n),.i ((el d.q i 3 1).n),.i ((el d.q i 3 2).n)]) 4 fun r=>iq N a b c d e (gg r 0) (gg r 1) (gg r 2) (gg r 3)else aI (bC h j)<|aI (bC 0 g)<|aI (ltB g h)<|aI (ltB g j)<|aB l 4 fun r=>iq N a b c d e (gg r 0) (gg r 1) (gg r 2) (gg r 3)else aI (bC h j)<|aI (bC 0 g)<|aI (ltB g h)<|aI (ltB g j)<|aB l 4 fun r=>iq N a b c d e (gg r 0) (gg r 1) (gg r 2) (gg r 3)else oB 0 [d]
def HZ(N:Nat)(a b c:PD):Oo:=
 let d:=aH ((bH a.q 4)+(bH b.q 18))
 aI (bC d (bH c.q 3))<|oF [PD.l (iv c.q 0 d 3),.i 0,.i 0]
def aag(N:Nat)(a b:PD):Oo:=oF [PD.l [],qi a,qi b]
def HY:Oo:=bi (aO (fun S=>lv N a b c (gg S 0) (gg S 1)) N [d,.i 0]) (fun X=>HZ N a b (gg X 0)) (fun X=>aag N (gg X 0) (gg X 1))
def aaf(N:Nat)(a:PD):Oo:=oF [PD.l [],qi a,.i 1]
def HX:Oo:=
 let e:=aH ((bH a.q 4)+(bH b.q 18))
 bif cY (if d.n=0 then(0:Int)else 1) 0 then oF [PD.l [],.i 0,qi d]else aI (bC 0 e)<|aI (bC e 1000000)<|bi (aO (fun S=>qy N a b (gg S 0) (gg S 1)) N [PD.l ((List.replicate (Int.toNat e) ((([]++[PD.i 0])++[PD.i 0])++[PD.i 0])).flatten),.i 0]) (fun X=>HY N a b c (gg X 0)) (fun X=>aaf N (gg X 0))
def FZ:Oo:=aB (H4 [ql a,ql b,ql c,qi d]) 2 fun r=>HX N a b (gg r 0) (gg r 1)
theorem Wq:dk N qx ri tF [a,b,c,d]=FZ N a b c d:=by kernel_rfl
def tj:dO:=⟨[W1,Ak],[],0,[Ak],false⟩
def tk:List Ct:=[]
def vY:PL:=aT 3 3 ⟨(sG::(W62::(u2 (u1 (AL::(aoE::(u64 aoJ))))))),[AK],3⟩ aih ⟨la,⟨(sG::(W62::(u2 (u1 (AL::(u64 W66)))))),[AK],3⟩,1⟩ dN (aa (ay gK W58) (am adv (ai (aL ⟨[aG dU (aq dT gK 1 0),aoD],[]⟩))) aEU) (am (aD W58 f_) (aT 9 5 ⟨(sG::(W62::(u2 (u1 (AL::(u1 (aHM::(aHL::(W30::(p7::(u64 W67))))))))))),[AK,(3,adk),aHK],5⟩ ⟨[gP W58 aJ,gP W58 aJ,W6,aJ],[]⟩ ⟨qg,⟨(u4 (u2 (u1 (aHM::(aHL::(W30::(u64 (iY W41)))))))),[(3,adk),aHK],5⟩,3⟩ dN (aa (ay fP W58) (am aiq (am (aC (aY dU aJ 3)) (am (ay fP Fw) (am (ay fP asN) (ai (aL ⟨[aHI,bW jp fP 1 0 (j2 aHJ dU),aQ e7 (aq aHI fP 1 0),aip],[]⟩)))))) (ai (bE 0 aHH))) (aT 13 5 ⟨(u4 (u2 (u1 (axP::(aDK::(Hq::(u64 (iY W41)))))))),aDI,5⟩ aHH ⟨YF,⟨(u4 (u2 (u1 (axP::(u64 ayS))))),[(3,axO)],5⟩,1⟩ dN (aa (ay aJ lH) (aT 17 5 ⟨(u4 (u2 (u1 (axP::(aDK::(Hq::(u1 (lM::(jv::ah'))))))))),aDI,5⟩ ⟨[aJ,W5],[]⟩ ⟨fC 6,⟨(u4 (u2 (u1 (axP::(aDK::(Hq::(u1 (lM::(u64 W64))))))))),aDI,5⟩,1⟩ dN (aa (ay fT Jv) (am axV (am axN (am (ay fb Jv) (aa (ay (aq qS fb 1 0) (aq qS fT 1 0)) (ai (aL ⟨[fT,aoh],[]⟩)) (ai (aL ⟨[fb,aoh],[]⟩)))))) (ai (bE 0 ⟨[fb],[]⟩))) (am axN (am (ay fb Jw) (am (ay fb Jv) (ai (aL ⟨[bW gY fb 1 0 (aG (aq gY fb 1 0) W5),bW qS fb 1 0 mY,aQ lH W5],[]⟩))))) dL) aD4) (ai (aF [gY])) dL) dL)) dL
theorem Wk:fF tk tj f186 vY=true:=by kernel_rfl
def HU:=dj tk tj vY
def Z3:Ct:=dl tk Wk func186 call186 rfl
def tq(N:Nat)(a b c:PD):Oo:=bif ltB c.n (bH a.q 1)then aI (bC 0 c.n)<|oA [.i (aH (b.n+((el a.q c.n 1 0).n))),.i (aH (c.n+1))]else oB 0 [qi b]
def tn(N:Nat)(a b c d e f g:PD):Oo:=
 let h:=cM d.q g.n 1 0 (PD.i (aH (Int.tdiv (aH (a.n*((el b.q g.n 1 0).n))) c.n)))
 bif ltB g.n (bH b.q 1)then aI (bC 0 g.n)<|aI (cY (if c.n=0 then(0:Int)else 1) 0)<|aI (ltB g.n (bH d.q 1))<|aI (ltB g.n (bH e.q 1))<|oA [PD.l h,PD.l (cM e.q g.n 1 0 (PD.i (Int.tmod (aH (a.n*((el b.q g.n 1 0).n))) c.n))),.i (aH (f.n-((el h g.n 1 0).n))),.i (aH (g.n+1))]else oB 0 [d,e,qi f]
def pj(N:Nat)(a b c:PD):Oo:=bif ltB c.n (bH a.q 1)then aI (bC 0 c.n)<|aI (bC 0 b.n)<|aI (ltB b.n (bH a.q 1))<|bif ltB ((el a.q b.n 1 0).n) ((el a.q c.n 1 0).n)then oA [qi c,.i (aH (c.n+1))]else oA [qi b,.i (aH (c.n+1))]else oB 0 [qi b]
def Lw(N:Nat)(a b c d:PD):Oo:=aI (bC 0 d.n)<|aI (ltB d.n (bH a.q 1))<|aI (ltB d.n (bH b.q 1))<|oA [PD.l (cM a.q d.n 1 0 (PD.i (aH (((el a.q d.n 1 0).n)+1)))),PD.l (cM b.q d.n 1 0 (PD.i (-1))),.i (aH (c.n-1))]
def tm:Oo:=bif ltB 0 c.n then bi (aO (fun S=>pj N b (gg S 0) (gg S 1)) N [.i 0,.i 1]) (fun X=>Lw N a b c (gg X 0)) (fun X=>none)else oB 0 [a]
def afe(N:Nat)(a:PD):Oo:=oF [ql a]
def Lv:Oo:=bi (aO (fun S=>tm N (gg S 0) (gg S 1) (gg S 2)) N [a,b,qi c]) (fun X=>afe N (gg X 0)) (fun X=>none)
def Lu:Oo:=
 let d:=List.replicate (Int.toNat (bH b.q 1)) (PD.i 0)
 aI (bC (bH b.q 1) 1000000)<|bi (aO (fun S=>tn N a b c (gg S 0) (gg S 1) (gg S 2) (gg S 3)) N [PD.l d,PD.l d,qi a,.i 0]) (fun X=>Lv N (gg X 0) (gg X 1) (gg X 2)) (fun X=>none)
def Lx:Oo:=bi (aO (fun S=>tq N b (gg S 0) (gg S 1)) N [.i 0,.i 0]) (fun X=>Lu N a b (gg X 0)) (fun X=>none)
theorem Z2:dk N tk tj vY [a,b]=Lx N a b:=by kernel_rfl
def FT:dO:=⟨W2,[],0,[Hw,W1],false⟩
def J1:List Ct:=[Z3]
def Ly:PL:=aa W7 (aa asM RW (aa W10 (aa ain RW (aa ayH ahU (aa (ay (aR 14) dU) ahU (aT 7 4 ⟨(sG::(W94::(AL::(u4 (u1 (axM::(nB::axW))))))),[aDH],5⟩ ⟨aoC,[(4,none)]⟩ ⟨la,⟨(u8 (axM::(u64 W31))),[aDH],5⟩,1⟩ ⟨qT,⟨(u4 (u2 (Jy::((aV (aE (eB 9)))::(u64 W46))))),[],7⟩,0⟩ (aa (ay et W9) (am aii (aT 13 6 ⟨(sG::(W94::(AL::(u4 (u1 (axM::(nB::((aV (aE (ax aDG)))::((aV (aE (ax aDF)))::(zY::(aHG::(p7::aDE)))))))))))),aHF,7⟩ ⟨[cn,aDD],[(6,none)]⟩ ⟨qg,⟨(sG::(W94::(AL::(u4 (u1 (axM::(nB::(u2 (zY::(aHG::(u64 (u4 JB)))))))))))),aHF,7⟩,1⟩ dN (aa (ay (bf fP W9) aDF) (am aHZ (ai (aL ⟨[cW gD (ao cn (aQ (jn aDF (bf aip W9)) (fH aDG (bf fP W9)))),aip],[(6,some 8)]⟩))) (ai (bE 0 ⟨[gD],[(6,some 6)]⟩))) (aa (ay qk Ql) l7 (am (aD aJ aDC) (am (aD aDC R6) (an 0 [qQ W5 aDC,gD] (am (aD (d8 atd W5) f_) (ai (aL ⟨[cW jd (df (ao cn aDD) gY),JA],[(4,some 9)]⟩))))))) dL)) (ai (bE 0 ⟨[jd],[(4,some 4)]⟩))) (ai (aF [jd,aJ])) aDB)))) RW)) RW
theorem ama:fF J1 FT f125 Ly=true:=by kernel_rfl
def Lz:=dj J1 FT Ly
def apJ:Ct:=dl J1 ama func125 call125 rfl
def J3(N:Nat)(a b c d e:PD):Oo:=
 let f:=aH ((aH (c.n+1))*a.n)
 let g:=aH (e.n*b.n)
 bif ltB g f then aI (bC ((bH d.q 1)+1) 1000000)<|oA [PD.l (d.q++([]++[PD.i (aH ((lU f (aH ((aH (e.n+1))*b.n)))-(gI (aH (c.n*a.n)) g)))])),.i (aH (e.n+1))]else oB 0 [d]
def ai'(N:Nat)(a b c d e:PD):Oo:=aI (bC ((bH c.q 2)+1) 1000000)<|oA [PD.l (c.q++(([]++[PD.i (aH (Int.tdiv (aH (d.n*a.n)) b.n))])++[ql e])),.i (aH (d.n+1))]
def ai_:Oo:=
 let g:=aek (c.n+0)
 bif ltB 8 (bH f.q 1)then oB 1 []else aI (bC 0 g)<|aI (bC g 64)<|aB (HU [.i (FK .i64 1 g),ql f]) 1 fun r=>ai' N a b d e (gg r 0)
def J2:Oo:=bif ltB e.n b.n then aI (cY (if b.n=0 then(0:Int)else 1) 0)<|bi (aO (fun S=>J3 N a b e (gg S 0) (gg S 1)) N [PD.l [],.i (aH (Int.tdiv (aH (e.n*a.n)) b.n))]) (fun X=>ai_ N a b c d e (gg X 0)) (fun X=>none)else oB 0 [d]
def avt(N:Nat)(a:PD):Oo:=oF [ql a,.i 0]
def avs(N:Nat):Oo:=oF [PD.l [],.i 9]
def apK:Oo:=bif bC 1 a.n then bif ltB 128 a.n then oF [PD.l [],.i 8]else bif bC 1 b.n then bif ltB 128 b.n then oF [PD.l [],.i 8]else bif ltB c.n 0 then oF [PD.l [],.i 2]else bif ltB 14 c.n then oF [PD.l [],.i 2]else bi (aO (fun S=>J2 N a b c (gg S 0) (gg S 1)) N [PD.l [],.i 0]) (fun X=>avt N (gg X 0)) (fun X=>avs N)else oF [PD.l [],.i 8]else oF [PD.l [],.i 8]
theorem apI:dk N J1 FT Ly [a,b,c]=apK N a b c:=by kernel_rfl
end
end Go.Proofs.YtlchkibailfldaaGreat.Ex
