/-
  Part 9 of the proof that TopTiles returns true at every call and leaves what it was given as it was; no condition beyond the row's own.
-/
import Derived.Test.YtlchkibailfldaaGreatM08
set_option linter.unusedVariables false
set_option linter.unusedSimpArgs false
set_option linter.unusedSectionVars false
namespace Go.Proofs.YtlchkibailfldaaGreat.Ex
noncomputable section
open Go Go.RowKit Tryz
set_option maxRecDepth 100000
variable (N:Nat)(a b c d e f g h i j k l m n o p q s t u v w x y z A B C D E F G H I J K L M O P Q R T U9 V9 W Y Z:PD)
def GL:dO:=⟨aof,Qj,82,kE,false⟩
def Kf:List Ct:=[]
def O5:PL:=aa R2 aHE (aa (aD W58 dU) aHE (am (aD aJ aDA) (am (ay aDA W58) (am (aC (aY W6 aJ 3)) (aa (ay aDz aJ) (ai (aF [aG aDz W6,dT,W73])) (ai (aF [aDz,dT,W73])))))))
theorem am1:fF Kf GL f9 O5=true:=by kernel_rfl
def cU:=dj Kf GL O5
def kJ:Ct:=dl Kf am1 func9 call9 rfl
def aq_(N:Nat)(a b c:PD):Oo:=
 let d:=aH (c.n+1)
 let e:=Int.tmod ((el b.q (aH (d-1)) 1 0).n) a.n
 bif ltB a.n 1 then oF [.i 0,ql b,qi c]else bif bC (bH b.q 1) c.n then oF [.i 0,ql b,qi c]else aI (bC 0 (aH (d-1)))<|aI (ltB (aH (d-1)) (bH b.q 1))<|aI (cY (if a.n=0 then(0:Int)else 1) 0)<|bif ltB e 0 then oF [.i (aH (e+a.n)),ql b,.i d]else oF [.i e,ql b,.i d]
theorem aq9:dk N Kf GL O5 [a,b,c]=aq_ N a b c:=by kernel_rfl
def GK:dO:=⟨[.ptr,Ak],Qj,82,kE,false⟩
def Kc:List Ct:=[kJ]
def O1:PL:=an 0 [W56,dT,dU] (am adv (am (ay gK W56) (ai (aF [aDy,dT,e7]))))
theorem amZ:fF Kc GK f67 O1=true:=by kernel_rfl
def eX:=dj Kc GK O1
def wX:Ct:=dl Kc amZ func67 call67 rfl
def ajW(N:Nat)(a b c d:PD):Oo:=aI (bC 0 c.n)<|aI (ltB c.n (bH a.q 1))<|oF [.i ((el a.q c.n 1 0).n),ql b,qi d]
def ay8:Oo:=aB (cU [.i (bH a.q 1),ql b,qi c]) 3 fun r=>ajW N a b (gg r 0) (gg r 2)
theorem aq1:dk N Kc GK O1 [a,b,c]=ay8 N a b c:=by kernel_rfl
def Ce:dO:=⟨[.ptr,W1,W1],Qj,82,[vq],false⟩
def Ei:List Ct:=[kJ,wX]
def GH:PL:=an 1 [ao (ao (ao (ao (ao cn ahT) ahT) (aR 65535)) W5) (aR 7),ie,gK] (am (aD aJ W11) (am (aD W11 f_) (aT 3 10 ⟨(qe::(u4 (u1 (zY::(asL::(Hq::aol)))))),[(4,a_ 0 82 [ah4,ax fb]),qh,(5,Ho),aHD,(7,aDJ)],10⟩ ⟨[gP W11 aJ,aJ,fP],[]⟩ ⟨la,⟨(u4 (u2 (zY::(asL::ah2)))),[(5,Ho),aHD,(7,aDJ),(4,a_ 0 82 [ah4,YC]),qh],10⟩,2⟩ dN (aa (ay lH Jv) (an 0 [JA,ie,fb] (an 0 [JA,ie,fj] (an 1 [ao (ao (ao (ao cn fT) i9) et) aJ,ie,fI] (am axS (ai (aL ⟨[bW qS lH 1 0 kD,aDL,eh],[]⟩)))))) (ai (bE 0 ⟨[qS,fb],[]⟩))) (ai (aF [W6,W9,et,qS,ie,lH])) dL)))
theorem ago:fF Ei Ce f28 GH=true:=by kernel_rfl
def GI:=dj Ei Ce GH
def Uu:Ct:=dl Ei ago func28 call28 rfl
def abD(N:Nat)(a b c d:PD):Oo:=aI (bC 0 b.n)<|oA [PD.l (cM a.q b.n 1 0 (qi c)),.i (aH (b.n+1)),qi d]
def abC:Oo:=aB (eX [PD.l (((([]++[qi e])++[qi f])++[qi b])++[PD.i 0]),ql a,qi g]) 3 fun r=>abD N c d (gg r 0) (gg r 2)
def abB:Oo:=aB (cU [.i (aH (b.n+1)),ql a,qi f]) 3 fun r=>abC N a b c d e (gg r 0) (gg r 2)
def Ej:Oo:=bif ltB d.n (bH c.q 1)then aB (cU [.i (aH (b.n+1)),ql a,qi e]) 3 fun r=>abB N a b c d (gg r 0) (gg r 2)else oB 0 [c,qi e]
def abA(N:Nat)(a b c d e f:PD):Oo:=oF [qi a,qi b,qi d,ql e,ql c,qi f]
def abz:Oo:=
 let f:=aH (a.n*b.n)
 aI (bC 0 f)<|aI (bC f 1000000)<|bi (aO (fun S=>Ej N c d (gg S 0) (gg S 1) (gg S 2)) N [PD.l (List.replicate (Int.toNat f) (PD.i 0)),.i 0,qi e]) (fun X=>abA N a b c d (gg X 0) (gg X 1)) (fun X=>none)
def agp:Oo:=aB (eX [PD.l ((((([]++[PD.i 255])++[PD.i 255])++[PD.i 65535])++[PD.i 1])++[PD.i 7]),ql c,qi d]) 3 fun r=>abz N a b c (gg r 0) (gg r 2)
theorem amW:dk N Ei Ce GH [a,b,c,d]=agp N a b c d:=by kernel_rfl
def Ch:dO:=⟨[.ptr],Qj,82,[vq],false⟩
def Ek:List Ct:=[kJ,Uu]
def GJ:PL:=an 0 [l8,mb,W9] (an 0 [Hv,mb,et] (an 1 [aG W5 dU,aG W5 e7,mb,dq] (ai (aF [lH,fb,fT,CY,mb,i9]))))
theorem agu:fF Ek Ch f27 GJ=true:=by kernel_rfl
def Uv:=dj Ek Ch GJ
def amY:Ct:=dl Ek agu func27 call27 rfl
def aqZ(N:Nat)(a b c d e f:PD):Oo:=oF [qi b,qi c,qi d,ql e,ql a,qi f]
def abG:Oo:=aB (GI [.i (aH (1+b.n)),.i (aH (1+c.n)),ql a,qi d]) 6 fun r=>aqZ N a (gg r 0) (gg r 1) (gg r 2) (gg r 3) (gg r 5)
def abF:Oo:=aB (cU [.i 5,ql a,qi c]) 3 fun r=>abG N a b (gg r 0) (gg r 2)
def aq0:Oo:=aB (cU [.i 6,ql a,qi b]) 3 fun r=>abF N a (gg r 0) (gg r 2)
theorem amX:dk N Ek Ch GJ [a,b]=aq0 N a b:=by kernel_rfl
def GM:dO:=⟨aof,Qj,82,[Kn],false⟩
def Ki:List Ct:=[kJ,wX]
def O9:PL:=an 0 [nR,dT,dU] (aa (bL gK Vt) (an 1 [ao (ao YE W6) (dD W6 fv),dT,e7] (ai (aF [gK,fP,dT,lH]))) (ai (aF [gK,aJ,dT,e7])))
theorem am2:fF Ki GM f70 O9=true:=by kernel_rfl
def Eu:=dj Ki GM O9
def are:Ct:=dl Ki am2 func70 call70 rfl
def av2(N:Nat)(a b c d:PD):Oo:=oF [qi b,qi c,ql a,qi d]
def akf:Oo:=bif eqB c.n 3 then aB (eX [PD.l ((([]++[PD.i 0])++[qi a])++[PD.i (aH (Int.tdiv a.n 2))]),ql b,qi d]) 3 fun r=>av2 N b c (gg r 0) (gg r 2)else oF [qi c,.i 0,ql b,qi d]
def arf:Oo:=aB (cU [.i 4,ql b,qi c]) 3 fun r=>akf N a b (gg r 0) (gg r 2)
theorem ard:dk N Ki GM O9 [a,b,c]=arf N a b c:=by kernel_rfl
def ua:dO:=⟨aof,Qj,82,[Ak],false⟩
def ub:List Ct:=[kJ,wX]
def wU:PL:=aT 3 4 ⟨(l6::(sG::(u2 (u1 (aHC::(nB::JF)))))),[aDx,AK,(4,adk)],5⟩ ⟨[cn,aJ,dU],[(4,none)]⟩ ⟨la,⟨(u4 (u1 (aHC::W97))),[(4,adk),(3,a_ 0 82 [Ko,YT]),AK],5⟩,2⟩ dN (aa (ay et W6) (an 0 [aR 41,dT,e7] (an 1 [ao (ao (ao (ao (ao (ao cn W5) fv) mY) aJ) (aQ fP (aR 20))) Hv,dT,lH] (am axL (ai (aL ⟨[cW jd (ao cn fb),JA,eK],[(4,some 9)]⟩))))) (ai (bE 0 ⟨[jd,e7],[(4,some 4)]⟩))) (ai (aF [jd,dT,et])) dL
theorem Xl:fF ub ua f71 wU=true:=by kernel_rfl
def ni:=dj ub ua wU
def Io:Ct:=dl ub Xl func71 call71 rfl
def OX(N:Nat)(a b c d:PD):Oo:=aI (bC ((bH a.q 1)+1) 1000000)<|oA [PD.l (a.q++([]++[qi c])),.i (aH (b.n+1)),qi d]
def OW:Oo:=aB (eX [PD.l (((((([]++[PD.i 1])++[PD.i 2])++[PD.i (-1)])++[PD.i 0])++[PD.i (aH (d.n-20))])++[PD.i 5]),ql a,qi e]) 3 fun r=>OX N b c (gg r 0) (gg r 2)
def uc:Oo:=bif ltB d.n a.n then aB (cU [.i 41,ql b,qi e]) 3 fun r=>OW N b c d (gg r 0) (gg r 2)else oB 0 [c,qi e]
def agj(N:Nat)(a b c:PD):Oo:=oF [ql b,ql a,qi c]
def abm:Oo:=bi (aO (fun S=>uc N a b (gg S 0) (gg S 1) (gg S 2)) N [PD.l [],.i 0,qi c]) (fun X=>agj N b (gg X 0) (gg X 1)) (fun X=>none)
theorem abl:dk N ub ua wU [a,b,c]=abm N a b c:=by kernel_rfl
def Cb:dO:=⟨aof,Qj,82,[Hw],false⟩
def Ef:List Ct:=[kJ,apJ,Io]
def Gy:PL:=an 0 [l8,dT,dU] (aa W7 (aa asM axK (aa (aD W5 adj) (aa (ay W8 adj) axK (aT 125000007 5 ⟨(sG::((aV (aE (ax adj)))::((aV (aE (eB 8)))::(u4 (u1 (aHz::(rN::(u64 W41)))))))),[aDx,AK,aHy],6⟩ aEw ⟨la,⟨(u8 (aHz::(u64 JG))),[aHy,aDx,AK],6⟩,1⟩ dN (aa (ay dq adj) (am (aC (aY adi aJ 3)) (aa (ay axJ (bf asJ adi)) (am aHx (am axI (ai (aL ⟨[cW gY (df (ao cn (aQ asJ W5)) (ao (ao cn (aQ ail aHw)) aHw)),ahX],adh⟩)))) (am aHx (am axI (ai (aL ⟨[cW gY (df (ao cn asJ) (ao (ao cn (aQ ail aHu)) aHu)),ahX],adh⟩)))))) (ai (bE 0 ⟨[gY],[(5,some 5)]⟩))) (an 0 [fv,dT,e7] (aa Qo (an 1 [W6,adj,qk] (aa adg (ai (aF [ll,dT,fb])) (ai (aF [gY,dT,fb])))) (aT 9 7 ⟨(l6::(sG::(u4 (aHt::(u2 (u1 (adt::W42))))))),[(3,a_ 0 82 [Ko,atc]),AK,aHs],8⟩ ⟨[gY,aJ,fb],[(7,some 5)]⟩ ⟨la,⟨(u4 (u2 (aHt::(iO Am)))),[aHs,(3,a_ 0 82 [Ko,R3]),AK],8⟩,2⟩ dN (aa (ay eK (bF ll 2)) (an 0 [nR,dT,fj] (aa (bL i9 aJ) (an 0 [aG W6 l8,dT,fI] (an 0 [nR,dT,eh] (an 2 [aG W5 d5,dT,fZ] (am (aD aJ eK) (ai (aL ⟨[dK (bW ll eK 2 0 (aQ kD nR)) eK 2 1 x7,aG eK W5,iy],[(7,some 12)]⟩)))))) (ai (aL ⟨[ll,aG eK W5,fI],[(7,some 7)]⟩)))) (ai (bE 0 ⟨[ll,fj],[(7,some 7)]⟩))) (ai (aF [ll,dT,eK])) dL))) dL)) axK)) axK)
theorem agk:fF Ef Cb f72 Gy=true:=by kernel_rfl
def Gz:=dj Ef Cb Gy
def amS:Ct:=dl Ef agk func72 call72 rfl
def aqY(N:Nat)(a b c d:PD):Oo:=bif eqB d.n 0 then oF [ql c,ql a,qi b]else oF [PD.l [],ql a,qi b]
def aqX(N:Nat):Oo:=oB 0 []
def aqW(N:Nat)(a b:PD):Oo:=oF [PD.l [],ql a,qi b]
def Eg:Oo:=bif eqB d.n 0 then aB (Lz [qi a,.i (aH (1+c.n)),.i 8]) 2 fun r=>aqY N b e (gg r 0) (gg r 1)else bi (aO (fun S=>aqX N) N []) (fun X=>aqW N b e) (fun X=>none)
def wV(N:Nat)(a b c d:PD):Oo:=
 let e:=aH ((aH ((aH ((aH (2*d.n))+1))*a.n))-(aH (1+b.n)))
 let f:=aH (2*(aH (1+b.n)))
 let g:=cY (if(aH (2*f))=0 then(0:Int)else 1) 0
 let h:=aH (Int.tdiv e f)
 let i:=aH (Int.tdiv (aH ((aH ((aH (2*(aH (e-(aH ((aH (h-1))*f))))))*256))+f)) (aH (2*f)))
 let j:=aH (Int.tdiv (aH ((aH ((aH (2*(aH (e-(aH (h*f))))))*256))+f)) (aH (2*f)))
 let k:=bC ((bH c.q 2)+1) 1000000
 bif ltB d.n (aH (1+b.n))then aI (cY (if f=0 then(0:Int)else 1) 0)<|bif ltB e (aH (h*f))then aI g<|aI k<|oA [PD.l (c.q++(([]++[PD.i (aH (h-1))])++[PD.l (([]++[PD.i (aH (256-i))])++[PD.i i])])),.i (aH (d.n+1))]else aI g<|aI k<|oA [PD.l (c.q++(([]++[PD.i h])++[PD.l (([]++[PD.i (aH (256-j))])++[PD.i j])])),.i (aH (d.n+1))]else oB 0 [c]
def abq(N:Nat)(a b c d e:PD):Oo:=bif eqB e.n 0 then oF [ql d,ql a,qi c]else oF [ql b,ql a,qi c]
def abp(N:Nat)(a b c d e:PD):Oo:=aI (bC 0 b.n)<|oA [PD.l (cM (cM a.q b.n 2 0 (PD.i (aH (c.n-4)))) b.n 2 1 (ql d)),.i (aH (b.n+1)),qi e]
def abo:Oo:=aB (ni [.i (aH (1+e.n)),ql a,qi f]) 3 fun r=>abp N b c d (gg r 0) (gg r 2)
def abn:Oo:=aB (cU [.i 4,ql a,qi e]) 3 fun r=>abo N a b c d (gg r 0) (gg r 2)
def Uh:Oo:=bif eqB e.n 0 then aB (cU [.i (aH (a.n+6)),ql b,qi f]) 3 fun r=>abn N b c d (gg r 0) (gg r 2)else oA [c,.i (aH (d.n+1)),qi f]
def sg:Oo:=bif ltB d.n (bH c.q 2)then aB (cU [.i 4,ql b,qi e]) 3 fun r=>Uh N a b c d (gg r 0) (gg r 2)else oB 0 [c,qi e]
def amT(N:Nat)(a b c:PD):Oo:=oF [ql b,ql a,qi c]
def Ug:Oo:=bif eqB e.n 0 then aB (Lz [qi a,.i (aH (1+c.n)),.i 8]) 2 fun r=>abq N b d f (gg r 0) (gg r 1)else bi (aO (fun S=>sg N a b (gg S 0) (gg S 1) (gg S 2)) N [d,.i 0,qi f]) (fun X=>amT N b (gg X 0) (gg X 1)) (fun X=>none)
def Uf:Oo:=aB (cU [.i 2,ql b,qi d]) 3 fun r=>Ug N a b c e (gg r 0) (gg r 2)
def Ue:Oo:=
 let e:=cU [.i 2,ql b,qi d]
 bif bC 1 a.n then bif ltB 128 a.n then aB e 3 fun r=>Eg N a b c (gg r 0) (gg r 2)else bif bC 1 (aH (1+c.n))then bif ltB 128 (aH (1+c.n))then aB e 3 fun r=>Eg N a b c (gg r 0) (gg r 2)else bi (aO (fun S=>wV N a c (gg S 0) (gg S 1)) N [PD.l [],.i 0]) (fun X=>Uf N a b c d (gg X 0)) (fun X=>none)else aB e 3 fun r=>Eg N a b c (gg r 0) (gg r 2)else aB e 3 fun r=>Eg N a b c (gg r 0) (gg r 2)
def agl:Oo:=aB (cU [.i 6,ql b,qi c]) 3 fun r=>Ue N a b (gg r 0) (gg r 2)
theorem amR:dk N Ef Cb Gy [a,b,c]=agl N a b c:=by kernel_rfl
def O2:dO:=⟨[.ptr,W3],Qj,82,[ads],false⟩
def Xn:List Ct:=[kJ,wX]
def Xm:PL:=aa (aC W6) (an 1 [aDv,dT,dU] (an 0 [nR,dT,e7] (aT 5 10 ⟨(l6::(u4 (aHr::(jv::(iO W97))))),[(3,a_ 0 82 [Ko,R3]),AK,aHq],11⟩ ⟨[ao (ao (ao (ao ahV W5) aJ) gK) aJ,fP,lH],[(10,some 8)]⟩ ⟨la,⟨(u4 (u1 (aHr::(iO (iY JB))))),[aHq,(3,a_ 0 82 [Ko,sH]),AK],11⟩,2⟩ dN (aa (ay aJ fT) (an 0 [Vt,dT,eK] (aa aij (an 0 [aR 300,dT,i8] (an 1 [ao (ao (ao (ao cn (aQ fI (aR 100))) aJ) Vt) (aR (-2)),dT,eo] (an 1 [aDv,dT,eE] (am (aD (d8 (bF fa 2) fv) f_) (ai (aL ⟨[cW fa (ao (ao (ao (ao cn fv) eh) fZ) aJ),aDu,gm],[(10,some 18)]⟩)))))) (aa (bL fj W5) (an 0 [nR,dT,i8] (am aHp (ai (aL ⟨[cW fa (ao (ao cn YS) fI),aDu,eo],[(10,some 14)]⟩)))) (am aHp (ai (aL ⟨[cW fa aHo,aDu,i8],[(10,some 13)]⟩)))))) (ai (bE 0 ⟨[fa,eK],[(10,some 10)]⟩))) (ai (aF [fa,dT,fT])) dL))) (an 0 [nR,dT,dU] (aT 5 6 ⟨(l6::(u4 (aHn::(rN::(iO W97))))),[(3,a_ 0 82 [Ko,YC]),AK,aHm],7⟩ ⟨[ahV,gK,e7],[(6,some 4)]⟩ ⟨la,⟨(u4 (u1 (aHn::(iO (iY JB))))),[aHm,(3,a_ 0 82 [Ko,ahY]),AK],7⟩,2⟩ dN (aa (ay aJ dq) (an 0 [Vt,dT,lH] (aa ady (an 0 [aR 300,dT,eK] (an 1 [ao (ao (ao (ao cn (aQ fj (aR 100))) aJ) Vt) (aR (-2)),dT,i8] (an 1 [aDv,dT,eo] (am (aD (d8 aoe fv) f_) (ai (aL ⟨[cW gY (ao (ao (ao (ao cn fv) fI) eh) aJ),aDt,eE],[(6,some 14)]⟩)))))) (aa (bL fb W5) (an 0 [nR,dT,eK] (am axI (ai (aL ⟨[cW gY (ao (ao cn YS) fj),aDt,i8],[(6,some 10)]⟩)))) (am axI (ai (aL ⟨[cW gY aHo,aDt,eK],[(6,some 9)]⟩)))))) (ai (bE 0 ⟨[gY,lH],[(6,some 6)]⟩))) (ai (aF [gY,dT,dq])) dL))
theorem aq2:fF Xn O2 f73 Xm=true:=by kernel_rfl
def Ke:=dj Xn O2 Xm
def avY:Ct:=dl Xn aq2 func73 call73 rfl
def aq8(N:Nat)(a b c d e:PD):Oo:=aI (bC ((bH a.q 2)+2) 1000000)<|oA [PD.l (a.q++(((([]++[PD.i 2])++[qi c])++[qi d])++[PD.i 0])),.i (aH (b.n-1)),qi e]
def aq7:Oo:=aB (eX [PD.l ((((((([]++[PD.i 3])++[PD.i 4])++[PD.i 5])++[PD.i 6])++[PD.i 7])++[PD.i 8])++[PD.i 9]),ql a,qi e]) 3 fun r=>aq8 N b c d (gg r 0) (gg r 2)
def aq6:Oo:=aB (eX [PD.l (((([]++[PD.i (aH (d.n-100))])++[PD.i 0])++[PD.i 3])++[PD.i (-2)]),ql a,qi e]) 3 fun r=>aq7 N a b c (gg r 0) (gg r 2)
def aq5(N:Nat)(a b c d:PD):Oo:=aI (bC ((bH a.q 2)+1) 1000000)<|oA [PD.l (a.q++(([]++[PD.i 10])++[qi c])),.i (aH (b.n-1)),qi d]
def agv:Oo:=bif eqB d.n 0 then aB (cU [.i 300,ql a,qi e]) 3 fun r=>aq6 N a b c (gg r 0) (gg r 2)else bif eqB d.n 1 then aB (cU [.i 4,ql a,qi e]) 3 fun r=>aq5 N b c (gg r 0) (gg r 2)else aI (bC ((bH b.q 2)+1) 1000000)<|oA [PD.l (b.q++(([]++[PD.i 11])++[PD.i 0])),.i (aH (c.n-1)),qi e]
def O4:Oo:=bif ltB 0 c.n then aB (cU [.i 3,ql a,qi d]) 3 fun r=>agv N a b c (gg r 0) (gg r 2)else oB 0 [b,qi d]
def aBV(N:Nat)(a b c:PD):Oo:=oF [ql b,ql a,qi c]
def aq4:Oo:=bi (aO (fun S=>O4 N a (gg S 0) (gg S 1) (gg S 2)) N [PD.l (((((([]++[PD.i 0])++[PD.i 0])++[PD.i 1])++[PD.i 0])++[qi b])++[PD.i 0]),qi c,qi d]) (fun X=>aBV N a (gg X 0) (gg X 1)) (fun X=>none)
def aq3:Oo:=aB (cU [.i 4,ql a,qi c]) 3 fun r=>aq4 N a b (gg r 0) (gg r 2)
def Xr(N:Nat)(a b c d e:PD):Oo:=aI (bC ((bH a.q 2)+2) 1000000)<|oA [PD.l (a.q++(((([]++[PD.i 2])++[qi c])++[qi d])++[PD.i 0])),.i (aH (b.n-1)),qi e]
def Xq:Oo:=aB (eX [PD.l ((((((([]++[PD.i 3])++[PD.i 4])++[PD.i 5])++[PD.i 6])++[PD.i 7])++[PD.i 8])++[PD.i 9]),ql a,qi e]) 3 fun r=>Xr N b c d (gg r 0) (gg r 2)
def Xp:Oo:=aB (eX [PD.l (((([]++[PD.i (aH (d.n-100))])++[PD.i 0])++[PD.i 3])++[PD.i (-2)]),ql a,qi e]) 3 fun r=>Xq N a b c (gg r 0) (gg r 2)
def Xo(N:Nat)(a b c d:PD):Oo:=aI (bC ((bH a.q 2)+1) 1000000)<|oA [PD.l (a.q++(([]++[PD.i 10])++[qi c])),.i (aH (b.n-1)),qi d]
def Em:Oo:=bif eqB d.n 0 then aB (cU [.i 300,ql a,qi e]) 3 fun r=>Xp N a b c (gg r 0) (gg r 2)else bif eqB d.n 1 then aB (cU [.i 4,ql a,qi e]) 3 fun r=>Xo N b c (gg r 0) (gg r 2)else aI (bC ((bH b.q 2)+1) 1000000)<|oA [PD.l (b.q++(([]++[PD.i 11])++[PD.i 0])),.i (aH (c.n-1)),qi e]
def El:Oo:=bif ltB 0 c.n then aB (cU [.i 3,ql a,qi d]) 3 fun r=>Em N a b c (gg r 0) (gg r 2)else oB 0 [b,qi d]
def avZ(N:Nat)(a b c:PD):Oo:=oF [ql b,ql a,qi c]
def ajX:Oo:=bi (aO (fun S=>El N a (gg S 0) (gg S 1) (gg S 2)) N [PD.l (([]++[PD.i 0])++[PD.i 0]),qi b,qi c]) (fun X=>avZ N a (gg X 0) (gg X 1)) (fun X=>none)
def aBW:Oo:=bif cY a.n 0 then aB (eX [PD.l ((((((([]++[PD.i 3])++[PD.i 4])++[PD.i 5])++[PD.i 6])++[PD.i 7])++[PD.i 8])++[PD.i 9]),ql b,qi c]) 3 fun r=>aq3 N b (gg r 0) (gg r 2)else aB (cU [.i 4,ql b,qi c]) 3 fun r=>ajX N b (gg r 0) (gg r 2)
theorem avX:dk N Xn O2 Xm [a,b,c]=aBW N a b c:=by kernel_rfl
def Cc:dO:=⟨[.ptr,W1,uT,W1],Qj,82,[x8],false⟩
def Eh:List Ct:=[kJ,wX,are,Io,amS,avY]
def GE:PL:=an 0 [l8,gD,fP] (an 0 [nR,gD,fb] (an 1 [ao (ao (ao cn ahT) (aR 65535)) (aR 15),gD,fj] (aa (bL Hn W5) (an 1 [ao aHl Hv,gD,fI] (an 1 [aHl,gD,eh] (an 0 [nR,gD,fZ] (an 2 [gK,gD,iy] (an 3 [bf kD d5,gD,gf] (ai (aF [Hn,W6,mY,adf,gZ,mX,kD,d5,Fj,cn,cn,gQ,aJ,cn,cn,aJ,cn,i9,gD,nQ]))))))) (aa (bL Hn fv) (an 0 [nR,gD,fI] (an 3 [aG W5 kD,gD,eh] (an 0 [nR,gD,fZ] (an 3 [aG W5 gQ,gD,iy] (an 0 [Vt,gD,i7] (an 0 [nR,gD,kn] (an 2 [gK,gD,Fi] (ai (aF [Hn,W6,mY,adf,RV,Fh,aJ,aJ,cn,RU,cS,gf,nQ,cn,cn,aJ,cn,i9,gD,uP]))))))))) (aa (bL Hn Vt) (an 4 [W9,gD,fI] (an 4 [dU,gD,eh] (an 2 [gK,gD,fZ] (ai (aF [Hn,W6,mY,adf,gQ,gm,aJ,aJ,cn,cn,cn,qk,qk,iI,RU,aJ,cn,i9,gD,gZ]))))) (aa (bL Hn nR) (an 1 [ao (ao (ao cn nR) W5) (aR 7),gD,fI] (ai (aF [Hn,W6,mY,adf,aJ,aJ,aJ,aJ,cn,cn,cn,aJ,aJ,cn,cn,kD,cn,aJ,gD,eh]))) (aa (bL Hn l8) (aa R5 (an 0 [fv,gD,fI] (aa aod (an 5 [W5,gD,eh] (ai (aF [Hn,W6,et,adf,aJ,aJ,aJ,aJ,cn,cn,cn,aJ,aJ,cn,cn,aJ,RU,i9,gD,fZ]))) (an 5 [aJ,gD,eh] (ai (aF [Hn,W6,mY,adf,aJ,aJ,aJ,aJ,cn,cn,cn,aJ,aJ,cn,cn,aJ,RU,i9,gD,fZ]))))) (an 5 [aJ,gD,fI] (ai (aF [Hn,W6,mY,adf,aJ,aJ,aJ,aJ,cn,cn,cn,aJ,aJ,cn,cn,aJ,iI,i9,gD,eh])))) (ai (aF [Hn,W6,mY,adf,aJ,aJ,aJ,aJ,cn,cn,cn,aJ,aJ,cn,cn,aJ,cn,aJ,gD,fI])))))))))
theorem agm:fF Eh Cc f30 GE=true:=by kernel_rfl
def si:=dj Eh Cc GE
def amV:Ct:=dl Eh agm func30 call30 rfl
def aby(N:Nat)(a b c d e f g h i j k l:PD):Oo:=oF [.i (aH (1+c.n)),qi a,.i (-1),.i (if d.n=3 then(1:Int)else 0),qi i,qi j,qi f,qi g,ql k,PD.l [],PD.l [],qi h,.i 0,PD.l [],PD.l [],.i 0,PD.l [],qi e,ql b,qi l]
def abx:Oo:=aB (ni [.i (aH (f.n*g.n)),ql b,qi k]) 3 fun r=>aby N a b c d e f g h i j (gg r 0) (gg r 2)
def abw:Oo:=aB (Eu [qi b,ql c,qi j]) 4 fun r=>abx N a c d e f g h i (gg r 0) (gg r 1) (gg r 3)
def abv:Oo:=aB (cU [.i 4,ql c,qi i]) 3 fun r=>abw N a b c d e f g h (gg r 0) (gg r 2)
def OZ:Oo:=aB (eX [PD.l ((([]++[PD.i 1])++[PD.i 3])++[PD.i 2]),ql c,qi h]) 3 fun r=>abv N a b c d e f g (gg r 0) (gg r 2)
def abu(N:Nat)(a b c d e f g h i j k l:PD):Oo:=oF [.i (aH (1+c.n)),qi a,.i (-1),.i (if d.n=3 then(1:Int)else 0),qi j,qi k,.i 0,.i 0,PD.l [],ql f,ql g,qi h,qi i,PD.l [],PD.l [],.i 0,PD.l [],qi e,ql b,qi l]
def abt:Oo:=aB (Eu [qi b,ql c,qi k]) 4 fun r=>abu N a c d e f g h i j (gg r 0) (gg r 1) (gg r 3)
def adr:Oo:=aB (cU [.i 4,ql c,qi j]) 3 fun r=>abt N a b c d e f g h i (gg r 0) (gg r 2)
def abr:Oo:=aB (cU [.i 3,ql c,qi i]) 3 fun r=>adr N a b c d e f g h (gg r 0) (gg r 2)
def Ut:Oo:=aB (ni [.i (aH (1+h.n)),ql c,qi i]) 3 fun r=>abr N a b c d e f g (gg r 0) (gg r 2)
def Us:Oo:=aB (cU [.i 4,ql c,qi h]) 3 fun r=>Ut N a b c d e f g (gg r 0) (gg r 2)
def GG:Oo:=aB (ni [.i (aH (1+g.n)),ql c,qi h]) 3 fun r=>Us N a b c d e f (gg r 0) (gg r 2)
def Ur(N:Nat)(a b c d e f g h i j:PD):Oo:=oF [.i (aH (1+c.n)),qi a,.i (-1),.i (if d.n=3 then(1:Int)else 0),qi h,qi i,.i 0,.i 0,PD.l [],PD.l [],PD.l [],.i 8,.i 8,ql f,ql g,.i 0,PD.l [],qi e,ql b,qi j]
def Uq:Oo:=aB (Eu [qi b,ql c,qi i]) 4 fun r=>Ur N a c d e f g h (gg r 0) (gg r 1) (gg r 3)
def GF:Oo:=aB (Gz [qi b,ql d,qi i]) 3 fun r=>Uq N a c d e f g h (gg r 0) (gg r 2)
def Up(N:Nat)(a b c d e f:PD):Oo:=oF [.i (aH (1+c.n)),qi a,.i (-1),.i (if d.n=3 then(1:Int)else 0),.i 0,.i 0,.i 0,.i 0,PD.l [],PD.l [],PD.l [],.i 0,.i 0,PD.l [],PD.l [],qi e,PD.l [],.i 0,ql b,qi f]
def Uo(N:Nat)(a b c d e f g h:PD):Oo:=oF [.i (aH (1+d.n)),qi a,qi b,.i (if e.n=3 then(1:Int)else 0),.i 0,.i 0,.i 0,.i 0,PD.l [],PD.l [],PD.l [],.i 0,.i 0,PD.l [],PD.l [],.i 0,ql g,qi f,ql c,qi h]
def Un(N:Nat)(a b c d e f g:PD):Oo:=oF [.i (aH (1+c.n)),qi a,.i (-1),.i (if d.n=3 then(1:Int)else 0),.i 0,.i 0,.i 0,.i 0,PD.l [],PD.l [],PD.l [],.i 0,.i 0,PD.l [],PD.l [],.i 0,ql f,qi e,ql b,qi g]
def Um:Oo:=bif eqB g.n 0 then aB (Ke [.i 1,ql c,qi h]) 3 fun r=>Uo N a b c d e f (gg r 0) (gg r 2)else aB (Ke [.i 0,ql c,qi h]) 3 fun r=>Un N a c d e f (gg r 0) (gg r 2)
def Ul(N:Nat)(a b c d e f g:PD):Oo:=oF [.i (aH (1+c.n)),qi a,.i (-1),.i (if d.n=3 then(1:Int)else 0),.i 0,.i 0,.i 0,.i 0,PD.l [],PD.l [],PD.l [],.i 0,.i 0,PD.l [],PD.l [],.i 0,ql f,qi e,ql b,qi g]
def Uk:Oo:=
 let k:=aH (1+g.n)
 bif eqB k 1 then aB (eX [PD.l (((([]++[PD.i 1])++[PD.i 3])++[PD.i 2])++[PD.i 5]),ql f,qi j]) 3 fun r=>OZ N a d f g h i (gg r 0) (gg r 2)else bif eqB k 2 then aB (cU [.i 4,ql f,qi j]) 3 fun r=>GG N a d f g h i (gg r 0) (gg r 2)else bif eqB k 3 then aB (Gz [qi b,ql f,qi j]) 3 fun r=>GF N a c d f g h i (gg r 0) (gg r 2)else bif eqB k 4 then aB (eX [PD.l ((([]++[PD.i 4])++[PD.i 1])++[PD.i 7]),ql f,qi j]) 3 fun r=>Up N a f g h (gg r 0) (gg r 2)else bif eqB k 6 then bif bC 0 e.n then aB (cU [.i 2,ql f,qi j]) 3 fun r=>Um N a e f g h i (gg r 0) (gg r 2)else aB (Ke [.i 0,ql f,qi j]) 3 fun r=>Ul N a f g h i (gg r 0) (gg r 2)else oF [.i k,qi a,.i (-1),.i (if h.n=3 then(1:Int)else 0),.i 0,.i 0,.i 0,.i 0,PD.l [],PD.l [],PD.l [],.i 0,.i 0,PD.l [],PD.l [],.i 0,PD.l [],.i 0,ql f,qi j]
def Uj:Oo:=aB (eX [PD.l ((([]++[PD.i 255])++[PD.i 65535])++[PD.i 15]),ql f,qi i]) 3 fun r=>Uk N a b c d e f g h (gg r 0) (gg r 2)
def Ui:Oo:=aB (cU [.i 4,ql f,qi h]) 3 fun r=>Uj N a b c d e f g (gg r 0) (gg r 2)
def agn:Oo:=aB (cU [.i 6,ql f,qi g]) 3 fun r=>Ui N a b c d e f (gg r 0) (gg r 2)
theorem amU:dk N Eh Cc GE [a,b,c,d,e,f,g]=agn N a b c d e f g:=by kernel_rfl
def wW:dO:=⟨[.ptr,Hu],Qj,82,[kZ (ib Fm)],false⟩
def zn:List Ct:=[DH]
def Cf:PL:=aa aEh (aT 4 8 ⟨(u2 (u1 (aoc::(u1 (aHk::(rN::(iO JB))))))),[(7,aIe),Vu,uQ,qh,aHj,(4,bZ false jQ jp),aD_],9⟩ ⟨aoC,[(8,none)]⟩ ⟨la,⟨(u4 (u1 (aHk::aoj))),[aD_,aHj,(4,bZ false jQ jp)],9⟩,1⟩ dN (aa (ay dq W80) (am axY (am (aD (d8 YD W5) f_) (ai (aL ⟨[cW gY (ao (ao (ao cn aD7) aD6) aD5),ahX],[(8,some 12)]⟩)))) aHi) aHh dL) (an 0 [mb,dT,YE,gK] aHh)
theorem abE:fF zn wW f29 Cf=true:=by kernel_rfl
def Cg:=dj zn wW Cf
def ags:Ct:=dl zn abE func29 call29 rfl
def zp(N:Nat)(a b c:PD):Oo:=bif ltB c.n (bH a.q 4)then aI (bC 0 c.n)<|aI (bC ((bH b.q 3)+1) 1000000)<|oA [PD.l (b.q++((([]++[PD.i ((el a.q c.n 4 0).n)])++[PD.i ((el a.q c.n 4 1).n)])++[PD.i ((el a.q c.n 4 2).n)])),.i (aH (c.n+1))]else oB 0 [b]
def zo(N:Nat)(a b c:PD):Oo:=oF [ql c,ql a,qi b]
def ajV(N:Nat)(a b c d e f:PD):Oo:=bif eqB (bH b.q 18) 0 then bi (aO (fun S=>zp N a (gg S 0) (gg S 1)) N [PD.l [],.i 0]) (fun X=>zo N e f (gg X 0)) (fun X=>none)else aB (fu [ql a,ql b,PD.l ([]++[PD.i 0]),qi d]) 3 fun r=>zo N e f (gg r 0)
theorem agq:dk N zn wW Cf [a,b,c,d,e,f]=ajV N a b c d e f:=by kernel_rfl
def O6:dO:=⟨aof,Qj,82,[Hu],false⟩
def Xu:List Ct:=[kJ,amY,Uu,ags,amV,DH]
def Xs:PL:=an 0 [nR,dT,dU] (an 1 [dT,e7] (an 0 [fv,dT,eK] (aa aij (an 2 [fP,dq,dT,i8] (am (aD (d8 W5 W5) f_) (an 0 [W6,dT,eE] (aT 7 21 ⟨(l6::(u2 (u1 (qe::(mW::(u1 (oR::(u64 ahZ)))))))),[aHg,AK,Aj,ahS,adc,ahR],23⟩ ⟨[aG W5 fZ,gm,cn],[(21,none),(22,none)]⟩ ⟨la,⟨aHf,[aHg,AK,Aj,(6,a_ 0 28 [aoa,bQ 21 18 aJ (bF rM 18),Jz,Ap]),adc,(21,cG true 18 52 uR rM ⟨some 22,true⟩)],23⟩,2⟩ dN (aa (ay aJ iy) (an 3 [ade,j3,cn,gK,dT,gZ] (an 0 [asI,dT,iU] (an 0 [fv,dT,adb] (aT 300012 26 ⟨(l6::(u2 (u1 (qe::(mW::(u1 (oR::(an'::(RT::(iO (u8 (u4 (u1 ((aV (aE (bv axF)))::(u64 (iY JF)))))))))))))))),aHe,26⟩ QK ⟨CX,⟨(l6::(u2 (u1 (qe::(mW::(u1 (oR::(an'::(ahQ::(u64 (u64 W98))))))))))),aHe,26⟩,1⟩ dN (aa axF (ai (bE 0 ⟨[aQ asI W5],[]⟩)) (ai (bE 0 ⟨[kn],[]⟩))) (an 0 [asI,dT,Fh] (am (aD aJ qd) (am (ay qd asI) (am (aD aJ uP) (am (ay uP asI) (aa (aC (aY aDr (aq nP uP 3 0) 3)) (aT 300015 27 ⟨(l6::(u2 (u1 (qe::(mW::(u1 (oR::(an'::(ahQ::((aV (aE (ax uP)))::aHd)))))))))),axE,27⟩ QK ⟨CX,⟨(l6::(u2 (u1 (qe::(mW::(u1 (oR::(an'::(ahQ::(aDq::an_)))))))))),axE,27⟩,0⟩ dN C1 (an 4 [qd,aDr,aDp,aq nP qd 3 2,mY,dT,ada] (am aHc (am aHb (an 5 [ade,asG,YE,gK] (aT 300022 56 ⟨(l6::(u2 (u1 (qe::(mW::(u1 (oR::(u1 (ahQ::(u1 (aHa::(aDn::(u64 (iO (u2 (u1 ((aV (aE (bv aG')))::ah2))))))))))))))))),[aG_,AK,Aj,ahS,adc,ahR,(45,a_ 0 52 [ax ac',ax RS,aDm,bv (aC asH),ax (bP 44),aDl,ax RR,aDk,axD,aDj,axC,ax (bP 51),aDi,cK 40 lm,cK 41 lm,ax (bP 55),cK 43 lm,ax (bP 57)]),(35,bZ true jQ an9),(36,bZ true jQ an8),(37,bZ true jQ an7),(40,bZ true oS (cH 53)),(41,aG9),(43,bZ true W86 (cH 56)),(46,a_ 0 28 [aoa,bQ 50 18 aJ aDh,axB,Ap]),(50,cG true 18 52 uR asG ⟨some 50,true⟩),axA],56⟩ QK ⟨CX,⟨aG8,[aG_,AK,Aj,ahS,adc,ahR,(46,a_ 0 28 [aoa,bQ 50 18 aJ (bF (cH 63) 18),axB,Ap]),(50,cG true 18 52 uR (cH 63) ⟨some 57,true⟩),axA],58⟩,1⟩ dN (aa aG' (am (aD aJ sF) (am (ay sF aDh) (ai (bE 0 ⟨[bW (dK (bW (dK (dK (bW (bW (dK (dK (dK (bW (bW (bW (bW (bW (bW (bW (bW asG sF 18 0 l8) sF 18 1 qd) sF 18 2 mY) sF 18 3 aJ) sF 18 4 aJ) sF 18 5 aJ) sF 18 6 aJ) sF 18 7 aJ) sF 18 8 cn) sF 18 9 cn) sF 18 10 cn) sF 18 11 aJ) sF 18 12 aJ) sF 18 13 cn) sF 18 14 cn) sF 18 15 aJ) sF 18 16 ahV) sF 18 17 ahT],[(57,some 57)]⟩)))) (ai (bE 0 ⟨[asG],[(57,some 50)]⟩))) (ai (aL ⟨[aQ iy W5,bP 59,cH 63],[(21,some 50),(22,some 57)]⟩)) dL))))) dL) (aT 300015 27 ⟨(l6::(u2 (u1 (qe::(mW::(u1 (oR::(an'::(ahQ::((aV (aE (ax uP)))::(u64 (u8 (u2 (u1 ((aV (aE (bv aG7)))::(u64 [])))))))))))))))),axE,27⟩ QK ⟨CX,⟨(l6::(u2 (u1 (qe::(mW::(u1 (oR::(an'::(ahQ::((aV (aE (ax ac')))::an_)))))))))),axE,27⟩,1⟩ dN (aa aG7 aDf (ai (bE 0 ⟨[uP],[]⟩))) (an 4 [qd,aDr,aDp,aq nP qd 3 2,ac',dT,ada] (am aHc (am aHb (an 5 [ade,asE,YE,gK] (aT 300022 56 ⟨(l6::(u2 (u1 (qe::(mW::(u1 (oR::(u1 (ahQ::(u1 (aHa::(aDn::(u64 (iO (u2 (u1 ((aV (aE (bv aG6)))::ah2))))))))))))))))),[aG5,AK,Aj,ahS,adc,ahR,(45,a_ 0 52 [ax RS,aDm,ax asH,bv (aC (bP 44)),aDl,ax RR,aDk,ax (bP 48),axD,aDj,axC,aDi,ax (bP 53),cK 40 lm,cK 41 lm,ax (bP 56),cK 43 lm,ax (bP 58)]),(35,bZ true jQ an8),(36,bZ true jQ an7),(37,bZ true jQ (cH 51)),(40,aG9),(41,bZ true oS (cH 55)),(43,bZ true W86 asF),(46,a_ 0 28 [aoa,bQ 50 18 aJ aDe,axB,Ap]),(50,cG true 18 52 uR asE ⟨some 50,true⟩),axA],56⟩ QK ⟨CX,⟨aG8,[aG5,AK,Aj,ahS,adc,ahR,(46,a_ 0 28 [aoa,bQ 50 18 aJ (bF (cH 64) 18),axB,Ap]),(50,cG true 18 52 uR (cH 64) ⟨some 57,true⟩),axA],58⟩,1⟩ dN (aa aG6 (am (aD aJ sE) (am (ay sE aDe) (ai (bE 0 ⟨[bW (dK (bW (dK (dK (bW (bW (dK (dK (dK (bW (bW (bW (bW (bW (bW (bW (bW asE sE 18 0 l8) sE 18 1 qd) sE 18 2 mY) sE 18 3 aJ) sE 18 4 aJ) sE 18 5 aJ) sE 18 6 aJ) sE 18 7 aJ) sE 18 8 cn) sE 18 9 cn) sE 18 10 cn) sE 18 11 aJ) sE 18 12 aJ) sE 18 13 cn) sE 18 14 cn) sE 18 15 aJ) sE 18 16 ahV) sE 18 17 ahT],[(57,some 57)]⟩)))) (ai (bE 0 ⟨[asE],[(57,some 50)]⟩))) (ai (aL ⟨[aQ iy W5,bP 60,cH 64],[(21,some 50),(22,some 57)]⟩)) dL))))) dL))))))) dL)))) (ai (bE 0 ⟨[j3,gZ],[(21,some 21),(22,some 22)]⟩))) (an 0 [Vt,dT,gZ] (aa ah5 (an 0 [aG4,dT,gf] (ai (aF [ade,rM,ao aG3 iU,gK,dT,nQ]))) (ai (aF [ade,rM,aG3,gK,dT,gf])))) dL)))) (an 0 [W6,dT,i8] (aT 7 15 ⟨(l6::(u2 (u1 (qe::(mW::(u1 (rL::(u64 ahZ)))))))),[aG2,AK,Aj,ahP,ac_,ac9,ahO],17⟩ ⟨[aG W5 fI,eo,cn],[(15,none),(16,none)]⟩ ⟨la,⟨aHf,[aG2,AK,Aj,(6,a_ 0 28 [an6,bQ 15 18 aJ (bF i0 18),Jz,Ap]),ac_,ac9,(15,cG true 18 52 uR i0 aDc)],17⟩,2⟩ dN (aa (ay aJ eh) (an 3 [aob,oQ,cn,gK,dT,d5] (an 0 [asD,dT,gm] (an 0 [fv,dT,mX] (aT 300012 20 ⟨(l6::(u2 (u1 (qe::(mW::(u1 (rL::(an5::(oR::(iO (u8 (u4 (u1 ((aV (aE (bv adn)))::(u64 (iY JF)))))))))))))))),aG1,20⟩ QK ⟨CX,⟨(l6::(u2 (u1 (qe::(mW::(u1 (rL::(an5::(RT::(u64 (u64 W98))))))))))),aG1,20⟩,1⟩ dN (aa adn (ai (bE 0 ⟨[aQ asD W5],[]⟩)) aG0) (an 0 [asD,dT,iU] (am aDb (am (ay kn asD) (am (aD aJ nQ) (am (ay nQ asD) (aa (aC (aY aDa (aq jJ nQ 3 0) 3)) (aT 300015 21 ⟨(l6::(u2 (u1 (qe::(mW::(u1 (rL::(an5::(RT::(an4::aHd)))))))))),axz,21⟩ QK ⟨CX,⟨(l6::(u2 (u1 (qe::(mW::(u1 (rL::(an5::(RT::(aDq::an_)))))))))),axz,21⟩,0⟩ dN C1 (an 4 [kn,aDa,aC',aq jJ kn 3 2,mY,dT,Fi] (am aGZ (am aGY (an 5 [aob,asB,YE,gK] (aT 300022 50 ⟨(l6::(u2 (u1 (qe::(mW::(u1 (rL::(u1 (RT::(u1 (aGX::(aC9::(u64 (iO (u2 (u1 ((aV (aE (bv aGW)))::ah2))))))))))))))))),[aGV,AK,Aj,ahP,ac_,ac9,ahO,(39,a_ 0 52 [ax RV,ax Fh,ax qd,bv (aC uP),ax asC,ax ada,ax ac',ax RS,axy,cK 30 lm,cK 31 lm,aDl,ax RR,aC8,axD,ax (bP 49),axC,ax (bP 51)]),(29,bZ true jQ (cH 42)),(30,aGU),(31,aGT),(34,bZ true oS (cH 47)),(35,bZ true oS an9),(37,bZ true W86 an7),(40,a_ 0 28 [an6,bQ 44 18 aJ aC7,axx,Ap]),(44,cG true 18 52 uR asB ⟨some 44,true⟩),axw],50⟩ QK ⟨CX,⟨aGS,[aGV,AK,Aj,ahP,ac_,ac9,ahO,(40,a_ 0 28 [an6,bQ 44 18 aJ (bF asF 18),axx,Ap]),(44,cG true 18 52 uR asF ⟨some 51,true⟩),axw],52⟩,1⟩ dN (aa aGW (am (aD aJ sD) (am (ay sD aC7) (ai (bE 0 ⟨[bW (dK (bW (dK (dK (bW (bW (dK (dK (dK (bW (bW (bW (bW (bW (bW (bW (bW asB sD 18 0 l8) sD 18 1 kn) sD 18 2 mY) sD 18 3 aJ) sD 18 4 aJ) sD 18 5 aJ) sD 18 6 aJ) sD 18 7 aJ) sD 18 8 cn) sD 18 9 cn) sD 18 10 cn) sD 18 11 aJ) sD 18 12 aJ) sD 18 13 cn) sD 18 14 cn) sD 18 15 aJ) sD 18 16 ahV) sD 18 17 ahT],[(51,some 51)]⟩)))) (ai (bE 0 ⟨[asB],[(51,some 44)]⟩))) (ai (aL ⟨[aQ eh W5,bP 53,asF],[(15,some 44),(16,some 51)]⟩)) dL))))) dL) (aT 300015 21 ⟨(l6::(u2 (u1 (qe::(mW::(u1 (rL::(an5::(RT::(an4::(u64 (u8 (u2 (u1 ((aV (aE (bv aGR)))::(u64 [])))))))))))))))),axz,21⟩ QK ⟨CX,⟨(l6::(u2 (u1 (qe::(mW::(u1 (rL::(an5::(RT::((aV (aE (ax RV)))::an_)))))))))),axz,21⟩,1⟩ dN (aa aGR aDf (ai (bE 0 ⟨[nQ],[]⟩))) (an 4 [kn,aDa,aC',aq jJ kn 3 2,RV,dT,Fi] (am aGZ (am aGY (an 5 [aob,asA,YE,gK] (aT 300022 50 ⟨(l6::(u2 (u1 (qe::(mW::(u1 (rL::(u1 (RT::(u1 (aGX::(aC9::(u64 (iO (u2 (u1 ((aV (aE (bv aGQ)))::ah2))))))))))))))))),[aGP,AK,Aj,ahP,ac_,ac9,ahO,(39,a_ 0 52 [ax Fh,ax qd,ax uP,bv (aC asC),ax ada,ax ac',ax RS,aDm,axy,cK 30 lm,cK 31 lm,ax RR,aDk,aC8,axD,ax (bP 50),axC,aDi]),(29,aGU),(30,aGT),(31,bZ true jQ (cH 45)),(34,bZ true oS an9),(35,bZ true oS an8),(37,bZ true W86 (cH 51)),(40,a_ 0 28 [an6,bQ 44 18 aJ aC6,axx,Ap]),(44,cG true 18 52 uR asA ⟨some 44,true⟩),axw],50⟩ QK ⟨CX,⟨aGS,[aGP,AK,Aj,ahP,ac_,ac9,ahO,(40,a_ 0 28 [an6,bQ 44 18 aJ (bF (cH 58) 18),axx,Ap]),(44,cG true 18 52 uR (cH 58) ⟨some 51,true⟩),axw],52⟩,1⟩ dN (aa aGQ (am (aD aJ sC) (am (ay sC aC6) (ai (bE 0 ⟨[bW (dK (bW (dK (dK (bW (bW (dK (dK (dK (bW (bW (bW (bW (bW (bW (bW (bW asA sC 18 0 l8) sC 18 1 kn) sC 18 2 mY) sC 18 3 aJ) sC 18 4 aJ) sC 18 5 aJ) sC 18 6 aJ) sC 18 7 aJ) sC 18 8 cn) sC 18 9 cn) sC 18 10 cn) sC 18 11 aJ) sC 18 12 aJ) sC 18 13 cn) sC 18 14 cn) sC 18 15 aJ) sC 18 16 ahV) sC 18 17 ahT],[(51,some 51)]⟩)))) (ai (bE 0 ⟨[asA],[(51,some 44)]⟩))) (ai (aL ⟨[aQ eh W5,bP 54,cH 58],[(15,some 44),(16,some 51)]⟩)) dL))))) dL))))))) dL)))) (ai (bE 0 ⟨[oQ,d5],[(15,some 15),(16,some 16)]⟩))) (an 0 [Vt,dT,d5] (aa (bL eE aJ) (an 0 [aGO,dT,gQ] (ai (aF [aob,i0,ao aGN gm,gK,dT,gZ]))) (ai (aF [aob,i0,aGN,gK,dT,gQ])))) dL)))))
theorem ara:fF Xu O6 f6 Xs=true:=by kernel_rfl
def ajY:=dj Xu O6 Xs
def av1:Ct:=dl Xu ara func6 call6 rfl
def O8(N:Nat)(a b c:PD):Oo:=bif eqB c.n 0 then oB 0 [.i (aH ((bH a.q 3)-1))]else oB 0 [qi b]
def XI(N:Nat):Oo:=oB 0 []
def XD(N:Nat)(a b c d e f g h i j k l m n o p q s t u v:PD):Oo:=
 let w:=([]++a.q)++(((((((((((((((((([]++[qi c])++[qi d])++[qi e])++[PD.i (if f.n=0 then(0:Int)else 1)])++[qi g])++[qi h])++[qi i])++[qi j])++[ql k])++[ql l])++[ql m])++[qi n])++[qi o])++[ql p])++[ql q])++[qi s])++[ql t])++[qi u])
 let x:=aH ((bH w 18)-1)
 bif cY (if v.n=0 then(0:Int)else 1) 0 then aI (bC 0 x)<|aI (ltB x (bH w 18))<|oB 0 [PD.l (cM (cM (cM (cM (cM (cM (cM (cM (cM (cM (cM (cM (cM (cM (cM (cM (cM (cM w x 18 0 (PD.i 6)) x 18 1 (qi b)) x 18 2 (PD.i (-1))) x 18 3 (PD.i 0)) x 18 4 (PD.i 0)) x 18 5 (PD.i 0)) x 18 6 (PD.i 0)) x 18 7 (PD.i 0)) x 18 8 (PD.l [])) x 18 9 (PD.l [])) x 18 10 (PD.l [])) x 18 11 (PD.i 0)) x 18 12 (PD.i 0)) x 18 13 (PD.l [])) x 18 14 (PD.l [])) x 18 15 (PD.i 0)) x 18 16 (PD.l (([]++[PD.i 0])++[PD.i 0]))) x 18 17 (PD.i 255))]else oB 0 [PD.l w]
def arc(N:Nat)(a b c:PD):Oo:=oA [.i (aH (a.n-1)),qi b,c]
def arb:Oo:=bi (aO (fun S=>XD N b c d e f g h i j k l m n o p q s t u v x) N []) (fun X=>arc N a w (gg X 0)) (fun X=>none)
def agx:Oo:=aI (bC (0+(bH k.q 18)) 1000000)<|aI (bC ((bH ([]++k.q) 18)+1) 1000000)<|aB (fu [PD.l ((((([]++[qi b])++[qi c])++[qi d])++[ql e])++(((([]++[qi f])++[qi g])++[qi h])++[ql i])),PD.l (([]++k.q)++(((((((((((((((((([]++[qi m])++[qi n])++[qi o])++[PD.i (if p.n=0 then(0:Int)else 1)])++[qi q])++[qi s])++[qi t])++[qi u])++[ql v])++[ql w])++[ql x])++[qi y])++[qi z])++[ql A])++[ql B])++[qi C])++[ql D])++[qi E])),PD.l ([]++[PD.i 0]),qi a]) 3 fun r=>arb N j k l m n o p q s t u v w x y z A B C D E F (gg r 2)
def agw:Oo:=aB (si [qi n,.i ((el m.q n.n 3 0).n),.i ((el m.q n.n 3 1).n),.i ((el m.q n.n 3 2).n),.i (-1),ql a,qi o]) 20 fun r=>agx N b c d e f g h i j k l n (gg r 0) (gg r 1) (gg r 2) (gg r 3) (gg r 4) (gg r 5) (gg r 6) (gg r 7) (gg r 8) (gg r 9) (gg r 10) (gg r 11) (gg r 12) (gg r 13) (gg r 14) (gg r 15) (gg r 16) (gg r 17) (gg r 19)
def O7(N:Nat)(a b c:PD):Oo:=bif cY (if((el a.q b.n 3 1).n)=((el a.q c.n 3 1).n)then(0:Int)else 1) 0 then oB 0 [.i (-1)]else oB 0 [qi c]
def Xv(N:Nat)(a b c d e f g h i j k l m n o p q s t u v:PD):Oo:=
 let w:=([]++a.q)++(((((((((((((((((([]++[qi c])++[qi d])++[qi e])++[PD.i (if f.n=0 then(0:Int)else 1)])++[qi g])++[qi h])++[qi i])++[qi j])++[ql k])++[ql l])++[ql m])++[qi n])++[qi o])++[ql p])++[ql q])++[qi s])++[ql t])++[qi u])
 let x:=aH ((bH w 18)-1)
 bif cY (if v.n=0 then(0:Int)else 1) 0 then aI (bC 0 x)<|aI (ltB x (bH w 18))<|oB 0 [PD.l (cM (cM (cM (cM (cM (cM (cM (cM (cM (cM (cM (cM (cM (cM (cM (cM (cM (cM w x 18 0 (PD.i 6)) x 18 1 (qi b)) x 18 2 (PD.i (-1))) x 18 3 (PD.i 0)) x 18 4 (PD.i 0)) x 18 5 (PD.i 0)) x 18 6 (PD.i 0)) x 18 7 (PD.i 0)) x 18 8 (PD.l [])) x 18 9 (PD.l [])) x 18 10 (PD.l [])) x 18 11 (PD.i 0)) x 18 12 (PD.i 0)) x 18 13 (PD.l [])) x 18 14 (PD.l [])) x 18 15 (PD.i 0)) x 18 16 (PD.l (([]++[PD.i 0])++[PD.i 0]))) x 18 17 (PD.i 255))]else oB 0 [PD.l w]
def ake(N:Nat)(a b c:PD):Oo:=oA [.i (aH (a.n-1)),qi b,c]
def akd:Oo:=bi (aO (fun S=>Xv N b c d e f g h i j k l m n o p q s t u v x) N []) (fun X=>ake N a w (gg X 0)) (fun X=>none)
def XL:Oo:=aI (bC (0+(bH k.q 18)) 1000000)<|aI (bC ((bH ([]++k.q) 18)+1) 1000000)<|aB (fu [PD.l ((((([]++[qi b])++[qi c])++[qi d])++[ql e])++(((([]++[qi f])++[qi g])++[qi h])++[ql i])),PD.l (([]++k.q)++(((((((((((((((((([]++[qi m])++[qi n])++[qi o])++[PD.i (if p.n=0 then(0:Int)else 1)])++[qi q])++[qi s])++[qi t])++[qi u])++[ql v])++[ql w])++[ql x])++[qi y])++[qi z])++[ql A])++[ql B])++[qi C])++[ql D])++[qi E])),PD.l ([]++[PD.i 0]),qi a]) 3 fun r=>akd N j k l m n o p q s t u v w x y z A B C D E F (gg r 2)
def Et:Oo:=aB (si [qi n,.i ((el m.q n.n 3 0).n),.i ((el m.q n.n 3 1).n),.i ((el m.q n.n 3 2).n),qi p,ql a,qi o]) 20 fun r=>XL N b c d e f g h i j k l n (gg r 0) (gg r 1) (gg r 2) (gg r 3) (gg r 4) (gg r 5) (gg r 6) (gg r 7) (gg r 8) (gg r 9) (gg r 10) (gg r 11) (gg r 12) (gg r 13) (gg r 14) (gg r 15) (gg r 16) (gg r 17) (gg r 19)
def XK:Oo:=aI (bC 0 n.n)<|aI (ltB n.n (bH m.q 3))<|aI (bC 0 o.n)<|aI (ltB o.n (bH m.q 3))<|bif cY (if((el m.q n.n 3 0).n)=((el m.q o.n 3 0).n)then(0:Int)else 1) 0 then bi (aO (fun S=>XI N) N []) (fun X=>agw N a b c d e f g h i j k l m n p) (fun X=>none)else bi (aO (fun S=>O7 N m n o) N []) (fun X=>Et N a b c d e f g h i j k l m n p (gg X 0)) (fun X=>none)
def XJ:Oo:=aB (cU [.i (bH m.q 3),ql a,qi n]) 3 fun r=>XK N a b c d e f g h i j k l m o (gg r 0) (gg r 2)
def akc:Oo:=bi (aO (fun S=>O8 N m n o) N []) (fun X=>XJ N a b c d e f g h i j k l m p (gg X 0)) (fun X=>none)
def akb:Oo:=aB (cU [.i 2,ql a,qi o]) 3 fun r=>akc N a b c d e f g h i j k l m n (gg r 0) (gg r 2)
def aka:Oo:=aB (cU [.i (bH m.q 3),ql a,qi n]) 3 fun r=>akb N a b c d e f g h i j k l m (gg r 0) (gg r 2)
def Es:Oo:=bif ltB 0 k.n then aB (Cg [PD.l ((((([]++[qi c])++[qi d])++[qi e])++[ql f])++(((([]++[qi g])++[qi h])++[qi i])++[ql j])),ql m,PD.l [],qi b,ql a,qi l]) 3 fun r=>aka N a b c d e f g h i j k m (gg r 0) (gg r 2)else oB 0 [m,qi l]
def aj'(N:Nat)(a b c d e f g h i j k l m:PD):Oo:=
 let n:=(((([]++[qi c])++[qi d])++[qi e])++[ql f])++(((([]++[qi g])++[qi h])++[qi i])++[ql j])
 oF [PD.l n,ql k,PD.l (([]++[PD.i (aH ((aH ((bH n 4)+(bH k.q 18)))-1))])++[qi l]),qi b,ql a,qi m]
def aj_:Oo:=
 let n:=(((([]++[qi c])++[qi d])++[qi e])++[ql f])++(((([]++[qi g])++[qi h])++[qi i])++[ql j])
 let o:=aH ((bH n 4)+(bH k.q 18))
 bif eqB l.n 0 then aB (cU [.i o,ql a,qi m]) 3 fun r=>aj' N a b c d e f g h i j k (gg r 0) (gg r 2)else oF [PD.l n,ql k,PD.l ([]++[PD.i (aH (o-1))]),qi b,ql a,qi m]
def XH:Oo:=aB (cU [.i 3,ql a,qi l]) 3 fun r=>aj_ N a b c d e f g h i j k (gg r 0) (gg r 2)
def XG:Oo:=bi (aO (fun S=>Es N a b c d e f g h i j (gg S 0) (gg S 1) (gg S 2)) N [.i (aH (1+k.n)),qi l,PD.l []]) (fun X=>XH N a b c d e f g h i j (gg X 0) (gg X 1)) (fun X=>none)
def XF:Oo:=aI (bC (1+1) 1000000)<|aB (cU [qi a,ql b,qi l]) 3 fun r=>XG N b c d e f g h i j k (gg r 0) (gg r 2)
def Er(N:Nat)(a b c:PD):Oo:=bif eqB c.n 0 then oB 0 [.i (aH ((bH a.q 3)-1))]else oB 0 [qi b]
def Kh(N:Nat)(a b c d e f g h i j k l m n o p q s t u v:PD):Oo:=
 let w:=([]++a.q)++(((((((((((((((((([]++[qi c])++[qi d])++[qi e])++[PD.i (if f.n=0 then(0:Int)else 1)])++[qi g])++[qi h])++[qi i])++[qi j])++[ql k])++[ql l])++[ql m])++[qi n])++[qi o])++[ql p])++[ql q])++[qi s])++[ql t])++[qi u])
 let x:=aH ((bH w 18)-1)
 bif cY (if v.n=0 then(0:Int)else 1) 0 then aI (bC 0 x)<|aI (ltB x (bH w 18))<|oB 0 [PD.l (cM (cM (cM (cM (cM (cM (cM (cM (cM (cM (cM (cM (cM (cM (cM (cM (cM (cM w x 18 0 (PD.i 6)) x 18 1 (qi b)) x 18 2 (PD.i (-1))) x 18 3 (PD.i 0)) x 18 4 (PD.i 0)) x 18 5 (PD.i 0)) x 18 6 (PD.i 0)) x 18 7 (PD.i 0)) x 18 8 (PD.l [])) x 18 9 (PD.l [])) x 18 10 (PD.l [])) x 18 11 (PD.i 0)) x 18 12 (PD.i 0)) x 18 13 (PD.l [])) x 18 14 (PD.l [])) x 18 15 (PD.i 0)) x 18 16 (PD.l (([]++[PD.i 0])++[PD.i 0]))) x 18 17 (PD.i 255))]else oB 0 [PD.l w]
def aj9(N:Nat)(a b c:PD):Oo:=oA [.i (aH (a.n-1)),qi b,c]
def aj8:Oo:=bi (aO (fun S=>Kh N b c d e f g h i j k l m n o p q s t u v x) N []) (fun X=>aj9 N a w (gg X 0)) (fun X=>none)
def XE:Oo:=aI (bC (0+(bH g.q 18)) 1000000)<|aI (bC ((bH ([]++g.q) 18)+1) 1000000)<|aB (fu [PD.l (((([]++[qi b])++[qi c])++[qi d])++[ql e]),PD.l (([]++g.q)++(((((((((((((((((([]++[qi i])++[qi j])++[qi k])++[PD.i (if l.n=0 then(0:Int)else 1)])++[qi m])++[qi n])++[qi o])++[qi p])++[ql q])++[ql s])++[ql t])++[qi u])++[qi v])++[ql w])++[ql x])++[qi y])++[ql z])++[qi A])),PD.l ([]++[PD.i 0]),qi a]) 3 fun r=>aj8 N f g h i j k l m n o p q s t u v w x y z A B (gg r 2)
def XC:Oo:=aB (si [qi j,.i ((el i.q j.n 3 0).n),.i ((el i.q j.n 3 1).n),.i ((el i.q j.n 3 2).n),.i (-1),ql a,qi k]) 20 fun r=>XE N b c d e f g h j (gg r 0) (gg r 1) (gg r 2) (gg r 3) (gg r 4) (gg r 5) (gg r 6) (gg r 7) (gg r 8) (gg r 9) (gg r 10) (gg r 11) (gg r 12) (gg r 13) (gg r 14) (gg r 15) (gg r 16) (gg r 17) (gg r 19)
def Ep(N:Nat)(a b c:PD):Oo:=bif cY (if((el a.q b.n 3 1).n)=((el a.q c.n 3 1).n)then(0:Int)else 1) 0 then oB 0 [.i (-1)]else oB 0 [qi c]
def Kg(N:Nat)(a b c d e f g h i j k l m n o p q s t u v:PD):Oo:=
 let w:=([]++a.q)++(((((((((((((((((([]++[qi c])++[qi d])++[qi e])++[PD.i (if f.n=0 then(0:Int)else 1)])++[qi g])++[qi h])++[qi i])++[qi j])++[ql k])++[ql l])++[ql m])++[qi n])++[qi o])++[ql p])++[ql q])++[qi s])++[ql t])++[qi u])
 let x:=aH ((bH w 18)-1)
 bif cY (if v.n=0 then(0:Int)else 1) 0 then aI (bC 0 x)<|aI (ltB x (bH w 18))<|oB 0 [PD.l (cM (cM (cM (cM (cM (cM (cM (cM (cM (cM (cM (cM (cM (cM (cM (cM (cM (cM w x 18 0 (PD.i 6)) x 18 1 (qi b)) x 18 2 (PD.i (-1))) x 18 3 (PD.i 0)) x 18 4 (PD.i 0)) x 18 5 (PD.i 0)) x 18 6 (PD.i 0)) x 18 7 (PD.i 0)) x 18 8 (PD.l [])) x 18 9 (PD.l [])) x 18 10 (PD.l [])) x 18 11 (PD.i 0)) x 18 12 (PD.i 0)) x 18 13 (PD.l [])) x 18 14 (PD.l [])) x 18 15 (PD.i 0)) x 18 16 (PD.l (([]++[PD.i 0])++[PD.i 0]))) x 18 17 (PD.i 255))]else oB 0 [PD.l w]
def aj7(N:Nat)(a b c:PD):Oo:=oA [.i (aH (a.n-1)),qi b,c]
def aj6:Oo:=bi (aO (fun S=>Kg N b c d e f g h i j k l m n o p q s t u v x) N []) (fun X=>aj7 N a w (gg X 0)) (fun X=>none)
def XB:Oo:=aI (bC (0+(bH g.q 18)) 1000000)<|aI (bC ((bH ([]++g.q) 18)+1) 1000000)<|aB (fu [PD.l (((([]++[qi b])++[qi c])++[qi d])++[ql e]),PD.l (([]++g.q)++(((((((((((((((((([]++[qi i])++[qi j])++[qi k])++[PD.i (if l.n=0 then(0:Int)else 1)])++[qi m])++[qi n])++[qi o])++[qi p])++[ql q])++[ql s])++[ql t])++[qi u])++[qi v])++[ql w])++[ql x])++[qi y])++[ql z])++[qi A])),PD.l ([]++[PD.i 0]),qi a]) 3 fun r=>aj6 N f g h i j k l m n o p q s t u v w x y z A B (gg r 2)
def Eo:Oo:=aB (si [qi j,.i ((el i.q j.n 3 0).n),.i ((el i.q j.n 3 1).n),.i ((el i.q j.n 3 2).n),qi l,ql a,qi k]) 20 fun r=>XB N b c d e f g h j (gg r 0) (gg r 1) (gg r 2) (gg r 3) (gg r 4) (gg r 5) (gg r 6) (gg r 7) (gg r 8) (gg r 9) (gg r 10) (gg r 11) (gg r 12) (gg r 13) (gg r 14) (gg r 15) (gg r 16) (gg r 17) (gg r 19)
def XA:Oo:=aI (bC 0 j.n)<|aI (ltB j.n (bH i.q 3))<|aI (bC 0 k.n)<|aI (ltB k.n (bH i.q 3))<|bif cY (if((el i.q j.n 3 0).n)=((el i.q k.n 3 0).n)then(0:Int)else 1) 0 then bi (aO (fun S=>XI N) N []) (fun X=>XC N a b c d e f g h i j l) (fun X=>none)else bi (aO (fun S=>Ep N i j k) N []) (fun X=>Eo N a b c d e f g h i j l (gg X 0)) (fun X=>none)
def Xz:Oo:=aB (cU [.i (bH i.q 3),ql a,qi j]) 3 fun r=>XA N a b c d e f g h i k (gg r 0) (gg r 2)
def aj5:Oo:=bi (aO (fun S=>Er N i j k) N []) (fun X=>Xz N a b c d e f g h i l (gg X 0)) (fun X=>none)
def aj4:Oo:=aB (cU [.i 2,ql a,qi k]) 3 fun r=>aj5 N a b c d e f g h i j (gg r 0) (gg r 2)
def aj3:Oo:=aB (cU [.i (bH i.q 3),ql a,qi j]) 3 fun r=>aj4 N a b c d e f g h i (gg r 0) (gg r 2)
def En:Oo:=bif ltB 0 g.n then aB (Cg [PD.l (((([]++[qi c])++[qi d])++[qi e])++[ql f]),ql i,PD.l [],qi b,ql a,qi h]) 3 fun r=>aj3 N a b c d e f g i (gg r 0) (gg r 2)else oB 0 [i,qi h]
def aj2(N:Nat)(a b c d e f g h i:PD):Oo:=oF [PD.l (((([]++[qi c])++[qi d])++[qi e])++[ql f]),ql g,PD.l (([]++[PD.i (aH ((aH (1+(bH g.q 18)))-1))])++[qi h]),qi b,ql a,qi i]
def aj1:Oo:=
 let j:=aH (1+(bH g.q 18))
 bif eqB h.n 0 then aB (cU [.i j,ql a,qi i]) 3 fun r=>aj2 N a b c d e f g (gg r 0) (gg r 2)else oF [PD.l (((([]++[qi c])++[qi d])++[qi e])++[ql f]),ql g,PD.l ([]++[PD.i (aH (j-1))]),qi b,ql a,qi i]
def Xy:Oo:=aB (cU [.i 3,ql a,qi h]) 3 fun r=>aj1 N a b c d e f g (gg r 0) (gg r 2)
def Xx:Oo:=bi (aO (fun S=>En N a b c d e f (gg S 0) (gg S 1) (gg S 2)) N [.i (aH (1+g.n)),qi h,PD.l []]) (fun X=>Xy N a b c d e f (gg X 0) (gg X 1)) (fun X=>none)
def aj0:Oo:=bif eqB h.n 0 then aB (GI [qi d,qi e,ql b,qi i]) 6 fun r=>XF N a b c d e f g (gg r 0) (gg r 1) (gg r 2) (gg r 3) (gg r 5)else aB (cU [qi a,ql b,qi i]) 3 fun r=>Xx N b c d e f g (gg r 0) (gg r 2)
def Xw:Oo:=aB (cU [.i 2,ql b,qi h]) 3 fun r=>aj0 N a b c d e f g (gg r 0) (gg r 2)
def ajZ:Oo:=aB (Uv [ql b,qi d]) 6 fun r=>Xw N a b c (gg r 0) (gg r 1) (gg r 2) (gg r 3) (gg r 5)
def aBX:Oo:=aB (cU [.i 4,ql b,qi c]) 3 fun r=>ajZ N a b (gg r 0) (gg r 2)
theorem av0:dk N Xu O6 Xs [a,b,c]=aBX N a b c:=by kernel_rfl
end
end Go.Proofs.YtlchkibailfldaaGreat.Ex
