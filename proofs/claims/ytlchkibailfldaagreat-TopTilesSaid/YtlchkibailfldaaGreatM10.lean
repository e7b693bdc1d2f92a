/-
  Part 10 of the proof that TopTiles returns true at every call and leaves what it was given as it was; no condition beyond the row's own.
-/
import Derived.Test.YtlchkibailfldaaGreatM07
set_option linter.unusedVariables false
set_option linter.unusedSimpArgs false
set_option linter.unusedSectionVars false
namespace Go.Proofs.YtlchkibailfldaaGreat.Ex
noncomputable section
open Go Go.RowKit Tryz
set_option maxRecDepth 100000
variable (N:Nat)(a b c d e f g h i j k l m n o p q s t u v w x y z A B C D E F G H I J K L M O P Q R T U9 V9 W Y Z:PD)
def Kr:dO:=⟨W2,[],0,Qn,false⟩
def VU:List Ct:=[]
def VS:PL:=aIS
theorem aoU:fF VU Kr f93 VS=true:=by kernel_rfl
def sR:=dj VU Kr VS
def C7:Ct:=dl VU aoU func93 call93 rfl
def aFq(N:Nat)(a b c:PD):Oo:=
 let d:=aH (a.n*b.n)
 bif ltB a.n 0 then oF [.i 0,.i 0]else bif ltB b.n 0 then oF [.i 0,.i 0]else bif ltB c.n 0 then oF [.i 0,.i 0]else bif ltB 0 b.n then aI (cY (if b.n=0 then(0:Int)else 1) 0)<|bif ltB (aH (Int.tdiv c.n b.n)) a.n then oF [.i 0,.i 0]else oF [.i d,.i 1]else oF [.i d,.i 1]
theorem avd:dk N VU Kr VS [a,b,c]=aFq N a b c:=by kernel_rfl
def Fy:dO:=⟨Qs,[],0,kE,false⟩
def JK:List Ct:=[]
def Ks:PL:=aa aoF dp (aa JD dp (am aii (aa aGM (ai (aF [aG aC5 W5])) aC4)))
theorem alh:fF JK Fy f146 Ks=true:=by kernel_rfl
def C8:=dj JK Fy Ks
def YX:Ct:=dl JK alh func146 call146 rfl
def ayV(N:Nat)(a b:PD):Oo:=
 let c:=aH (Int.tdiv a.n b.n)
 bif ltB a.n 0 then oF [.i 0]else bif ltB b.n 1 then oF [.i 0]else aI (cY (if b.n=0 then(0:Int)else 1) 0)<|bif cY (if(Int.tmod a.n b.n)=0 then(0:Int)else 1) 0 then oF [.i (aH (c+1))]else oF [.i c]
theorem aoV:dk N JK Fy Ks [a,b]=ayV N a b:=by kernel_rfl
def AR:dO:=⟨W2,[],0,Qn,false⟩
def C9:List Ct:=[C7,YX]
def FA:PL:=aa aoF jo (aa JD jo (an 1 [W6,W9] (an 0 [gK,W9,dU] (ai (aF [et,aY e7 aJ 3])))))
theorem aei:fF C9 AR f208 FA=true:=by kernel_rfl
def j9:=dj C9 AR FA
def alj:Ct:=dl C9 aei func208 call208 rfl
def aoW(N:Nat)(a b:PD):Oo:=oF [qi a,.i (if b.n=0 then(0:Int)else 1)]
def YY:Oo:=aB (sR [qi c,qi a,qi b]) 2 fun r=>aoW N (gg r 0) (gg r 1)
def aej:Oo:=bif ltB a.n 0 then oF [.i 0,.i 0]else bif ltB b.n 1 then oF [.i 0,.i 0]else aB (C8 [qi a,qi b]) 1 fun r=>YY N b c (gg r 0)
theorem ali:dk N C9 AR FA [a,b,c]=aej N a b c:=by kernel_rfl
def Bn:dO:=⟨[Ai],[],0,W4,false⟩
def DA:List Ct:=[]
def FR:PL:=aa aif (aa aio (aa (bL dU aJ) (aa W85 C0 dp) dp) dp) dp
theorem afb:fF DA Bn f45 FR=true:=by kernel_rfl
def gW:=dj DA Bn FR
def jB:Ct:=dl DA afb func45 call45 rfl
def apE(N:Nat)(a b c d:PD):Oo:=bif eqB a.n 0 then bif eqB b.n 0 then bif eqB c.n 0 then bif eqB d.n 0 then oF [.i 1]else oF [.i 0]else oF [.i 0]else oF [.i 0]else oF [.i 0]
theorem al7:dk N DA Bn FR [a,b,c,d]=apE N a b c d:=by kernel_rfl
def Bj:dO:=⟨[Ai],[],0,W4,false⟩
def Dz:List Ct:=[jB]
def FQ:PL:=an 0 an3 (aa (aC et) C0 (aa (aD axu W6) (aa (aD W6 Qi) (aa (aD axu W9) (aa (aD W9 Qi) (aa (aD axu dU) (aa (aD dU Qi) (aa (aD axu gK) (aa (aD gK Qi) (aa (ay W6 dU) (ai (aF [aY W9 gK 0])) dp) dp) dp) dp) dp) dp) dp) dp) dp))
theorem ae':fF Dz Bj f99 FQ=true:=by kernel_rfl
def yG:=dj Dz Bj FQ
def Tb:Ct:=dl Dz ae' func99 call99 rfl
def ZX(N:Nat)(a b c d e:PD):Oo:=bif cY e.n 0 then oF [.i 1]else bif bC (-1048576) a.n then bif bC a.n 1048576 then bif bC (-1048576) b.n then bif bC b.n 1048576 then bif bC (-1048576) c.n then bif bC c.n 1048576 then bif bC (-1048576) d.n then bif bC d.n 1048576 then bif ltB a.n c.n then oF [.i (if b.n<d.n then(1:Int)else 0)]else oF [.i 0]else oF [.i 0]else oF [.i 0]else oF [.i 0]else oF [.i 0]else oF [.i 0]else oF [.i 0]else oF [.i 0]else oF [.i 0]
def apD:Oo:=aB (gW [qi a,qi b,qi c,qi d]) 1 fun r=>ZX N a b c d (gg r 0)
theorem al6:dk N Dz Bj FQ [a,b,c,d]=apD N a b c d:=by kernel_rfl
def vW:dO:=⟨[Ai,Ai],[],0,W4,false⟩
def yH:List Ct:=[Tb,jB]
def Bl:PL:=an 0 an3 (aa aoA dp (an 0 [et,e7,fP,dq] (aa ady dp (an 1 an3 (aa as2 C0 (aa (aD et W6) (aa (aD dU fP) (aa (aD e7 W9) (ai (aF [aY gK dq 1])) dp) dp) dp))))))
theorem ZY:fF yH vW f46 Bl=true:=by kernel_rfl
def iC:=dj yH vW Bl
def jT:Ct:=dl yH ZY func46 call46 rfl
def Te(N:Nat)(a b c d e f g h i:PD):Oo:=bif cY i.n 0 then oF [.i 1]else bif bC e.n a.n then bif bC c.n g.n then bif bC f.n b.n then oF [.i (if d.n<=h.n then(1:Int)else 0)]else oF [.i 0]else oF [.i 0]else oF [.i 0]
def Td:Oo:=bif eqB i.n 0 then oF [.i 0]else aB (gW [qi a,qi b,qi c,qi d]) 1 fun r=>Te N a b c d e f g h (gg r 0)
def Tc:Oo:=bif eqB i.n 0 then oF [.i 0]else aB (yG [qi e,qi f,qi g,qi h]) 1 fun r=>Td N a b c d e f g h (gg r 0)
def ai8:Oo:=aB (yG [qi a,qi b,qi c,qi d]) 1 fun r=>Tc N a b c d e f g h (gg r 0)
theorem afa:dk N yH vW Bl [a,b,c,d,e,f,g,h]=ai8 N a b c d e f g h:=by kernel_rfl
def acw:dO:=⟨[Ai],[],0,kE,false⟩
def J0:List Ct:=[Tb]
def Ls:PL:=an 0 an3 (aa W24 dp (ai (aF [bf axt axs])))
theorem al8:fF J0 acw f48 Ls=true:=by kernel_rfl
def ZZ:=dj J0 acw Ls
def apH:Ct:=dl J0 al8 func48 call48 rfl
def ai9(N:Nat)(a b c d e:PD):Oo:=bif eqB e.n 0 then oF [.i 0]else oF [.i (aH ((aH (c.n-a.n))*(aH (d.n-b.n))))]
def ay1:Oo:=aB (yG [qi a,qi b,qi c,qi d]) 1 fun r=>ai9 N a b c d (gg r 0)
theorem apG:dk N J0 acw Ls [a,b,c,d]=ay1 N a b c d:=by kernel_rfl
def CU:dO:=⟨W2,[],0,Qn,false⟩
def Fb:List Ct:=[]
def Hj:PL:=aa JD jo (aa ain jo (aa (bL dU aJ) (ai (aF [jn (fH W6 aJ) aoI,W5])) (aa (bL dU W5) (am (aC (aY asz aJ 3)) (aa (ay asy aJ) (aa (aD W9 aC3) (ai (aF [aQ (aQ asz W5) aC3,W5])) (ai (aF [aC3,W5]))) (aa (aD W9 asy) (ai (aF [aQ (aQ asz W5) asy,W5])) (ai (aF [asy,W5]))))) (aa (bL dU fv) (am aii (aa (ay axv aJ) (ai (aF [aG axv W9,W5])) (ai (aF [axv,W5])))) (aa (bL dU Vt) (aa W92 (aa (ay W6 W9) (ai (aF [W6,W5])) jo) jo) jo)))))
theorem ahw:fF Fb CU f192 Hj=true:=by kernel_rfl
def gw:=dj Fb CU Hj
def zX:Ct:=dl Fb ahw func192 call192 rfl
def ahx(N:Nat)(a b c:PD):Oo:=
 let d:=aH (2*b.n)
 let e:=Int.tmod a.n d
 let f:=Int.tmod a.n b.n
 let g:=aH (e+d)
 bif ltB b.n 1 then oF [.i 0,.i 0]else bif ltB 128 b.n then oF [.i 0,.i 0]else bif eqB c.n 0 then oF [.i (lU (gI a.n 0) (aH (b.n-1))),.i 1]else bif eqB c.n 1 then aI (cY (if d=0 then(0:Int)else 1) 0)<|bif ltB e 0 then bif bC b.n g then oF [.i (aH ((aH (d-1))-g)),.i 1]else oF [.i g,.i 1]else bif bC b.n e then oF [.i (aH ((aH (d-1))-e)),.i 1]else oF [.i e,.i 1]else bif eqB c.n 2 then aI (cY (if b.n=0 then(0:Int)else 1) 0)<|bif ltB f 0 then oF [.i (aH (f+b.n)),.i 1]else oF [.i f,.i 1]else bif eqB c.n 3 then bif bC 0 a.n then bif ltB a.n b.n then oF [qi a,.i 1]else oF [.i 0,.i 0]else oF [.i 0,.i 0]else oF [.i 0,.i 0]
theorem anP:dk N Fb CU Hj [a,b,c]=ahx N a b c:=by kernel_rfl
def CT:dO:=⟨[Kn,W1],[],0,W4,false⟩
def E_:List Ct:=[]
def Hi:PL:=aa aif W93 (aa pZ W93 (aa l9 W93 (aa CV W91 dp)))
theorem ahv:fF E_ CT f130 Hi=true:=by kernel_rfl
def o8:=dj E_ CT Hi
def zW:Ct:=dl E_ ahv func130 call130 rfl
def ar5(N:Nat)(a b c:PD):Oo:=
 let d:=if b.n=0 then(1:Int)else 0
 bif eqB a.n 0 then oF [.i d]else bif eqB a.n 1 then oF [.i d]else bif eqB a.n 2 then oF [.i d]else bif eqB a.n 3 then bif bC 0 b.n then oF [.i (if b.n<=c.n then(1:Int)else 0)]else oF [.i 0]else oF [.i 0]
theorem anO:dk N E_ CT Hi [a,b,c]=ar5 N a b c:=by kernel_rfl
def CJ:dO:=⟨Qs,[],0,kE,false⟩
def EX:List Ct:=[]
def Hd:PL:=aa (aD i_ W6) (aa (ay ii W6) dp (aa as_ dp (aa (ay Qp W9) dp (aa aio aE7 (am (aD aJ aoI) (am (aD aoI R6) (am (aD W9 R6) (ai (aF [acV (aG W6 (qQ W5 aoI)) W9]))))))))) dp
theorem ag_:fF EX CJ f135 Hd=true:=by kernel_rfl
def gX:=dj EX CJ Hd
def mM:Ct:=dl EX ag_ func135 call135 rfl
def arF(N:Nat)(a b:PD):Oo:=
 let c:=aH (b.n-1)
 bif bC (-17592186044416) a.n then bif ltB 17592186044416 a.n then oF [.i 0]else bif ltB b.n 0 then oF [.i 0]else bif ltB 24 b.n then oF [.i 0]else bif eqB b.n 0 then oF [qi a]else aI (bC 0 c)<|aI (bC c 64)<|aI (bC b.n 64)<|oF [.i (aFs (aH (a.n+(FK .i64 1 c))) b.n)]else oF [.i 0]
theorem ant:dk N EX CJ Hd [a,b]=arF N a b:=by kernel_rfl
def CK:dO:=⟨Qs,[],0,kE,false⟩
def EY:List Ct:=[]
def He:PL:=aa as_ dp (aa aoF dp (aa (ay W9 W6) (ai (aF [W9])) aE7))
theorem ag':fF EY CK f134 He=true:=by kernel_rfl
def o0:=dj EY CK He
def zO:Ct:=dl EY ag' func134 call134 rfl
def arG(N:Nat)(a b:PD):Oo:=bif ltB b.n 0 then oF [.i 0]else bif ltB a.n 0 then oF [.i 0]else bif ltB b.n a.n then oF [qi b]else oF [qi a]
theorem anu:dk N EY CK He [a,b]=arG N a b:=by kernel_rfl
def uD:dO:=⟨[Ak],[],0,kE,false⟩
def uE:List Ct:=[]
def xG:PL:=aa aE_ l5 (aa (ay (aR 81) W56) l5 (aT 4 2 ⟨(u8 (u4 (u1 (Ju::(an2::(W94::JG)))))),W96,2⟩ Fk ⟨la,⟨(iY JG),[],2⟩,0⟩ ⟨qT,⟨(u2 ((aV (aE (eB 10)))::W64)),[],2⟩,0⟩ aI8 dp mZ))
theorem Yb:fF uE uD f190 xG=true:=by kernel_rfl
def nr:=dj uE uD xG
def xH:Ct:=dl uE Yb func190 call190 rfl
def uF(N:Nat)(a b:PD):Oo:=
 let c:=(el a.q b.n 1 0).n
 bif ltB b.n (bH a.q 1)then aI (bC 0 b.n)<|bif bC (-32767) c then bif ltB 32767 c then oB 1 []else oA [.i (aH (b.n+1))]else oB 1 []else oB 0 []
def ag9(N:Nat):Oo:=oF [.i 0]
def ag8(N:Nat):Oo:=oF [.i 10]
def acA:Oo:=bif eqB (bH a.q 1) 0 then oF [.i 9]else bif ltB 81 (bH a.q 1)then oF [.i 9]else bi (aO (fun S=>uF N a (gg S 0)) N [.i 0]) (fun X=>ag9 N) (fun X=>ag8 N)
theorem acz:dk N uE uD xG [a]=acA N a:=by kernel_rfl
def xI:dO:=⟨[Ak,W1,W1],[],0,[W1,W1,W3],false⟩
def zP:List Ct:=[xH]
def CL:PL:=an 0 [mb] (aa (aC vn) sO (aa (ay dU W9) sO (aa (aD aE9 W9) (aa (ay (aR 68719476736) W9) sO (aa (aD aE9 dU) (aa aI7 sO (aT 5 5 ⟨(u1 (W94::(AL::(u4 (u2 (nB::(W30::(iY (u4 (Ju::(an2::(p7::(iO []))))))))))))),W96,5⟩ ayR ⟨la,⟨(u8 (u1 (nB::(W30::YQ)))),[],5⟩,2⟩ dN aI3 aI2 dL)) sO)) sO)))
theorem acB:fF zP xI f191 CL=true:=by kernel_rfl
def mN:=dj zP xI CL
def CM:Ct:=dl zP acB func191 call191 rfl
def zQ(N:Nat)(a b c d e f:PD):Oo:=
 let g:=(el a.q f.n 1 0).n
 bif ltB f.n (bH a.q 1)then aI (bC 0 f.n)<|oA [.i (aH (d.n+(lU (aH (g*b.n)) (aH (g*c.n))))),.i (aH (e.n+(gI (aH (g*b.n)) (aH (g*c.n))))),.i (aH (f.n+1))]else oB 0 [qi d,qi e]
def U8(N:Nat)(a b:PD):Oo:=bif bC (-17592186044416) a.n then bif ltB 17592186044416 a.n then oF [.i 0,.i 0,.i 0]else bif bC (-17592186044416) b.n then bif ltB 17592186044416 b.n then oF [.i 0,.i 0,.i 0]else oF [qi a,qi b,.i 1]else oF [.i 0,.i 0,.i 0]else oF [.i 0,.i 0,.i 0]
def U7:Oo:=bif cY (if d.n=0 then(0:Int)else 1) 0 then oF [.i 0,.i 0,.i 0]else bif ltB c.n b.n then oF [.i 0,.i 0,.i 0]else bif bC (-68719476736) b.n then bif ltB 68719476736 b.n then oF [.i 0,.i 0,.i 0]else bif bC (-68719476736) c.n then bif ltB 68719476736 c.n then oF [.i 0,.i 0,.i 0]else bi (aO (fun S=>zQ N a b c (gg S 0) (gg S 1) (gg S 2)) N [.i 0,.i 0,.i 0]) (fun X=>U8 N (gg X 0) (gg X 1)) (fun X=>none)else oF [.i 0,.i 0,.i 0]else oF [.i 0,.i 0,.i 0]
def akr:Oo:=aB (nr [ql a]) 1 fun r=>U7 N a b c (gg r 0)
theorem aha:dk N zP xI CL [a,b,c]=akr N a b c:=by kernel_rfl
end
noncomputable section
open Go Go.RowKit Tryz
set_option maxRecDepth 100000
variable (N:Nat)(a b c d e f g h i j k l m n o p q s t u v w x y z A B C D E F G H I J K L M O P Q R T U9 V9 W Y Z:PD)
def BU:dO:=⟨W2,[],0,Qn,false⟩
def D7:List Ct:=[C7]
def Gj:PL:=aa R2 jo (aa asM jo (aa JD jo (aa ain jo (aa R1 jo (aa aoG jo (an 0 [W6,W9,W12] (ai (aF [gK,ax1]))))))))
theorem afT:fF D7 BU f38 Gj=true:=by kernel_rfl
def Gk:=dj D7 BU Gj
def TW:Ct:=dl D7 afT func38 call38 rfl
def aaZ(N:Nat)(a b:PD):Oo:=oF [qi a,.i (if b.n=0 then(0:Int)else 1)]
def ap8:Oo:=bif ltB a.n 1 then oF [.i 0,.i 0]else bif ltB 128 a.n then oF [.i 0,.i 0]else bif ltB b.n 1 then oF [.i 0,.i 0]else bif ltB 128 b.n then oF [.i 0,.i 0]else bif ltB c.n 1 then oF [.i 0,.i 0]else bif ltB 4294967296 c.n then oF [.i 0,.i 0]else aB (sR [qi a,qi b,.i 4096]) 2 fun r=>aaZ N (gg r 0) (gg r 1)
theorem amC:dk N D7 BU Gj [a,b,c]=ap8 N a b c:=by kernel_rfl
def wE:dO:=⟨[vq],[],0,W4,false⟩
def y_:List Ct:=[TW]
def BS:PL:=an 0 W22 (aa ah6 dp (aa (aC (aY Fw et 3)) dp (aT 5 8 ⟨(u1 (zY::(iY (u8 (u1 (aIV::((aV (aE (ax Fw)))::(p7::W95)))))))),[(5,W37),l4],8⟩ Fk ⟨la,⟨W32,[],8⟩,0⟩ ⟨qT,⟨(u2 (W44::(iO JG))),[],8⟩,0⟩ (aa (ay fP Fw) (am aiq (aa (ay (aq jd fP 1 0) aJ) l7 (aa (ay dU (aq jd fP 1 0)) l7 aC2))) C1) C0 dp)))
theorem aaU:fF y_ wE f44 BS=true:=by kernel_rfl
def eD:=dj y_ wE BS
def hD:Ct:=dl y_ aaU func44 call44 rfl
def za(N:Nat)(a b c:PD):Oo:=
 let d:=(el b.q c.n 1 0).n
 bif ltB c.n (bH b.q 1)then aI (bC 0 c.n)<|bif ltB d 0 then oB 1 []else bif ltB a.n d then oB 1 []else oA [.i (aH (c.n+1))]else oB 0 []
def amx(N:Nat):Oo:=oF [.i 1]
def amw(N:Nat):Oo:=oF [.i 0]
def TU:Oo:=bif eqB d.n 0 then oF [.i 0]else bif cY (if(bH b.q 1)=c.n then(0:Int)else 1) 0 then oF [.i 0]else bi (aO (fun S=>za N a b (gg S 0)) N [.i 0]) (fun X=>amx N) (fun X=>amw N)
def ajp:Oo:=aB (Gk [qi a,qi b,qi c]) 2 fun r=>TU N c d (gg r 0) (gg r 1)
theorem afO:dk N y_ wE BS [a,b,c,d]=ajp N a b c d:=by kernel_rfl
def Gh:dO:=⟨W2,[],0,[vq,W3],false⟩
def J_:List Ct:=[TW]
def Oa:PL:=an 0 W22 (aa W24 ac7 (am adv (am (aD gK f_) (ai (aF [W6,W9,dU,gP gK aJ,W5])))))
theorem amz:fF J_ Gh f11 Oa=true:=by kernel_rfl
def aaV:=dj J_ Gh Oa
def ap5:Ct:=dl J_ amz func11 call11 rfl
def ajr(N:Nat)(a b c d e:PD):Oo:=bif eqB e.n 0 then oF [.i 0,.i 0,.i 0,PD.l [],.i 0]else aI (bC 0 d.n)<|aI (bC d.n 1000000)<|oF [qi a,qi b,qi c,PD.l (List.replicate (Int.toNat d.n) (PD.i 0)),.i 1]
def ay4:Oo:=aB (Gk [qi a,qi b,qi c]) 2 fun r=>ajr N a b c (gg r 0) (gg r 1)
theorem ap4:dk N J_ Gh Oa [a,b,c]=ay4 N a b c:=by kernel_rfl
def FJ:dO:=⟨[Ak],[],0,kE,false⟩
def JU:List Ct:=[]
def KR:PL:=aa (ay W56 W5) dL (am aC1 (aT 5 2 ⟨(Ju::(u2 (W94::(AL::W64)))),W96,2⟩ ⟨[aq mb aJ 1 0,W5],[]⟩ ⟨la,⟨(u2 (u1 (W94::W67))),[],2⟩,1⟩ dN (aa W68 (am W69 (ai (aL ⟨[fH W9 W71,W73],[]⟩))) (ai (bE 0 ⟨[W9],[]⟩))) (ai (aF [W9])) dL))
theorem alJ:fF JU FJ f100 KR=true:=by kernel_rfl
def Zy:=dj JU FJ KR
def apf:Ct:=dl JU alJ func100 call100 rfl
def Dl(N:Nat)(a b c:PD):Oo:=bif ltB c.n (bH a.q 1)then aI (bC 0 c.n)<|oA [.i (gI b.n ((el a.q c.n 1 0).n)),.i (aH (c.n+1))]else oB 0 [qi b]
def aiQ(N:Nat)(a:PD):Oo:=oF [qi a]
def ayY:Oo:=bif ltB (bH a.q 1) 1 then none else aI (ltB 0 (bH a.q 1))<|bi (aO (fun S=>Dl N a (gg S 0) (gg S 1)) N [el a.q 0 1 0,.i 1]) (fun X=>aiQ N (gg X 0)) (fun X=>none)
theorem ape:dk N JU FJ KR [a]=ayY N a:=by kernel_rfl
def vJ:dO:=⟨[Ak],[],0,[Ak],false⟩
def yv:List Ct:=[]
def A5:PL:=am aC1 (am (aD (d8 aJ W56) f_) (ai (aF [cW cn mb])))
theorem ZB:fF yv vJ f66 A5=true:=by kernel_rfl
def KT:=dj yv vJ A5
def aeK:Ct:=dl yv ZB func66 call66 rfl
def aiR(N:Nat)(a:PD):Oo:=aI (ltB 0 (bH a.q 1))<|aI (bC (0+(bH a.q 1)) 1000000)<|oF [PD.l ([]++a.q)]
theorem aeJ:dk N yv vJ A5 [a]=aiR N a:=by kernel_rfl
def CC:dO:=⟨[W1,W1,W1,W1],[],0,Qs,false⟩
def EP:List Ct:=[YX]
def GY:PL:=aa R2 jo (aa asM jo (aa JD jo (aa ain jo (aa R1 jo (aa (ay R6 dU) jo (aa (ay gK W5) jo (aa (ay R6 gK) jo (an 0 [W6,dU] (an 0 [W9,gK] (ai (aF [et,e7])))))))))))
theorem ag0:fF EP CC f87 GY=true:=by kernel_rfl
def oY:=dj EP CC GY
def zI:Ct:=dl EP ag0 func87 call87 rfl
def aco(N:Nat)(a b:PD):Oo:=oF [qi a,qi b]
def acn:Oo:=aB (C8 [qi a,qi b]) 1 fun r=>aco N c (gg r 0)
def arA:Oo:=bif ltB a.n 1 then oF [.i 0,.i 0]else bif ltB 128 a.n then oF [.i 0,.i 0]else bif ltB b.n 1 then oF [.i 0,.i 0]else bif ltB 128 b.n then oF [.i 0,.i 0]else bif ltB c.n 1 then oF [.i 0,.i 0]else bif ltB 64 c.n then oF [.i 0,.i 0]else bif ltB d.n 1 then oF [.i 0,.i 0]else bif ltB 64 d.n then oF [.i 0,.i 0]else aB (C8 [qi a,qi c]) 1 fun r=>acn N b d (gg r 0)
theorem ano:dk N EP CC GY [a,b,c,d]=arA N a b c d:=by kernel_rfl
def GW:dO:=⟨[W1,W1,W1,W1,W1],[],0,[Ai,W3],false⟩
def Kk:List Ct:=[zI]
def Pz:PL:=an 0 an3 (aa aC0 aGL (aa (aD (bf e7 fP) et) aGL (am adp (ai (aF [aGK,aGJ,jn (aG aGK dU) W6,jn (aG aGJ gK) W9,W5])))))
theorem ann:fF Kk GW f89 Pz=true:=by kernel_rfl
def acm:=dj Kk GW Pz
def arz:Ct:=dl Kk ann func89 call89 rfl
def akp(N:Nat)(a b c d e f g:PD):Oo:=
 let h:=aH ((aH (Int.tdiv e.n f.n))*d.n)
 let i:=aH ((Int.tmod e.n f.n)*c.n)
 bif ltB e.n 0 then oF [.i 0,.i 0,.i 0,.i 0,.i 0]else bif bC (aH (f.n*g.n)) e.n then oF [.i 0,.i 0,.i 0,.i 0,.i 0]else aI (cY (if f.n=0 then(0:Int)else 1) 0)<|oF [.i i,.i h,.i (lU (aH (i+c.n)) a.n),.i (lU (aH (h+d.n)) b.n),.i 1]
def azd:Oo:=aB (oY [qi a,qi b,qi c,qi d]) 2 fun r=>akp N a b c d e (gg r 0) (gg r 1)
theorem ary:dk N Kk GW Pz [a,b,c,d,e]=azd N a b c d e:=by kernel_rfl
def xQ:dO:=⟨[W1,W1,W1,Ak,W1,W1],[],0,kE,false⟩
def zU:List Ct:=[xH,CM]
def CQ:PL:=aa JD l5 (aa (ay uU W9) l5 (aa R1 l5 (aa (ay uU dU) l5 (aa aI0 l5 (an 0 [jd] (aa YJ mZ (aa aC0 mZ (aa ayP mZ (aa R2 kW (aa ayO kW (aa ax4 kW aIZ)))))))))))
theorem acM:fF zU xQ f132 CQ=true:=by kernel_rfl
def CR:=dj zU xQ CQ
def PX:Ct:=dl zU acM func132 call132 rfl
def Vl(N:Nat)(a:PD):Oo:=bif eqB a.n 0 then oF [.i 11]else oF [.i 0]
def Vk:Oo:=bif cY (if e.n=0 then(0:Int)else 1) 0 then oF [.i 10]else bif ltB c.n 0 then oF [.i 10]else bif ltB 24 c.n then oF [.i 10]else bif ltB a.n 1 then oF [.i 2]else bif ltB 4294967296 a.n then oF [.i 2]else bif ltB d.n 1 then oF [.i 2]else bif ltB 4294967296 d.n then oF [.i 2]else aB (mN [ql b,.i 0,qi a]) 3 fun r=>Vl N (gg r 2)
def akx:Oo:=bif ltB b.n 1 then oF [.i 9]else bif ltB 9 b.n then oF [.i 9]else bif ltB c.n 1 then oF [.i 9]else bif ltB 9 c.n then oF [.i 9]else bif cY (if(bH d.q 1)=(aH (b.n*c.n))then(0:Int)else 1) 0 then oF [.i 9]else aB (nr [ql d]) 1 fun r=>Vk N a d e f (gg r 0)
theorem ahm:dk N zU xQ CQ [a,b,c,d,e,f]=akx N a b c d e f:=by kernel_rfl
def xP:dO:=⟨[vq,Kn,W1,W1],[],0,kE,false⟩
def zT:List Ct:=[zX]
def CP:PL:=aa axZ asx (aa (aD W6 fP) asx (aa (ay dq aJ) asx (aa (aD W9 dq) asx (am (aD aJ aCY) (am (ay aCY Fw) (ai (aF [aq jd aCY 1 0])))))))
theorem acL:fF zT xP f133 CP=true:=by kernel_rfl
def PW:=dj zT xP CP
def ahl:Ct:=dl zT acL func133 call133 rfl
def Vj(N:Nat)(a b c d e f g:PD):Oo:=
 let h:=aH ((aH (f.n*a.n))+d.n)
 bif eqB e.n 0 then oF [qi c]else bif eqB g.n 0 then oF [qi c]else aI (bC 0 h)<|aI (ltB h (bH b.q 1))<|oF [.i ((el b.q h 1 0).n)]
def o7:Oo:=aB (gw [qi f,qi b,qi d]) 2 fun r=>Vj N a c e g h (gg r 0) (gg r 1)
def Yi(N:Nat)(a b c d e f g h:PD):Oo:=
 let i:=gw [qi g,qi a,qi e]
 let j:=aH ((aH (h.n*a.n))+g.n)
 bif ltB g.n 0 then aB i 2 fun r=>o7 N a b d e f h (gg r 0) (gg r 1)else bif bC a.n g.n then aB i 2 fun r=>o7 N a b d e f h (gg r 0) (gg r 1)else bif ltB h.n 0 then aB i 2 fun r=>o7 N a b d e f h (gg r 0) (gg r 1)else bif bC b.n h.n then aB i 2 fun r=>o7 N a b d e f h (gg r 0) (gg r 1)else aI (bC 0 j)<|aI (ltB j (bH d.q 1))<|oF [.i ((el d.q j 1 0).n)]
theorem ahk:dk N zT xP CP [a,b,c,d,e,f,g,h]=Yi N a b c d e f g h:=by kernel_rfl
end
noncomputable section
open Go Go.RowKit Tryz
set_option maxRecDepth 100000
variable (N:Nat)(a b c d e f g h i j k l m n o p q s t u v w x y z A B C D E F G H I J K L M O P Q R T U9 V9 W Y Z:PD)
def BT:dO:=⟨[vq,vq,W1,W1],[],0,[vq,W3],false⟩
def D5:List Ct:=[hD,apf]
def Gi:PL:=an 0 RQ (aa ayN ac7 (an 0 [et,e7,fP,qS] (aa adg ac7 (aa (ay lH aJ) ac7 (aa (ay (aQ W6 et) lH) ac7 (aa (ay fb aJ) ac7 (aa (ay (aQ W9 e7) fb) ac7 (an 1 [qS] (aa (ay dU fj) ac7 (am (ay aJ Fw) (am (aD (d8 aJ Fw) f_) (aT 9 20 ⟨(u2 (Hq::(lM::(vm::(axr::(u2 (Fg::(u1 (mV::(iO (iY (u4 (u2 (W30::(YB::(iO JB)))))))))))))))),[(11,W37),l4,(12,aCX),iZ,(13,Ho),aGH,aGG],20⟩ ⟨[cW cn jd,aJ],[]⟩ ⟨la,⟨(u8 (Fg::(u1 (mV::(u64 aoJ))))),[(13,Ho),aGH,aGG],20⟩,1⟩ dN (aa (ay i8 e7) (am (aD aJ an1) (am (aD an1 aCW) (am (aD aCW asw) (am (aD aJ aCV) (am (aD aCV aCU) (am (aD aCU Jv) (aa (aD (bF axq 1) aCT) (ai (aL ⟨[oN hO an1 axq,asv],[]⟩)) (am (aD aCT (bF axq 1)) (ai (aL ⟨[oN hO an1 (ic axq aJ aCT 1),asv],[]⟩)))))))))) (ai (bE 0 ⟨[hO],[]⟩))) (ai (aF [W6,W9,dU,hO,W5])) dL))))))))))))
theorem afS:fF D5 BT f49 Gi=true:=by kernel_rfl
def TV:=dj D5 BT Gi
def amB:Ct:=dl D5 afS func49 call49 rfl
def D6(N:Nat)(a b c d e f g h:PD):Oo:=
 let i:=aH ((aH ((aH (f.n+h.n))*a.n))+e.n)
 let j:=aH (i+b.n)
 let k:=aH (h.n+1)
 let l:=aH (h.n*b.n)
 let m:=iv d.q l (aH (k*b.n)) 1
 bif ltB h.n c.n then aI (bC 0 i)<|aI (bC i j)<|aI (bC j (bH g.q 1))<|aI (bC 0 l)<|aI (bC l (aH (k*b.n)))<|aI (bC (aH (k*b.n)) (bH d.q 1))<|bif bC (bH m 1) (j-i)then oA [PD.l (vg g.q i m),.i k]else aI (bC (j-i) (bH m 1))<|oA [PD.l (vg g.q i (iv m 0 (j-i) 1)),.i k]else oB 0 [g]
def ap6(N:Nat)(a b c d:PD):Oo:=oF [qi a,qi b,qi c,ql d,.i 1]
def aaY:Oo:=bif ltB c.n j.n then oF [.i 0,.i 0,.i 0,PD.l [],.i 0]else aI (ltB 0 (bH d.q 1))<|aI (bC (0+(bH d.q 1)) 1000000)<|bi (aO (fun S=>D6 N a e f g h i (gg S 0) (gg S 1)) N [PD.l ([]++d.q),.i 0]) (fun X=>ap6 N a b c (gg X 0)) (fun X=>none)
def aaX:Oo:=bif eqB j.n 0 then oF [.i 0,.i 0,.i 0,PD.l [],.i 0]else bif ltB h.n 0 then oF [.i 0,.i 0,.i 0,PD.l [],.i 0]else bif ltB (aH (a.n-e.n)) h.n then oF [.i 0,.i 0,.i 0,PD.l [],.i 0]else bif ltB i.n 0 then oF [.i 0,.i 0,.i 0,PD.l [],.i 0]else bif ltB (aH (b.n-f.n)) i.n then oF [.i 0,.i 0,.i 0,PD.l [],.i 0]else aB (Zy [ql g]) 1 fun r=>aaY N a b c d e f g h i (gg r 0)
def aaW:Oo:=bif eqB k.n 0 then oF [.i 0,.i 0,.i 0,PD.l [],.i 0]else aB (eD [qi e,qi f,qi g,ql h]) 1 fun r=>aaX N a b c d e f h i j (gg r 0)
def ap7:Oo:=aB (eD [qi a,qi b,qi c,ql d]) 1 fun r=>aaW N a b c d e f g h i j (gg r 0)
theorem amA:dk N D5 BT Gi [a,b,c,d,e,f,g,h,i,j]=ap7 N a b c d e f g h i j:=by kernel_rfl
end
noncomputable section
open Go Go.RowKit Tryz
set_option maxRecDepth 100000
variable (N:Nat)(a b c d e f g h i j k l m n o p q s t u v w x y z A B C D E F G H I J K L M O P Q R T U9 V9 W Y Z:PD)
def CO:dO:=⟨[vq,Kn,W1,W1,Ak,W1,W1,Ai],[],0,Jt,false⟩
def E3:List Ct:=[hD,zW,PX,jB,jT,ahl,mM,zO]
def Hg:PL:=an 0 RQ (aa R4 Ah (an 1 [et,e7,dU] (aa aod Ah (an 2 [dU,fP,dq,gR,fb,fT] (aa asW axp (an 3 asu (aa (aC eh) qc (an 4 axo (aa aCS qc (am axn (am axm (aT 11 27 ⟨aGF,[Qh,nO,l4,uN,Jq,rK,(25,a_ 0 39 [uM,vl,sH,bQ 27 1 aJ CW]),(27,ast)],28⟩ ⟨[fj,ahN],[(27,some 26)]⟩ ⟨la,⟨(iY (kV::(u2 (x6::(u64 (iO (iY W46))))))),[rK,(25,a_ 0 39 [uM,vl,sH,bQ 27 1 aJ ac6]),(27,axl)],28⟩,1⟩ dN (aa (ay eE i8) (aT 14 28 ⟨(u2 (p7::(rN::(Jr::(lM::(jv::(u1 (uO::(mV::(u4 (u1 (Fe::(kV::(u2 (x6::(xZ::(RP::(u64 air)))))))))))))))))),ass,29⟩ ⟨[eK,jJ],[(28,some 27)]⟩ ⟨qg,⟨aGF,[Qh,nO,l4,uN,Jq,rK,(25,a_ 0 39 [uM,vl,sH,bQ 28 1 aJ asr]),(28,asq)],29⟩,1⟩ dN (aa (ay gQ i9) (aT 18 29 ⟨(u2 (p7::(rN::(Jr::(lM::(jv::(u1 (uO::(mV::(u4 (u1 (Fe::(kV::(u2 (x6::(xZ::(RP::(oR::aGC)))))))))))))))))),ass,29⟩ aih ⟨YF,⟨(u2 (p7::(rN::(Jr::(lM::(jv::(u1 (uO::(mV::(u4 (u1 (Fe::(kV::(u2 (x6::(xZ::(RP::(oR::(u64 R7))))))))))))))))))),ass,29⟩,1⟩ dN (aa (ay gZ dq) (aT 21 29 ⟨(u2 (p7::(rN::(Jr::(lM::(jv::(u1 (uO::(mV::(u4 (u1 (Fe::(kV::(u2 (x6::(xZ::(RP::(ac4::(sB::(u64 (u8 (rN::(sB::(u2 (p7::(ahM::aim)))))))))))))))))))))))))),ass,29⟩ ⟨[iy,aJ],[]⟩ ⟨fC 6,⟨(u2 (p7::(rN::(Jr::(lM::(jv::(u1 (uO::(mV::(u4 (u1 (Fe::(kV::(u2 (x6::(xZ::(RP::(ac4::aGC)))))))))))))))))),ass,29⟩,1⟩ dN (aa (ay i7 fP) (am (aD aJ aCR) (am (ay aCR ah7) (an 5 [W6,W9,dU,jd,et,e7,aQ (aG gQ i7) (dD fP fv),aQ (aG eE gZ) (dD dq fv)] (ai (aL ⟨[aG mX (bf (aq gR aCR 1 0) gf),asp],[]⟩))))) (ai (bE 0 ⟨[mX],[]⟩))) (ai (aL ⟨[mX,RO],[]⟩)) dL) aG0) (an 6 [iy,fb] (an 7 [gZ,fT] (am (aD (d8 ac5 W5) f_) (ai (aL ⟨[axk,cW Ag (ao cn mX)],[(28,some 32)]⟩))))) dL) (ai (bE 0 ⟨[Ag],[(28,some 28)]⟩))) (ai (aL ⟨[aG eE W5,x7],[(27,some 28)]⟩)) dL) (ai (bE 0 ⟨[jJ],aso⟩))) aGB dL))))))))))))
theorem ahj:fF E3 CO f80 Hg=true:=by kernel_rfl
def zR:=dj E3 CO Hg
def Vc:Ct:=dl E3 ahj func80 call80 rfl
def acJ(N:Nat)(a b c d e f:PD):Oo:=oA [.i (aH (d.n+(aH (((el b.q (aH ((aH (c.n*a.n))+e.n)) 1 0).n)*f.n)))),.i (aH (e.n+1))]
def xO:Oo:=
 let o:=aH ((aH (l.n*g.n))+n.n)
 bif ltB n.n g.n then aI (bC 0 o)<|aI (ltB o (bH i.q 1))<|aB (PW [qi a,qi b,qi c,ql d,qi e,qi f,.i (aH ((aH (k.n+n.n))-(aH (Int.tdiv g.n 2)))),.i (aH ((aH (j.n+l.n))-(aH (Int.tdiv h.n 2))))]) 1 fun r=>acJ N g i l m n (gg r 0)else oB 0 [qi m]
def acI(N:Nat)(a b:PD):Oo:=oA [qi b,.i (aH (a.n+1))]
def pW:Oo:=bif ltB m.n h.n then bi (aO (fun S=>xO N a b c d e f g h i j k m (gg S 0) (gg S 1)) N [qi l,.i 0]) (fun X=>acI N m (gg X 0)) (fun X=>none)else oB 0 [qi l]
def acH(N:Nat)(a b c:PD):Oo:=aI (bC ((bH b.q 1)+1) 1000000)<|oA [.i (aH (a.n+1)),PD.l (b.q++([]++[qi c]))]
def acG:Oo:=aB (o0 [qi d,qi a]) 1 fun r=>acH N b c (gg r 0)
def acF:Oo:=aB (gX [qi e,qi a]) 1 fun r=>acG N b c d (gg r 0)
def E4:Oo:=bif ltB n.n l.n then bi (aO (fun S=>pW N a b c d e f g h i m n (gg S 0) (gg S 1)) N [.i 0,.i 0]) (fun X=>acF N j k n o (gg X 0)) (fun X=>none)else oB 0 [o]
def acE(N:Nat)(a b:PD):Oo:=oA [.i (aH (a.n+1)),b]
def zS:Oo:=bif ltB o.n n.n then bi (aO (fun S=>E4 N a b c d e f g h i j k m o (gg S 0) (gg S 1)) N [qi l,p]) (fun X=>acE N o (gg X 0)) (fun X=>none)else oB 0 [p]
def Vi(N:Nat)(a b c d e f:PD):Oo:=oF [.i (aH (d.n-b.n)),.i (aH (e.n-c.n)),qi a,ql f,.i 0]
def Vh:Oo:=
 let q:=aH ((aH (n.n-l.n))*(aH (o.n-m.n)))
 bif eqB p.n 0 then oF [.i 0,.i 0,.i 0,PD.l [],.i 8]else aI (bC 0 q)<|aI (bC q 1000000)<|bi (aO (fun S=>zS N a b c d e f g h i j k l n o (gg S 0) (gg S 1)) N [qi m,PD.l (List.replicate (Int.toNat 0) (PD.i 0))]) (fun X=>Vi N k l m n o (gg X 0)) (fun X=>none)
def Vg:Oo:=bif cY p.n 0 then oF [.i 0,.i 0,.i 0,PD.l [],.i 8]else aB (iC [qi l,qi m,qi n,qi o,.i 0,.i 0,qi a,qi b]) 1 fun r=>Vh N a b c d e f g h i j k l m n o (gg r 0)
def Vf:Oo:=bif cY (if p.n=0 then(0:Int)else 1) 0 then oF [.i 0,.i 0,.i 0,PD.l [],qi p]else aB (gW [qi l,qi m,qi n,qi o]) 1 fun r=>Vg N a b c d e f g h i j k l m n o (gg r 0)
def Ve:Oo:=bif eqB p.n 0 then oF [.i 0,.i 0,.i 0,PD.l [],.i 1]else aB (CR [qi c,qi g,qi h,ql i,qi j,qi k]) 1 fun r=>Vf N a b c d e f g h i j k l m n o (gg r 0)
def Vd:Oo:=bif eqB p.n 0 then oF [.i 0,.i 0,.i 0,PD.l [],.i 1]else aB (o8 [qi e,qi f,qi c]) 1 fun r=>Ve N a b c d e f g h i j k l m n o (gg r 0)
def arU:Oo:=aB (eD [qi a,qi b,qi c,ql d]) 1 fun r=>Vd N a b c d e f g h i j k l m n o (gg r 0)
theorem anE:dk N E3 CO Hg [a,b,c,d,e,f,g,h,i,j,k,l,m,n,o]=arU N a b c d e f g h i j k l m n o:=by kernel_rfl
end
noncomputable section
open Go Go.RowKit Tryz
set_option maxRecDepth 100000
variable (N:Nat)(a b c d e f g h i j k l m n o p q s t u v w x y z A B C D E F G H I J K L M O P Q R T U9 V9 W Y Z:PD)
def vI:dO:=⟨[W1,Ak,Ak,W1,W1,W1],[],0,kE,false⟩
def yu:List Ct:=[xH,CM,mM]
def A3:PL:=aa (bL W58 aJ) l5 (aa (ay uU W58) l5 (aa aEg l5 (aa (ay uU YR) l5 (an 0 [dT] (aa YJ mZ (an 0 [ie] (aa ado mZ (aa aia mZ (aa (ay Qp gK) mZ (aa aC0 mZ (aa ayP mZ (aa R2 kW (aa ayO kW (aa ax4 kW aIY))))))))))))))
theorem Zx:fF yu vI f136 A3=true:=by kernel_rfl
def A4:=dj yu vI A3
def KP:Ct:=dl yu Zx func136 call136 rfl
def SF(N:Nat)(a:PD):Oo:=bif eqB a.n 0 then oF [.i 11]else oF [.i 0]
def SE:Oo:=aB (mN [ql a,qi b,qi c]) 3 fun r=>SF N (gg r 2)
def SD:Oo:=aB (gX [qi c,qi b]) 1 fun r=>SE N a d (gg r 0)
def SA:Oo:=bif eqB e.n 0 then oF [.i 11]else aB (gX [qi c,qi b]) 1 fun r=>SD N a b d (gg r 0)
def Sx:Oo:=bif cY (if g.n=0 then(0:Int)else 1) 0 then oF [.i 10]else bif ltB d.n 0 then oF [.i 10]else bif ltB 24 d.n then oF [.i 10]else bif ltB e.n 0 then oF [.i 10]else bif ltB 24 e.n then oF [.i 10]else bif ltB a.n 1 then oF [.i 2]else bif ltB 4294967296 a.n then oF [.i 2]else bif ltB f.n 1 then oF [.i 2]else bif ltB 4294967296 f.n then oF [.i 2]else aB (mN [ql b,.i 0,qi a]) 3 fun r=>SA N c d (gg r 0) (gg r 1) (gg r 2)
def Sw:Oo:=bif cY (if g.n=0 then(0:Int)else 1) 0 then oF [.i 10]else aB (nr [ql c]) 1 fun r=>Sx N a b c d e f (gg r 0)
def aiP:Oo:=bif eqB (bH b.q 1) 0 then oF [.i 9]else bif ltB 9 (bH b.q 1)then oF [.i 9]else bif eqB (bH c.q 1) 0 then oF [.i 9]else bif ltB 9 (bH c.q 1)then oF [.i 9]else aB (nr [ql b]) 1 fun r=>Sw N a b c d e f (gg r 0)
theorem aeF:dk N yu vI A3 [a,b,c,d,e,f]=aiP N a b c d e f:=by kernel_rfl
def ta:dO:=⟨[vq,Kn,W1,W1,W1],[],0,[Ak],false⟩
def tb:List Ct:=[zX]
def vH:PL:=am axS (am (aD lH f_) (an 0 [dq,W9,et] (aT 4 15 ⟨(u2 (p7::(u2 (axj::(vm::(u4 (aGA::(lM::((aV (aE (bv as2)))::(u8 (u4 (u2 (u1 ((aV (aE (ax aGz)))::(aEY::aol))))))))))))))),[(10,W37),l4,(11,aGE),(12,axi)],15⟩ ⟨[gP lH aJ,aJ],[]⟩ ⟨la,⟨(u8 (u2 (u1 (aGA::R7)))),[(12,axi)],15⟩,1⟩ dN (aa (ay fj aGz) (an 0 [aG fP fj,W6,et] (aa (aC i8) (aa as2 (am (aD aJ aCQ) (am (ay aCQ Fw) (am ata (am (ay fj Fd) (ai (aL ⟨[bW CY fj 1 0 (aq jd aCQ 1 0),as'],[]⟩)))))) aGy) aGy)) (ai (bE 0 ⟨[CY],[]⟩))) (ai (aF [CY])) dL)))
theorem V6:fF tb ta f137 vH=true:=by kernel_rfl
def HK:=dj tb ta vH
def Zv:Ct:=dl tb V6 func137 call137 rfl
def KO(N:Nat)(a b c d e f g h i:PD):Oo:=
 let j:=aH ((aH (d.n*a.n))+h.n)
 let k:=ltB g.n (bH f.q 1)
 let l:=aH (g.n+1)
 let m:=cM f.q g.n 1 0 (qi c)
 let n:=bC 0 g.n
 bif cY i.n 0 then bif cY e.n 0 then aI (bC 0 j)<|aI (ltB j (bH b.q 1))<|aI n<|aI k<|oA [PD.l (cM f.q g.n 1 0 (PD.i ((el b.q j 1 0).n))),.i l]else aI n<|aI k<|oA [PD.l m,.i l]else aI n<|aI k<|oA [PD.l m,.i l]
def tc:Oo:=bif ltB j.n (bH (List.replicate (Int.toNat f.n) (PD.i 0)) 1)then aB (gw [.i (aH (e.n+j.n)),qi a,qi c]) 2 fun r=>KO N a b d g h i j (gg r 0) (gg r 1)else oB 0 [i]
def KN(N:Nat)(a:PD):Oo:=oF [ql a]
def KM:Oo:=bi (aO (fun S=>tc N a b c d e f g h (gg S 0) (gg S 1)) N [PD.l (List.replicate (Int.toNat f.n) (PD.i 0)),.i 0]) (fun X=>KN N (gg X 0)) (fun X=>none)
def Zw(N:Nat)(a b c d e f g h i:PD):Oo:=aI (bC 0 i.n)<|aI (bC i.n 1000000)<|aB (gw [qi h,qi b,qi e]) 2 fun r=>KM N a d e f g i (gg r 0) (gg r 1)
theorem Zu:dk N tb ta vH [a,b,c,d,e,f,g,h,i]=Zw N a b c d e f g h i:=by kernel_rfl
def vE:dO:=⟨[Hw,W1],[],0,kE,false⟩
def yn:List Ct:=[]
def AY:PL:=aa JD JH (aa ain JH (aa aER JH (aa (ay W8 vr) JH (aT 4 3 ⟨(iY (u8 (u1 aGx))),[ayM],3⟩ Fk ⟨la,⟨axh,[],3⟩,0⟩ ⟨qT,⟨(u4 (AL::YQ)),[],4⟩,1⟩ (aa (ay dU vr) (am W69 (aa (bL aoH aJ) ayK (aa (ay qk aoH) ayK (aT 9 4 ⟨(u4 (u2 (l6::(iY (u2 (Ju::(an0::(AL::(u8 (u4 (u2 ((aV (aE aGw))::((aV (aE (ax aoH)))::(aoE::JF)))))))))))))),aGv,4⟩ Fk ⟨qg,⟨(u4 (u2 (l6::(iY (u2 aGx))))),aGv,4⟩,0⟩ ⟨qT,⟨(u4 ((aV (aE (eB 10)))::YQ)),[],4⟩,0⟩ (aa (ay gK aoH) (am adv (aa (ay (aq ayL gK 1 0) (aR (-32767))) l7 (aa (ay (aR 32767) (aq ayL gK 1 0)) l7 aCP))) C1) aIW qj)))) C1) dp ayJ))))
theorem Zd:fF yn vE f195 AY=true:=by kernel_rfl
def AZ:=dj yn vE AY
def aev:Ct:=dl yn Zd func195 call195 rfl
def yp(N:Nat)(a b c:PD):Oo:=
 let d:=(el a.q b.n 2 1).q
 let e:=(el d c.n 1 0).n
 bif ltB c.n (bH d 1)then aI (bC 0 c.n)<|bif ltB e (-32767)then oB 1 []else bif ltB 32767 e then oB 1 []else oA [.i (aH (c.n+1))]else oB 0 []
def Se(N:Nat)(a b:PD):Oo:=
 let c:=(el a.q b.n 2 0).n
 bif bC (-128) c then bif ltB 256 c then oB 1 [.i 2]else oA [.i (aH (b.n+1))]else oB 1 [.i 2]
def alw(N:Nat):Oo:=oB 1 [.i 10]
def yo:Oo:=
 let c:=bH ((el a.q b.n 2 1).q) 1
 bif ltB b.n (bH a.q 2)then aI (bC 0 b.n)<|bif eqB c 0 then oB 1 [.i 9]else bif ltB 8 c then oB 1 [.i 9]else bi (aO (fun S=>yp N a b (gg S 0)) N [.i 0]) (fun X=>Se N a b) (fun X=>alw N)else oB 0 []
def alv(N:Nat):Oo:=oF [.i 0]
def alu(N:Nat)(a:PD):Oo:=oF [qi a]
def aiL:Oo:=bif ltB b.n 1 then oF [.i 8]else bif ltB 128 b.n then oF [.i 8]else bif eqB (bH a.q 2) 0 then oF [.i 8]else bif ltB 128 (bH a.q 2)then oF [.i 8]else bi (aO (fun S=>yo N a (gg S 0)) N [.i 0]) (fun X=>alv N) (fun X=>alu N (gg X 0))
theorem aeu:dk N yn vE AY [a,b]=aiL N a b:=by kernel_rfl
def FP:dO:=⟨[Hw,Hw,W1,W1],[],0,kE,false⟩
def JX:List Ct:=[CM,mM]
def Lj:PL:=aT 3 5 ⟨(u1 (W62::(AL::(aoE::(u4 (u1 (nB::(W30::(u8 (u2 (Ju::(an0::(p7::(iO Am)))))))))))))),[(1,bZ false oS dT),ayM],5⟩ ayR ⟨la,⟨(u1 (W62::(u4 (u2 (u1 (nB::(W30::(iO (iY JF))))))))),aGu,5⟩,2⟩ aGt (aa (ay fP vr) (am aiq (an 0 [aq mb fP 2 1,aJ,dU] (aa ady l7 (an 1 [dq,gK] (an 1 [lH,gK] (aa Hx (ai (aL ⟨[jn fT fT,fH eK eK,aip],[]⟩)) (ai (aL ⟨[jn et fT,fH e7 eK,aip],[]⟩)))))))) aI4) (aT 14 5 ⟨(u8 (u1 (nB::(W30::(iO (u8 (u4 (u1 (W62::((aV (aE (ax (bF dT 2))))::(p7::JF))))))))))),aGu,5⟩ Fk ⟨qg,⟨(u64 W31),[],5⟩,0⟩ aGt (aa (ay fP (bF dT 2)) (am aiq (an 0 [aq dT fP 2 1,et,e7] (aa ady l7 aC2))) C1) dp adw) adw
theorem al2:fF JX FP f196 Lj=true:=by kernel_rfl
def ZR:=dj JX FP Lj
def apt:Ct:=dl JX al2 func196 call196 rfl
def ai4(N:Nat)(a b c d e:PD):Oo:=bif eqB c.n 0 then oA [.i (lU d.n d.n),.i (gI e.n e.n),.i (aH (c.n+1))]else oA [.i (lU a.n d.n),.i (gI b.n e.n),.i (aH (c.n+1))]
def ai3:Oo:=aB (gX [qi e,qi a]) 1 fun r=>ai4 N b c d f (gg r 0)
def ai2:Oo:=bif eqB g.n 0 then oB 1 []else aB (gX [qi e,qi a]) 1 fun r=>ai3 N a b c d f (gg r 0)
def tg:Oo:=bif ltB f.n (bH a.q 2)then aI (bC 0 f.n)<|aB (mN [PD.l ((el a.q f.n 2 1).q),.i 0,qi b]) 3 fun r=>ai2 N c d e f (gg r 0) (gg r 1) (gg r 2)else oB 0 [qi d,qi e]
def ai1(N:Nat)(a b:PD):Oo:=bif eqB b.n 0 then oB 1 []else oA [.i (aH (a.n+1))]
def JY:Oo:=bif ltB d.n (bH a.q 2)then aI (bC 0 d.n)<|aB (mN [PD.l ((el a.q d.n 2 1).q),qi b,qi c]) 3 fun r=>ai1 N d (gg r 2)else oB 0 []
def avo(N:Nat):Oo:=oF [.i 0]
def ai0(N:Nat):Oo:=oF [.i 11]
def aiZ:Oo:=bi (aO (fun S=>JY N a b c (gg S 0)) N [.i 0]) (fun X=>avo N) (fun X=>ai0 N)
def ay0:Oo:=bi (aO (fun S=>tg N a c d (gg S 0) (gg S 1) (gg S 2)) N [.i 0,.i 0,.i 0]) (fun X=>aiZ N b (gg X 0) (gg X 1)) (fun X=>ai0 N)
theorem aps:dk N JX FP Lj [a,b,c,d]=ay0 N a b c d:=by kernel_rfl
def vS:dO:=⟨[uT,Hw,Hw,W1,W1,W1],[],0,kE,false⟩
def yE:List Ct:=[aev,C7,apt]
def Bf:PL:=an 0 [jd,W6] (aa (aC W78) ayI (an 0 [jp,W9] (aa aE0 (ai (aF [fb])) (an 1 [atd,x_,W12] (aa adg JH (aa (ay e7 aJ) mZ (aa (ay Qp e7) mZ (aa axZ mZ (aa (ay Qp fP) mZ (aa R1 kW (aa aoG kW (aa (ay dq W5) kW (aa (ay W15 dq) kW (an 2 [jd,jp,dU,e7] (ai (aF [fj]))))))))))))))))
theorem ZQ:fF yE vS f138 Bf=true:=by kernel_rfl
def Bg:=dj yE vS Bf
def Li:Ct:=dl yE ZQ func138 call138 rfl
def S7(N:Nat)(a:PD):Oo:=oF [qi a]
def S6:Oo:=bif eqB g.n 0 then oF [.i 8]else bif ltB d.n 0 then oF [.i 10]else bif ltB 24 d.n then oF [.i 10]else bif ltB e.n 0 then oF [.i 10]else bif ltB 24 e.n then oF [.i 10]else bif ltB a.n 1 then oF [.i 2]else bif ltB 4294967296 a.n then oF [.i 2]else bif ltB f.n 1 then oF [.i 2]else bif ltB 4294967296 f.n then oF [.i 2]else aB (ZR [ql b,ql c,qi a,qi d]) 1 fun r=>S7 N (gg r 0)
def S5:Oo:=bif cY (if g.n=0 then(0:Int)else 1) 0 then oF [qi g]else aB (sR [.i (bH b.q 2),.i (bH c.q 2),.i 4096]) 2 fun r=>S6 N a b c d e f (gg r 1)
def S3:Oo:=bif cY (if h.n=0 then(0:Int)else 1) 0 then oF [qi h]else aB (AZ [ql d,qi a]) 1 fun r=>S5 N b c d e f g (gg r 0)
def aiY:Oo:=aB (AZ [ql d,qi a]) 1 fun r=>S3 N b c d e f g h (gg r 0)
theorem ae8:dk N yE vS Bf [a,b,c,d,e,f,g,h]=aiY N a b c d e f g h:=by kernel_rfl
def vR:dO:=⟨[vq,Kn,W1,W1],[],0,kE,false⟩
def yD:List Ct:=[zX]
def Bd:PL:=asx
theorem ZP:fF yD vR f140 Bd=true:=by kernel_rfl
def Be:=dj yD vR Bd
def ae7:Ct:=dl yD ZP func140 call140 rfl
def S2(N:Nat)(a b c d e f g:PD):Oo:=
 let h:=aH ((aH (f.n*a.n))+d.n)
 bif eqB e.n 0 then oF [qi c]else bif eqB g.n 0 then oF [qi c]else aI (bC 0 h)<|aI (ltB h (bH b.q 1))<|oF [.i ((el b.q h 1 0).n)]
def S1:Oo:=aB (gw [qi f,qi b,qi d]) 2 fun r=>S2 N a c e g h (gg r 0) (gg r 1)
def We(N:Nat)(a b c d e f g h:PD):Oo:=aB (gw [qi g,qi a,qi e]) 2 fun r=>S1 N a b d e f h (gg r 0) (gg r 1)
theorem ae6:dk N yD vR Bd [a,b,c,d,e,f,g,h]=We N a b c d e f g h:=by kernel_rfl
def GQ:dO:=⟨W2,[],0,kE,false⟩
def Kj:List Ct:=[]
def Pj:PL:=aa JD dp (aa aEy dp (aa aoF dp (aa (ay W9 W6) dp (aa R1 dp (aa (ay W8 dU) dp (am (aC (aY aE' aJ 3)) (ai (aF [dD (bf W6 dU) aE']))))))))
theorem aoS:fF Kj GQ f96 Pj=true:=by kernel_rfl
def ab0:=dj Kj GQ Pj
def aru:Ct:=dl Kj aoS func96 call96 rfl
def ay'(N:Nat)(a b c:PD):Oo:=bif ltB b.n 1 then oF [.i 0]else bif ltB 4294967296 b.n then oF [.i 0]else bif ltB a.n 0 then oF [.i 0]else bif ltB b.n a.n then oF [.i 0]else bif ltB c.n 1 then oF [.i 0]else bif ltB 128 c.n then oF [.i 0]else aI (cY (if(aH (b.n+1))=0 then(0:Int)else 1) 0)<|oF [.i (aH (Int.tdiv (aH (a.n*c.n)) (aH (b.n+1))))]
theorem art:dk N Kj GQ Pj [a,b,c]=ay' N a b c:=by kernel_rfl
def rF:dO:=⟨[vq,W1,Ai],[],0,adm,false⟩
def qK:List Ct:=[hD,jB,jT,aru]
def uh:PL:=an 0 RQ (aa ady (ai (aF [cn,W5])) (aa (ay et W5) aDB (aa (ay W8 et) aDB (an 1 [e7,fP,dq,lH] (aa as2 RW (an 2 [e7,fP,dq,lH,aJ,aJ,W6,W9] (aa adg RW (am R5 (am (aD et f_) (aT 9 16 ⟨(u1 (nB::(u1 (axj::(u1 (vm::(u2 (aGs::(asn::(u64 (u2 JB))))))))))),[(10,W37),l4,aGr,(15,axg)],16⟩ ⟨[gP et aJ,fP],[]⟩ ⟨la,⟨(u8 (aGs::aDE)),[(15,axg)],16⟩,1⟩ dN (aa (ay i9 lH) (am (aD aJ asm) (am (aD asm asl) (am (aD asl Fw) (aT 12 16 ⟨(u1 (nB::(u1 (axj::(u1 (vm::(u2 (aGp::(asn::(iO (iY (u1 ((aV (aE (cK 3 (E8 lm asm asl 1))))::((aV (aE (ax aGo)))::(RN::JF))))))))))))))),aGm,16⟩ ⟨[Qf,aJ],[]⟩ ⟨qg,⟨(u1 (nB::(u1 (axj::(u1 (vm::(u2 (aGp::(asn::(u64 (u2 JB))))))))))),aGm,16⟩,1⟩ dN (aa (ay fI aGo) (am aCO (an 3 [aq (ic jd asm asl 1) fI 1 0,dU,et] (am (aD aJ kD) (am (ay kD axf) (ai (aL ⟨[bW iJ kD 1 0 (aG (aq iJ kD 1 0) W5),aCN],[]⟩)))))) aGl) (ai (aL ⟨[iJ,aG i9 W5],[]⟩)) dL)))) (ai (bE 0 ⟨[Qf],[]⟩))) (ai (aF [Qf,aJ])) dL))))))))))
theorem RB:fF qK rF f41 uh=true:=by kernel_rfl
def ov:=dj qK rF uh
def EF:Ct:=dl qK RB func41 call41 rfl
def Iy(N:Nat)(a b c:PD):Oo:=aI (bC 0 c.n)<|aI (ltB c.n (bH a.q 1))<|oA [PD.l (cM a.q c.n 1 0 (PD.i (aH (((el a.q c.n 1 0).n)+1)))),.i (aH (b.n+1))]
def qM:Oo:=
 let j:=iv c.q (aH ((aH (g.n*a.n))+e.n)) (aH ((aH (g.n*a.n))+f.n)) 1
 bif ltB i.n (bH j 1)then aI (bC 0 i.n)<|aB (ab0 [.i ((el j i.n 1 0).n),qi b,qi d]) 1 fun r=>Iy N h i (gg r 0)else oB 0 [h]
def Ix(N:Nat)(a b:PD):Oo:=oA [b,.i (aH (a.n+1))]
def qL:Oo:=
 let j:=aH (i.n*a.n)
 bif ltB i.n g.n then aI (bC 0 (aH (j+e.n)))<|aI (bC (aH (j+e.n)) (aH (j+f.n)))<|aI (bC (aH (j+f.n)) (bH c.q 1))<|bi (aO (fun S=>qM N a b c d e f i (gg S 0) (gg S 1)) N [h,.i 0]) (fun X=>Ix N i (gg X 0)) (fun X=>none)else oB 0 [h]
def Iw(N:Nat)(a:PD):Oo:=oF [ql a,.i 0]
def Iv:Oo:=bif eqB i.n 0 then oF [PD.l [],.i 8]else aI (bC 0 d.n)<|aI (bC d.n 1000000)<|bi (aO (fun S=>qL N a b c d e g h (gg S 0) (gg S 1)) N [PD.l (List.replicate (Int.toNat d.n) (PD.i 0)),qi f]) (fun X=>Iw N (gg X 0)) (fun X=>none)
def Iu:Oo:=bif cY j.n 0 then oF [PD.l [],.i 8]else aB (iC [qi f,qi g,qi h,qi i,.i 0,.i 0,qi a,qi b]) 1 fun r=>Iv N a c d e f g h i (gg r 0)
def It:Oo:=bif eqB j.n 0 then oF [PD.l [],.i 1]else bif ltB e.n 1 then oF [PD.l [],.i 9]else bif ltB 128 e.n then oF [PD.l [],.i 9]else aB (gW [qi f,qi g,qi h,qi i]) 1 fun r=>Iu N a b c d e f g h i (gg r 0)
def UN:Oo:=aB (eD [qi a,qi b,qi c,ql d]) 1 fun r=>It N a b c d e f g h i (gg r 0)
theorem XU:dk N qK rF uh [a,b,c,d,e,f,g,h,i]=UN N a b c d e f g h i:=by kernel_rfl
def xk:dO:=⟨[aCM],[],0,adm,false⟩
def zw:List Ct:=[]
def Cq:PL:=aa aE_ aGk (aa (ay W12 W56) aGk (am aC1 (aa (ay ahL W5) RW (aa (ay W8 ahL) RW (aT 7 2 ⟨(Ju::(u2 (u1 ((aV (aE (ax ahL)))::(iY (u8 (u2 (u1 (Ju::(an2::(W94::(iO W97)))))))))))),[asj],2⟩ Fk ⟨la,⟨(Ju::(u2 (u1 ((aV (aE (ax ahL)))::(u64 (u8 W41)))))),[asj],2⟩,0⟩ ⟨qT,⟨(u2 (Jy::((aV (aE (eB 8)))::ahZ))),[],2⟩,0⟩ (aa (ay W9 W56) (am W90 (aa (aC (aY (bF W99 1) ahL 3)) l7 aI_)) C1) (am (aD ahL f_) (aT 14 3 ⟨(u4 (u2 (u1 (axe::aGj)))),[aCK,asj],3⟩ ⟨[gP ahL aJ,aJ],[]⟩ ⟨qg,aGi,1⟩ aGh (aa W68 (am W69 (aT 17 3 ⟨(u4 (u2 (u1 (aGg::(iO (u4 (u1 (Ju::(an2::(AL::(u2 (u1 ((aV (aE (cK 0 (rI lm dU 1 0))))::((aV (aE (ax (bF W71 1))))::(nB::(iY W98)))))))))))))))),[(2,adk),asj],3⟩ ⟨[dT,aJ],[]⟩ ⟨YF,⟨(u4 (u2 (u1 (aGg::aGj)))),[(2,adk),asj],3⟩,1⟩ aGh (aa (ay et (bF W71 1)) (am R5 (aa (ay aCJ aJ) l7 (aa (ay W12 aCJ) l7 (am (ay et Fw) (ai (aL ⟨[bW jd et 1 0 (aG (aq jd et 1 0) aCJ),JA],[]⟩)))))) (ai (bE 0 ⟨[jd],[]⟩))) (ai (aL ⟨[jd,W73],[]⟩)) l7)) (ai (bE 0 ⟨[dT],[]⟩))) (aT 25 3 ⟨(u4 (u2 (u1 (axe::(u64 (u1 (axe::((aV (aE (ax W58)))::(AL::JG))))))))),[aCK],3⟩ Fk ⟨fC 6,aGi,0⟩ ⟨qT,⟨(u2 (Jy::((aV (aE (eB 3)))::ahZ))),[],3⟩,0⟩ (aa W70 (am W69 (aa (ay W12 W72) l7 W74)) C1) (ai (aF [dT,aJ])) (ai (aF [cn,Vt]))) ahU)) RW)))))
theorem abZ:fF zw xk f97 Cq=true:=by kernel_rfl
def Ph:=dj zw xk Cq
def agJ:Ct:=dl zw abZ func97 call97 rfl
def zA(N:Nat)(a b:PD):Oo:=bif ltB b.n (bH a.q 1)then aI (bC 0 b.n)<|bif cY (if(bH ((el a.q b.n 1 0).q) 1)=(bH ((el a.q 0 1 0).q) 1)then(0:Int)else 1) 0 then oB 1 []else oA [.i (aH (b.n+1))]else oB 0 []
def zz(N:Nat)(a b c d:PD):Oo:=
 let e:=(el ((el a.q b.n 1 0).q) d.n 1 0).n
 bif ltB d.n (bH ((el a.q b.n 1 0).q) 1)then aI (bC 0 d.n)<|bif ltB e 0 then oB 1 []else bif ltB 4096 e then oB 1 []else aI (ltB d.n (bH c.q 1))<|oA [PD.l (cM c.q d.n 1 0 (PD.i (aH (((el c.q d.n 1 0).n)+e)))),.i (aH (d.n+1))]else oB 0 [c]
def UQ(N:Nat)(a b:PD):Oo:=oA [b,.i (aH (a.n+1))]
def anb(N:Nat):Oo:=oB 1 []
def zy:Oo:=bif ltB c.n (bH a.q 1)then aI (bC 0 c.n)<|bi (aO (fun S=>zz N a c (gg S 0) (gg S 1)) N [b,.i 0]) (fun X=>UQ N c (gg X 0)) (fun X=>anb N)else oB 0 [b]
def zx(N:Nat)(a b:PD):Oo:=bif ltB b.n (bH a.q 1)then aI (bC 0 b.n)<|bif ltB 4096 ((el a.q b.n 1 0).n)then oB 1 []else oA [.i (aH (b.n+1))]else oB 0 []
def UP(N:Nat)(a:PD):Oo:=oF [ql a,.i 0]
def ana(N:Nat):Oo:=oF [PD.l [],.i 3]
def UO:Oo:=bi (aO (fun S=>zx N a (gg S 0)) N [.i 0]) (fun X=>UP N a) (fun X=>ana N)
def agL(N:Nat):Oo:=oF [PD.l [],.i 2]
def Pi:Oo:=
 let b:=bH ((el a.q 0 1 0).q) 1
 aI (bC b 1000000)<|bi (aO (fun S=>zy N a (gg S 0) (gg S 1)) N [PD.l (List.replicate (Int.toNat b) (PD.i 0)),.i 0]) (fun X=>UO N (gg X 0)) (fun X=>agL N)
def agK(N:Nat):Oo:=oF [PD.l [],.i 8]
def akk:Oo:=
 let b:=bH ((el a.q 0 1 0).q) 1
 let c:=bH a.q 1
 bif eqB c 0 then oF [PD.l [],.i 5]else bif ltB 4096 c then oF [PD.l [],.i 5]else aI (ltB 0 c)<|bif ltB b 1 then oF [PD.l [],.i 8]else bif ltB 128 b then oF [PD.l [],.i 8]else bi (aO (fun S=>zA N a (gg S 0)) N [.i 0]) (fun X=>Pi N a) (fun X=>agK N)
theorem agI:dk N zw xk Cq [a]=akk N a:=by kernel_rfl
def xj:dO:=⟨Jt,[],0,Jt,false⟩
def zu:List Ct:=[EF]
def Co:PL:=an 0 [W6,W9,dU,jd,et,aJ,aJ,W6,W9] (aa YJ (ai (aF [aJ,aJ,aJ,cn,fP])) (ai (aF [et,W5,W11,gD,aJ])))
theorem abX:fF zu xj f83 Co=true:=by kernel_rfl
def Cp:=dj zu xj Co
def agH:Ct:=dl zu abX func83 call83 rfl
def UM(N:Nat)(a b c d e:PD):Oo:=bif cY (if e.n=0 then(0:Int)else 1) 0 then oF [.i 0,.i 0,.i 0,PD.l [],qi e]else oF [qi c,.i 1,.i (aH (a.n*b.n)),ql d,.i 0]
def akj:Oo:=aB (ov [qi a,qi b,qi c,ql d,qi e,.i 0,.i 0,qi a,qi b]) 2 fun r=>UM N a b e (gg r 0) (gg r 1)
theorem agG:dk N zu xj Co [a,b,c,d,e]=akj N a b c d e:=by kernel_rfl
def pK:dO:=⟨[uT],[],0,Qn,false⟩
def ou:List Ct:=[C7]
def rC:PL:=aa R2 jo (aa JD jo (aa R1 jo (an 0 [W6,W9,W15] (aa W24 jo aIR))))
theorem Pe:fF ou pK f197 rC=true:=by kernel_rfl
def rD:=dj ou pK rC
def AD:Ct:=dl ou Pe func197 call197 rfl
def ED(N:Nat)(a b:PD):Oo:=oF [qi a,.i (if b.n=0 then(0:Int)else 1)]
def EC:Oo:=bif eqB c.n 0 then oF [.i 0,.i 0]else aB (sR [qi b,qi a,.i 4294967296]) 2 fun r=>ED N (gg r 0) (gg r 1)
def Pf:Oo:=bif ltB a.n 1 then oF [.i 0,.i 0]else bif ltB b.n 1 then oF [.i 0,.i 0]else bif ltB c.n 1 then oF [.i 0,.i 0]else aB (sR [qi a,qi b,.i 4294967296]) 2 fun r=>EC N c (gg r 0) (gg r 1)
theorem Rz:dk N ou pK rC [a,b,c]=Pf N a b c:=by kernel_rfl
def rE:dO:=⟨[vq],[],0,Qs,false⟩
def qJ:List Ct:=[hD,AD]
def uf:PL:=an 0 RQ (aa W24 asi (an 1 W22 (aa Hx aGe (ai (aF [e7,aJ])))))
theorem RA:fF qJ rE f141 uf=true:=by kernel_rfl
def ug:=dj qJ rE uf
def EE:Ct:=dl qJ RA func141 call141 rfl
def Ir(N:Nat)(a b:PD):Oo:=bif eqB b.n 0 then oF [.i 0,.i 11]else oF [qi a,.i 0]
def Iq:Oo:=bif eqB d.n 0 then oF [.i 0,.i 1]else aB (rD [qi a,qi b,qi c]) 2 fun r=>Ir N (gg r 0) (gg r 1)
def UK:Oo:=aB (eD [qi a,qi b,qi c,ql d]) 1 fun r=>Iq N a b c (gg r 0)
theorem XT:dk N qJ rE uf [a,b,c,d]=UK N a b c d:=by kernel_rfl
def rB:dO:=⟨[W1,Ak],[],0,W4,false⟩
def qH:List Ct:=[]
def ue:PL:=aT 2 3 ⟨(sG::(u4 (u2 (W62::((aV (aE (ax W58)))::(AL::W46)))))),[AK],3⟩ Fk ⟨la,⟨W67,[],3⟩,0⟩ ⟨qT,⟨(u4 (ax2::W97)),[],3⟩,0⟩ (aa W70 (am W69 (aa (ay W72 aJ) l7 (aa (ay W6 W72) l7 W74))) C1) dp C0
theorem Ry:fF qH rB f198 ue=true:=by kernel_rfl
def ki:=dj qH rB ue
def XS:Ct:=dl qH Ry func198 call198 rfl
def qI(N:Nat)(a b c:PD):Oo:=
 let d:=(el b.q c.n 1 0).n
 bif ltB c.n (bH b.q 1)then aI (bC 0 c.n)<|bif ltB d 0 then oB 1 []else bif ltB a.n d then oB 1 []else oA [.i (aH (c.n+1))]else oB 0 []
def abV(N:Nat):Oo:=oF [.i 0]
def abU(N:Nat):Oo:=oF [.i 1]
def UJ:Oo:=bi (aO (fun S=>qI N a b (gg S 0)) N [.i 0]) (fun X=>abV N) (fun X=>abU N)
theorem XR:dk N qH rB ue [a,b]=UJ N a b:=by kernel_rfl
def Cm:dO:=⟨[vq,Ai,Ak,Ak,W1],[],0,Jt,false⟩
def Ey:List Ct:=[EE,jB,jT,XS]
def GP:PL:=an 0 RQ (aa aos (ai (aF [aJ,aJ,aJ,cn,fj])) (an 1 [et,e7,fP,dq] (aa (aC i9) qc (an 2 [et,e7,fP,dq,aJ,aJ,W6,W9] (aa (bL i8 aJ) qc (aa (aC (aY ah7 anZ 3)) qc (aa (aC (aY Fl Yz 3)) qc (an 3 [eK,ao cn fT] (aa (aC fI) Yy (an 3 [eK,gR] (aa (aC kD) Yy (an 3 [eK,fa] (aa (aC eo) Yy (am (aD aJ (bf Yz anZ)) (am (aD (bf Yz anZ) f_) (am (aD aJ Yz) (am (aD Yz f_) (aT 14 26 ⟨(u2 (Jr::(Jp::(jv::(axr::(Fg::(u2 (u1 (RM::(u1 (adt::(u1 (kV::((aV (aE (bQ 25 1 aJ RL)))::aGd)))))))))))))),[Qh,kU,(12,W37),l4,aCH,(14,Ho),(19,a_ 0 39 [asg,anY,R3,bQ 26 1 aJ ac6]),(25,axd),(26,axl)],27⟩ ⟨[gP Yz aJ,aJ,ahN],[(26,some 24)]⟩ ⟨la,⟨(u8 (u2 (RM::(u1 (adt::(u1 (kV::an_))))))),[(14,Ho),(19,a_ 0 39 [asg,anY,R3,bQ 26 1 aJ RL]),(26,axd)],27⟩,1⟩ dN (aa (ay d5 anZ) (aT 18 27 ⟨(u2 (Jr::(Jp::(jv::(axr::(Fg::(u2 (u1 (RM::(u1 (adt::(u1 (kV::((aV (aE (bQ 25 1 aJ CW)))::(ac3::(RP::(u64 (u8 (u2 ((aV (aE anY))::(ac3::(u2 (u1 ((aV (aE asg))::(ahK::R7))))))))))))))))))))))))),[Qh,kU,(12,W37),l4,aCH,(14,Ho),(19,a_ 0 39 [asg,anY,R3,bQ 27 1 aJ ahJ]),(25,ast),(27,ahH)],28⟩ ⟨[i0,aJ,aJ,oQ],[(27,some 26)]⟩ ⟨qg,⟨(u2 (Jr::(Jp::(jv::(axr::(Fg::(u2 (u1 (RM::(u1 (adt::(u1 (kV::((aV (aE (bQ 25 1 aJ asr)))::aGd)))))))))))))),[Qh,kU,(12,W37),l4,aCH,(14,Ho),(19,a_ 0 39 [asg,anY,R3,bQ 27 1 aJ CW]),(27,ast),(25,asq)],28⟩,2⟩ dN (aa (ay gm Yz) (am aCG (am (ay gm CW) (am (aD aJ aCF) (am (ay aCF Fw) (am aCE (am (ay d5 ah7) (am (ay gm Fl) (am aGc (ai (aL ⟨[aGb,aGa,axc,cW rM (ao cn (aG (aQ (aG (aq gR d5 1 0) (aq fa gm 1 0)) fT) aGa))],[(27,some 29)]⟩)))))))))) (ai (bE 0 ⟨[rM,jJ],aso⟩))) (ai (aL ⟨[x7,aCD,jJ],[(26,some 27)]⟩)) dL) (ai (bE 0 ⟨[oQ],[(26,some 26)]⟩))) (an 3 [eK,i0] (aa (aC d5) Yy (ai (aF [Yz,anZ,eK,i0,aJ])))) dL))))))))))))))))))
theorem agF:fF Ey Cm f142 GP=true:=by kernel_rfl
def lD:=dj Ey Cm GP
def UG:Ct:=dl Ey agF func142 call142 rfl
def EA(N:Nat)(a b c d e f g h i j k l m:PD):Oo:=
 let n:=aH ((aH ((aH ((aH (d.n+i.n))*a.n))+c.n))+l.n)
 let o:=cM j.q l.n 1 0 (PD.i (aH (((el j.q l.n 1 0).n)+((el b.q n 1 0).n))))
 let p:=aH (k.n+((el o l.n 1 0).n))
 bif ltB l.n (aH (e.n-c.n))then aI (bC 0 l.n)<|aI (ltB l.n (bH j.q 1))<|aI (bC 0 n)<|aI (ltB n (bH b.q 1))<|aI (bC 0 i.n)<|aI (ltB i.n (bH f.q 1))<|aI (ltB l.n (bH g.q 1))<|aI (bC ((bH m.q 1)+1) 1000000)<|oA [PD.l o,.i p,.i (aH (l.n+1)),PD.l (m.q++([]++[PD.i (aH ((aH ((aH (((el f.q i.n 1 0).n)+((el g.q l.n 1 0).n)))-h.n))+p))]))]else oB 0 [m,j]
def abT(N:Nat)(a b c:PD):Oo:=oA [c,.i (aH (a.n+1)),b]
def Ez:Oo:=bif ltB k.n (aH (f.n-d.n))then bi (aO (fun S=>EA N a b c d e g h i k (gg S 0) (gg S 1) (gg S 2) (gg S 3)) N [j,.i 0,.i 0,l]) (fun X=>abT N k (gg X 0) (gg X 1)) (fun X=>none)else oB 0 [l]
def abS(N:Nat)(a b c d e f g:PD):Oo:=bif cY g.n 0 then oF [.i 0,.i 0,.i 0,PD.l [],.i 2]else oF [.i (aH (c.n-a.n)),.i (aH (d.n-b.n)),qi e,ql f,.i 0]
def abR:Oo:=aB (ki [qi e,ql f]) 1 fun r=>abS N a b c d e f (gg r 0)
def abQ:Oo:=
 let l:=aH (e.n-c.n)
 let m:=aH (l*(aH (f.n-d.n)))
 bif cY k.n 0 then oF [.i 0,.i 0,.i 0,PD.l [],.i 2]else aI (bC 0 m)<|aI (bC m 1000000)<|aI (bC 0 l)<|aI (bC l 1000000)<|bi (aO (fun S=>Ez N a b c d e f g h i (gg S 0) (gg S 1) (gg S 2)) N [PD.l (List.replicate (Int.toNat l) (PD.i 0)),.i 0,PD.l (List.replicate (Int.toNat 0) (PD.i 0))]) (fun X=>abR N c d e f j (gg X 0)) (fun X=>none)
def abP:Oo:=bif cY k.n 0 then oF [.i 0,.i 0,.i 0,PD.l [],.i 2]else aB (ki [qi j,ql h]) 1 fun r=>abQ N a b c d e f g h i j (gg r 0)
def abO:Oo:=bif cY k.n 0 then oF [.i 0,.i 0,.i 0,PD.l [],.i 2]else aB (ki [qi j,ql g]) 1 fun r=>abP N a b c d e f g h i j (gg r 0)
def abN:Oo:=bif eqB k.n 0 then oF [.i 0,.i 0,.i 0,PD.l [],.i 8]else bif cY (if(bH g.q 1)=(aH (f.n-d.n))then(0:Int)else 1) 0 then oF [.i 0,.i 0,.i 0,PD.l [],.i 8]else bif cY (if(bH h.q 1)=(aH (e.n-c.n))then(0:Int)else 1) 0 then oF [.i 0,.i 0,.i 0,PD.l [],.i 8]else aB (ki [qi j,PD.l ([]++[qi i])]) 1 fun r=>abO N a b c d e f g h i j (gg r 0)
def UI:Oo:=bif cY l.n 0 then oF [.i 0,.i 0,.i 0,PD.l [],.i 8]else aB (iC [qi d,qi e,qi f,qi g,.i 0,.i 0,qi a,qi b]) 1 fun r=>abN N a c d e f g h i j k (gg r 0)
def UH:Oo:=bif cY (if l.n=0 then(0:Int)else 1) 0 then oF [.i 0,.i 0,.i 0,PD.l [],qi l]else aB (gW [qi d,qi e,qi f,qi g]) 1 fun r=>UI N a b c d e f g h i j k (gg r 0)
def arp:Oo:=aB (ug [qi a,qi b,qi c,ql d]) 2 fun r=>UH N a b d e f g h i j k (gg r 0) (gg r 1)
theorem am9:dk N Ey Cm GP [a,b,c,d,e,f,g,h,i,j,k]=arp N a b c d e f g h i j k:=by kernel_rfl
def xf:dO:=⟨[vq],[],0,Jt,false⟩
def zq:List Ct:=[EE,UG]
def Ck:PL:=an 0 RQ (aa adp (ai (aF [aJ,aJ,aJ,cn,e7])) (am W90 (am (aD W9 f_) (am W92 (am (aD W6 f_) (an 1 [W6,W9,dU,jd,aJ,aJ,W6,W9,gP W9 aJ,gP W6 aJ,aJ] (ai (aF [fP,dq,lH,fa,fT]))))))))
theorem abM:fF zq xf f84 Ck=true:=by kernel_rfl
def Cl:=dj zq xf Ck
def agE:Ct:=dl zq abM func84 call84 rfl
def UF(N:Nat)(a b c d e:PD):Oo:=oF [qi a,qi b,qi c,ql d,qi e]
def UE:Oo:=bif cY (if e.n=0 then(0:Int)else 1) 0 then oF [.i 0,.i 0,.i 0,PD.l [],qi e]else aI (bC 0 b.n)<|aI (bC b.n 1000000)<|aI (bC 0 a.n)<|aI (bC a.n 1000000)<|aB (lD [qi a,qi b,qi c,ql d,.i 0,.i 0,qi a,qi b,PD.l (List.replicate (Int.toNat b.n) (PD.i 0)),PD.l (List.replicate (Int.toNat a.n) (PD.i 0)),.i 0]) 5 fun r=>UF N (gg r 0) (gg r 1) (gg r 2) (gg r 3) (gg r 4)
def aki:Oo:=aB (ug [qi a,qi b,qi c,ql d]) 2 fun r=>UE N a b c d (gg r 1)
theorem agD:dk N zq xf Ck [a,b,c,d]=aki N a b c d:=by kernel_rfl
end
noncomputable section
open Go Go.RowKit Tryz
set_option maxRecDepth 100000
variable (N:Nat)(a b c d e f g h i j k l m n o p q s t u v w x y z A B C D E F G H I J K L M O P Q R T U9 V9 W Y Z:PD)
def wA:dO:=⟨kE,[],0,Qn,false⟩
def y8:List Ct:=[]
def BN:PL:=aa aif asi (aa pZ asi (aa l9 asi (aa CV ahG (aa vp ahG (aa uS ahG (aa vo ahG (aa aie ahG (aa aid ahG (aa aic ahG (aa aib aF' (aa aCC aF' jo)))))))))))
theorem aaL:fF y8 wA f199 BN=true:=by kernel_rfl
def tW:=dj y8 wA BN
def BO:Ct:=dl y8 aaL func199 call199 rfl
def aji(N:Nat)(a:PD):Oo:=bif eqB a.n 0 then oF [.i 0,.i 1]else bif eqB a.n 1 then oF [.i 0,.i 1]else bif eqB a.n 2 then oF [.i 0,.i 1]else bif eqB a.n 3 then oF [.i 2,.i 1]else bif eqB a.n 4 then oF [.i 2,.i 1]else bif eqB a.n 5 then oF [.i 2,.i 1]else bif eqB a.n 6 then oF [.i 2,.i 1]else bif eqB a.n 7 then oF [.i 2,.i 1]else bif eqB a.n 8 then oF [.i 2,.i 1]else bif eqB a.n 9 then oF [.i 2,.i 1]else bif eqB a.n 10 then oF [.i 1,.i 1]else bif eqB a.n 11 then oF [.i 1,.i 1]else oF [.i 0,.i 0]
theorem afH:dk N y8 wA BN [a]=aji N a:=by kernel_rfl
def wy:dO:=⟨[ads,W3],[],0,kE,false⟩
def yX:List Ct:=[BO]
def BJ:PL:=aa aER l5 (aa aES l5 (aT 5 3 ⟨(u1 (aIQ::(u2 (u1 (AL::(u8 (u4 (Ju::(an0::(aoE::aCL)))))))))),[as8],3⟩ aih ⟨la,⟨(u4 (u1 (AL::(iO Am)))),[],3⟩,1⟩ ⟨qT,⟨(u4 (AL::axb)),[],6⟩,1⟩ (aa (ay gK vr) (am adv (an 0 [YP] (aa ah6 YO (aa (bL YP W5) (aa aio YO aF_) aF_)))) aEU) aIO ayJ))
theorem aaz:fF yX wy f143 BJ=true:=by kernel_rfl
def g_:=dj yX wy BJ
def BK:Ct:=dl yX aaz func143 call143 rfl
def Tv(N:Nat)(a b c d e f:PD):Oo:=
 let g:=(el a.q d.n 2 1).n
 let h:=aH (c.n+(aH (1-e.n)))
 let i:=(el a.q d.n 2 0).n
 let j:=aH (d.n+1)
 let k:=if g=0 then(0:Int)else 1
 bif eqB f.n 0 then oB 1 [.i 1]else bif eqB i 1 then bif eqB b.n 0 then oB 1 [.i 1]else bif ltB c.n e.n then oB 1 [.i 1]else bif eqB i 2 then bif bC (-4294967296) g then bif ltB 4294967296 g then oB 1 [.i 10]else oA [.i h,.i j]else oB 1 [.i 10]else bif eqB i 10 then bif bC 0 g then bif ltB 24 g then oB 1 [.i 10]else oA [.i h,.i j]else oB 1 [.i 10]else bif cY k 0 then oB 1 [.i 10]else oA [.i h,.i j]else bif ltB c.n e.n then oB 1 [.i 1]else bif eqB i 2 then bif bC (-4294967296) g then bif ltB 4294967296 g then oB 1 [.i 10]else oA [.i h,.i j]else oB 1 [.i 10]else bif eqB i 10 then bif bC 0 g then bif ltB 24 g then oB 1 [.i 10]else oA [.i h,.i j]else oB 1 [.i 10]else bif cY k 0 then oB 1 [.i 10]else oA [.i h,.i j]
def yY:Oo:=bif ltB d.n (bH a.q 2)then aI (bC 0 d.n)<|aB (tW [.i ((el a.q d.n 2 0).n)]) 2 fun r=>Tv N a b c d (gg r 0) (gg r 1)else oB 0 [qi c]
def amr(N:Nat)(a:PD):Oo:=bif cY (if a.n=1 then(0:Int)else 1) 0 then oF [.i 1]else oF [.i 0]
def amq(N:Nat)(a:PD):Oo:=oF [qi a]
def ajg:Oo:=bif eqB (bH a.q 2) 0 then oF [.i 9]else bif ltB 32 (bH a.q 2)then oF [.i 9]else bi (aO (fun S=>yY N a b (gg S 0) (gg S 1)) N [.i 0,.i 0]) (fun X=>amr N (gg X 0)) (fun X=>amq N (gg X 0))
theorem afC:dk N yX wy BJ [a,b]=ajg N a b:=by kernel_rfl
def ru:dO:=⟨Qs,[],0,Qn,false⟩
def qD:List Ct:=[]
def tX:PL:=aa aii (am (aC (aY (fH W9 aig) aJ 3)) (aa (ay (dD ii (fH W9 aig)) (fH W6 aEQ)) jo JE)) JE
theorem Rr:fF qD ru f235 tX=true:=by kernel_rfl
def ke:=dj qD ru tX
def DZ:Ct:=dl qD Rr func235 call235 rfl
def TO(N:Nat)(a b:PD):Oo:=
 let c:=gI b.n (aH (0-b.n))
 let d:=aH (a.n*b.n)
 bif cY (if b.n=0 then(0:Int)else 1) 0 then aI (cY (if c=0 then(0:Int)else 1) 0)<|bif ltB (aH (Int.tdiv 17592186044416 c)) (gI a.n (aH (0-a.n)))then oF [.i 0,.i 0]else oF [.i d,.i 1]else oF [.i d,.i 1]
theorem WO:dk N qD ru tX [a,b]=TO N a b:=by kernel_rfl
def wz:dO:=⟨[Kn,Kn],[],0,[Kn,W3],false⟩
def yZ:List Ct:=[DZ]
def BL:PL:=an 0 [W6,dU] (aa ah6 sO (an 0 [W6,gK] (aa Qo sO (an 0 [W9,dU] (aa ady sO (an 0 [W9,gK] (aa adg sO (ai (aF [jn (jn (jn (jn et et) fP) lH) fT,fH (fH (fH (fH et et) fP) lH) fT,W5])))))))))
theorem aaB:fF yZ wz f232 BL=true:=by kernel_rfl
def M4:=dj yZ wz BL
def afE:Ct:=dl yZ aaB func232 call232 rfl
def TA(N:Nat)(a b c d e:PD):Oo:=bif eqB e.n 0 then oF [.i 0,.i 0,.i 0]else oF [.i (lU (lU (lU (lU a.n a.n) b.n) c.n) d.n),.i (gI (gI (gI (gI a.n a.n) b.n) c.n) d.n),.i 1]
def Tz:Oo:=bif eqB f.n 0 then oF [.i 0,.i 0,.i 0]else aB (ke [qi a,qi b]) 2 fun r=>TA N c d e (gg r 0) (gg r 1)
def Tx:Oo:=bif eqB f.n 0 then oF [.i 0,.i 0,.i 0]else aB (ke [qi a,qi b]) 2 fun r=>Tz N a c d e (gg r 0) (gg r 1)
def Tw:Oo:=bif eqB f.n 0 then oF [.i 0,.i 0,.i 0]else aB (ke [qi a,qi d]) 2 fun r=>Tx N b c d e (gg r 0) (gg r 1)
def ajh:Oo:=aB (ke [qi a,qi c]) 2 fun r=>Tw N a b c d (gg r 0) (gg r 1)
theorem afD:dk N yZ wz BL [a,b,c,d]=ajh N a b c d:=by kernel_rfl
def wD:dO:=⟨[Kn,Kn,Kn],[],0,[Kn,W3],false⟩
def y9:List Ct:=[afE,mM]
def BQ:PL:=aa CV as5 (aa vp as3 (aa uS (an 0 [dU,gK,et,e7] (aa (aC lH) aF9 axa)) (aa vo as0 (aa aie asZ (aa aid asY (aa aic (aa (aD i_ aw') (aa (aD aw' ii) (aa (aD i_ Yx) (ai (aF [aw',Yx,aY Yx ii 1])) aCz) aCz) aCz) (aa aib (an 1 [dU,W9] (an 1 [gK,W9] aF9)) (aa aCC (aa (aD i_ Yx) (ai (aF [aJ,Yx,aY Yx ii 1])) (ai (aF [aJ,Yx,aJ]))) (ai (aF [aJ,aJ,W5]))))))))))
theorem aaN:fF y9 wD f201 BQ=true:=by kernel_rfl
def M_:=dj y9 wD BQ
def afJ:Ct:=dl y9 aaN func201 call201 rfl
def TR(N:Nat)(a b c:PD):Oo:=bif cY c.n 0 then bif bC (-17592186044416) a.n then bif bC a.n 17592186044416 then bif bC (-17592186044416) b.n then oF [qi a,qi b,.i (if b.n<=17592186044416 then(1:Int)else 0)]else oF [qi a,qi b,.i 0]else oF [qi a,qi b,.i 0]else oF [qi a,qi b,.i 0]else oF [qi a,qi b,.i 0]
def TQ(N:Nat)(a b:PD):Oo:=bif bC (-17592186044416) a.n then bif bC a.n 17592186044416 then bif bC (-17592186044416) b.n then oF [qi a,qi b,.i (if b.n<=17592186044416 then(1:Int)else 0)]else oF [qi a,qi b,.i 0]else oF [qi a,qi b,.i 0]else oF [qi a,qi b,.i 0]
def TP:Oo:=aB (gX [qi b,qi a]) 1 fun r=>TQ N c (gg r 0)
def ajm:Oo:=
 let g:=gI (gI c.n (aH (0-c.n))) (gI d.n (aH (0-d.n)))
 let h:=aH (d.n-e.n)
 let i:= -17592186044416
 let j:=aH (c.n+e.n)
 let k:=aH (d.n+f.n)
 let l:=aH (c.n-f.n)
 let m:=gI h (aH (f.n-c.n))
 let n:=lU c.n e.n
 let o:=lU d.n f.n
 let p:=gI c.n e.n
 let q:=gI d.n f.n
 let s:=aH (0-g)
 let t:=if g<=17592186044416 then(1:Int)else 0
 bif eqB a.n 3 then bif bC i j then bif bC j 17592186044416 then bif bC i k then oF [.i j,.i k,.i (if k<=17592186044416 then(1:Int)else 0)]else oF [.i j,.i k,.i 0]else oF [.i j,.i k,.i 0]else oF [.i j,.i k,.i 0]else bif eqB a.n 4 then bif bC i l then bif bC l 17592186044416 then bif bC i h then oF [.i l,.i h,.i (if h<=17592186044416 then(1:Int)else 0)]else oF [.i l,.i h,.i 0]else oF [.i l,.i h,.i 0]else oF [.i l,.i h,.i 0]else bif eqB a.n 5 then aB (M4 [qi c,qi d,qi e,qi f]) 3 fun r=>TR N (gg r 0) (gg r 1) (gg r 2)else bif eqB a.n 6 then bif bC i n then bif bC n 17592186044416 then bif bC i o then oF [.i n,.i o,.i (if o<=17592186044416 then(1:Int)else 0)]else oF [.i n,.i o,.i 0]else oF [.i n,.i o,.i 0]else oF [.i n,.i o,.i 0]else bif eqB a.n 7 then bif bC i p then bif bC p 17592186044416 then bif bC i q then oF [.i p,.i q,.i (if q<=17592186044416 then(1:Int)else 0)]else oF [.i p,.i q,.i 0]else oF [.i p,.i q,.i 0]else oF [.i p,.i q,.i 0]else bif eqB a.n 8 then bif bC i m then oF [.i 0,.i m,.i (if m<=17592186044416 then(1:Int)else 0)]else oF [.i 0,.i m,.i 0]else bif eqB a.n 9 then bif bC i s then bif bC s 17592186044416 then bif bC i g then oF [.i s,.i g,.i t]else oF [.i s,.i g,.i 0]else oF [.i s,.i g,.i 0]else oF [.i s,.i g,.i 0]else bif eqB a.n 10 then aB (gX [qi c,qi b]) 1 fun r=>TP N b d (gg r 0)else bif eqB a.n 11 then bif bC i g then oF [.i 0,.i g,.i t]else oF [.i 0,.i g,.i 0]else oF [.i 0,.i 0,.i 1]
theorem afI:dk N y9 wD BQ [a,b,c,d,e,f]=ajm N a b c d e f:=by kernel_rfl
def py:dO:=⟨[ads,W1,W1],[],0,W2,false⟩
def n_:List Ct:=[BK,BO,afJ]
def rv:PL:=an 0 [mb,W5] (aa (aC vn) aII (aa JD adq (aa aEy adq (aa R1 adq (aa aoG adq (aT 8 5 ⟨(u1 (W94::(AL::(u4 (u2 (u1 (ayf::(iY (u8 (u4 (Ju::(an0::(W30::axW))))))))))))),[as8,aF8],6⟩ aEw ⟨la,⟨(u8 (u2 (ayf::(u64 (iO (u8 [])))))),[aF8],6⟩,1⟩ ⟨qT,⟨(u4 (u2 (JC::(JC::(atb::(u64 W32)))))),[],15⟩,0⟩ (aa (ay e7 vr) (am W47 (aa (bL R0 aJ) (am aCy (ai (aL ⟨[cW jp (ao YE W9),W50],adh⟩))) (aa (bL R0 W5) (am aCy (ai (aL ⟨[cW jp (ao YE dU),W50],adh⟩))) (aa (bL R0 fv) (am aCy (ai (aL ⟨[cW jp (ao (ao cn aoB) aoB),W50],adh⟩))) (an 1 [R0] (am (aD aJ ahF) (am (ay ahF x_) (am aEu (am aEt (an 2 [R0,aoB,aq jp ahF 2 0,aq jp ahF 2 1,aEs,aEr] (aa ayN l7 (am (aD ahF x_) (am (aD (d8 ahF W5) f_) (ai (aL ⟨[cW (ic jp aJ ahF 2) (ao (ao cn lH) fb),W50],[(5,some 16)]⟩))))))))))))))) aIG) aIF aIE))))))
theorem M8:fF n_ py f144 rv=true:=by kernel_rfl
def jC:=dj n_ py rv
def Az:Ct:=dl n_ M8 func144 call144 rfl
def D3(N:Nat)(a b c d e f:PD):Oo:=
 let g:=aH ((bH a.q 2)-c.n)
 bif eqB f.n 0 then oB 1 []else aI (bC g (bH a.q 2))<|aI (bC (g+1) 1000000)<|oA [PD.l ((iv a.q 0 g 2)++(([]++[qi d])++[qi e])),.i (aH (b.n+1))]
def D2:Oo:=
 let e:=bH b.q 2
 let f:=aH (e-d.n)
 let g:=aH (e-1)
 aI (bC 0 f)<|aI (ltB f e)<|aI (bC 0 g)<|aI (ltB g e)<|aB (M_ [.i ((el a.q c.n 2 0).n),.i ((el a.q c.n 2 1).n),.i ((el b.q f 2 0).n),.i ((el b.q f 2 1).n),.i ((el b.q g 2 0).n),.i ((el b.q g 2 1).n)]) 3 fun r=>D3 N b c d (gg r 0) (gg r 1) (gg r 2)
def oa:Oo:=
 let f:=(el a.q e.n 2 0).n
 let g:=bC ((bH d.q 2)+1) 1000000
 let h:=aH (e.n+1)
 let i:=(el a.q e.n 2 1).n
 bif ltB e.n (bH a.q 2)then aI (bC 0 e.n)<|bif eqB f 0 then aI g<|oA [PD.l (d.q++(([]++[PD.i 0])++[qi b])),.i h]else bif eqB f 1 then aI g<|oA [PD.l (d.q++(([]++[PD.i 0])++[qi c])),.i h]else bif eqB f 2 then aI g<|oA [PD.l (d.q++(([]++[PD.i i])++[PD.i i])),.i h]else aB (tW [.i f]) 2 fun r=>D2 N a d e (gg r 0)else oB 0 [d]
def D1(N:Nat)(a:PD):Oo:=aI (ltB 0 (bH a.q 2))<|oF [.i ((el a.q 0 2 0).n),.i ((el a.q 0 2 1).n),.i 0]
def WP(N:Nat):Oo:=oF [.i 0,.i 0,.i 11]
def D0:Oo:=bif cY (if d.n=0 then(0:Int)else 1) 0 then oF [.i 0,.i 0,qi d]else bif ltB b.n 1 then oF [.i 0,.i 0,.i 2]else bif ltB 4294967296 b.n then oF [.i 0,.i 0,.i 2]else bif ltB c.n 1 then oF [.i 0,.i 0,.i 2]else bif ltB 4294967296 c.n then oF [.i 0,.i 0,.i 2]else bi (aO (fun S=>oa N a b c (gg S 0) (gg S 1)) N [PD.l [],.i 0]) (fun X=>D1 N (gg X 0)) (fun X=>WP N)
def M9:Oo:=aB (g_ [ql a,.i 1]) 1 fun r=>D0 N a b c (gg r 0)
theorem Rs:dk N n_ py rv [a,b,c]=M9 N a b c:=by kernel_rfl
def pw:dO:=⟨Qs,[],0,kE,false⟩
def n9:List Ct:=[]
def rt:PL:=aa aio dp (aa aGM (aa (aC (aY (aY W6 aJ 0) (aY W9 aJ 0) 3)) (ai (aF [aQ aC5 W5])) aC4) aC4)
theorem M7:fF n9 pw f237 rt=true:=by kernel_rfl
def Ay:=dj n9 pw rt
def Rq:Ct:=dl n9 M7 func237 call237 rfl
def BP(N:Nat)(a b:PD):Oo:=
 let c:=aH (Int.tdiv a.n b.n)
 bif eqB b.n 0 then oF [.i 0]else bif cY (if(Int.tmod a.n b.n)=0 then(0:Int)else 1) 0 then bif cY (if(if a.n<0 then(1:Int)else 0)=(if b.n<0 then(1:Int)else 0)then(0:Int)else 1) 0 then oF [.i (aH (c-1))]else oF [.i c]else oF [.i c]
theorem Rp:dk N n9 pw rt [a,b]=BP N a b:=by kernel_rfl
def wx:dO:=⟨[Kn,W1,W1],[],0,Qn,false⟩
def yW:List Ct:=[DZ,Rq,mM]
def BI:PL:=aa CV (aa (aD i_ aw_) (ai (aF [aw_,aY aw_ ii 1])) (ai (aF [aw_,aJ]))) (aa vp (aa (aD i_ anX) (ai (aF [anX,aY anX ii 1])) (ai (aF [anX,aJ]))) (aa uS (an 0 [dU,gK] (aa (aC e7) aCx aF7)) (aa vo (aa (aD i_ aw9) (ai (aF [aw9,aY aw9 ii 1])) (ai (aF [aw9,aJ]))) (aa aie (aa aEC (ai (aF [YK,aEB])) (ai (aF [YK,aJ]))) (aa aid (aa (aD i_ aw8) (ai (aF [aw8,aY aw8 ii 1])) (ai (aF [aw8,aJ]))) (aa aic (an 1 [dU,gK] aCx) (aa aib (an 2 [dU,W9] aCx) (aa aCC (aa (aD i_ ase) (ai (aF [ase,aY ase ii 1])) (ai (aF [ase,aJ]))) asi))))))))
theorem aay:fF yW wx f202 BI=true:=by kernel_rfl
def M3:=dj yW wx BI
def afB:Ct:=dl yW aay func202 call202 rfl
def amp(N:Nat)(a b:PD):Oo:=bif cY b.n 0 then bif bC (-17592186044416) a.n then oF [qi a,.i (if a.n<=17592186044416 then(1:Int)else 0)]else oF [qi a,.i 0]else oF [qi a,.i 0]
def Tu(N:Nat)(a:PD):Oo:=bif bC (-17592186044416) a.n then oF [qi a,.i (if a.n<=17592186044416 then(1:Int)else 0)]else oF [qi a,.i 0]
def WN:Oo:=
 let e:=aH (c.n-d.n)
 let f:=gI c.n (aH (0-c.n))
 let g:= -17592186044416
 let h:=aH (c.n+d.n)
 let i:=gI e (aH (0-e))
 let j:=lU c.n d.n
 let k:=gI c.n d.n
 bif eqB a.n 3 then bif bC g h then oF [.i h,.i (if h<=17592186044416 then(1:Int)else 0)]else oF [.i h,.i 0]else bif eqB a.n 4 then bif bC g e then oF [.i e,.i (if e<=17592186044416 then(1:Int)else 0)]else oF [.i e,.i 0]else bif eqB a.n 5 then aB (ke [qi c,qi d]) 2 fun r=>amp N (gg r 0) (gg r 1)else bif eqB a.n 6 then bif bC g j then oF [.i j,.i (if j<=17592186044416 then(1:Int)else 0)]else oF [.i j,.i 0]else bif eqB a.n 7 then bif bC g k then oF [.i k,.i (if k<=17592186044416 then(1:Int)else 0)]else oF [.i k,.i 0]else bif eqB a.n 8 then bif bC g i then oF [.i i,.i (if i<=17592186044416 then(1:Int)else 0)]else oF [.i i,.i 0]else bif eqB a.n 9 then aB (Ay [qi c,qi d]) 1 fun r=>Tu N (gg r 0)else bif eqB a.n 10 then aB (gX [qi c,qi b]) 1 fun r=>Tu N (gg r 0)else bif eqB a.n 11 then bif bC g f then oF [.i f,.i (if f<=17592186044416 then(1:Int)else 0)]else oF [.i f,.i 0]else oF [.i 0,.i 1]
theorem afA:dk N yW wx BI [a,b,c,d]=WN N a b c d:=by kernel_rfl
def Gf:dO:=⟨[ads,W1,W1],[],0,Qs,false⟩
def J9:List Ct:=[BO,afB]
def M5:PL:=aT 3 5 ⟨(u1 (W94::(AL::(u4 (u1 (aF6::(u8 (Ju::(an0::(nB::aCI)))))))))),[as8,(5,adk)],6⟩ ⟨[ahN,aJ],[(5,some 4)]⟩ ⟨la,⟨(u8 (aF6::(u64 (u8 [])))),[(5,adk)],6⟩,1⟩ ⟨qT,⟨(u4 (u2 (JC::(atb::axW)))),[],11⟩,0⟩ (aa (ay et vr) (am R5 (aa (bL asd aJ) (am axL (ai (aL ⟨[cW jd aw6,JA],adh⟩))) (aa (bL asd W5) (am axL (ai (aL ⟨[cW jd (ao cn dU),JA],adh⟩))) (aa (bL asd fv) (am axL (ai (aL ⟨[cW jd (ao cn (aq mb et 2 1)),JA],adh⟩))) (an 0 [asd] (am (aD aJ anW) (am (ay anW Fw) (am (aD aJ aCw) (am (ay aCw Fw) (an 1 [asd,aq mb et 2 1,aq jd anW 1 0,aq jd aCw 1 0] (aa aoA l7 (am (aD anW Fw) (am (aD (d8 anW W5) f_) (ai (aL ⟨[cW (ic jd aJ anW 1) (ao cn dq),JA],[(5,some 12)]⟩))))))))))))))) (ai (bE 0 ⟨[jd],[(5,some 5)]⟩))) (am (ay aJ Fw) (ai (aF [aq jd aJ 1 0,aJ]))) aGe
theorem ams:fF J9 Gf f145 M5=true:=by kernel_rfl
def wC:=dj J9 Gf M5
def apX:Ct:=dl J9 ams func145 call145 rfl
def ajl(N:Nat)(a b c d e:PD):Oo:=
 let f:=aH ((bH a.q 1)-c.n)
 bif eqB e.n 0 then oB 1 []else aI (bC f (bH a.q 1))<|aI (bC (f+1) 1000000)<|oA [PD.l ((iv a.q 0 f 1)++([]++[qi d])),.i (aH (b.n+1))]
def ajk:Oo:=
 let e:=bH b.q 1
 let f:=aH (e-d.n)
 let g:=aH (e-1)
 aI (bC 0 f)<|aI (ltB f e)<|aI (bC 0 g)<|aI (ltB g e)<|aB (M3 [.i ((el a.q c.n 2 0).n),.i ((el a.q c.n 2 1).n),.i ((el b.q f 1 0).n),.i ((el b.q g 1 0).n)]) 2 fun r=>ajl N b c d (gg r 0) (gg r 1)
def DY:Oo:=
 let f:=(el a.q e.n 2 0).n
 let g:=bC ((bH d.q 1)+1) 1000000
 let h:=aH (e.n+1)
 bif ltB e.n (bH a.q 2)then aI (bC 0 e.n)<|bif eqB f 0 then aI g<|oA [PD.l (d.q++([]++[qi b])),.i h]else bif eqB f 1 then aI g<|oA [PD.l (d.q++([]++[qi c])),.i h]else bif eqB f 2 then aI g<|oA [PD.l (d.q++([]++[PD.i ((el a.q e.n 2 1).n)])),.i h]else aB (tW [.i f]) 2 fun r=>ajk N a d e (gg r 0)else oB 0 [d]
def ajj(N:Nat)(a:PD):Oo:=aI (ltB 0 (bH a.q 1))<|oF [.i ((el a.q 0 1 0).n),.i 0]
def avx(N:Nat):Oo:=oF [.i 0,.i 11]
def apY:Oo:=bi (aO (fun S=>DY N a b c (gg S 0) (gg S 1)) N [PD.l (List.replicate (Int.toNat 0) (PD.i 0)),.i 0]) (fun X=>ajj N (gg X 0)) (fun X=>avx N)
theorem apW:dk N J9 Gf M5 [a,b,c]=apY N a b c:=by kernel_rfl
def BM:dO:=⟨[vq,vq,W3,ads,W1,Ai],[],0,Jt,false⟩
def DV:List Ct:=[hD,BK,Az,jB,jT,apX,zO]
def Gc:PL:=an 0 RQ (aa R4 Ah (aa (aC lH) (an 0 [et,e7,fP,qS] (aa aod Ah (an 1 [fa,W78] (aa asW axp (aa aEb Yy (aa (ay W15 fT) Yy (an 2 [fa,dU,fP] (aa (aC (aY eE aJ 3)) (ai (aF [aJ,aJ,aJ,cn,eE])) (aa (aC (aY W6 et 3)) qc (aa (aC (aY W9 e7 3)) qc (an 3 asu (aa (aC fZ) qc (an 4 axo (aa (bL gQ aJ) qc (am axn (am axm (aT 21 30 ⟨aF5,[anV,nO,l4,anU,iZ,Jq,rK,(28,aw4),(30,ahH)],31⟩ ⟨[fj,ahN],[(30,some 29)]⟩ ⟨la,⟨(u8 (u4 (kV::(u4 (u2 (ac0::(u64 ah'))))))),[rK,(28,aF4),(30,Qg)],31⟩,1⟩ dN (aa (ay gm i8) (aT 24 31 ⟨(u2 (aw5::(Jp::(jv::(u1 (uO::(mV::(u2 (u1 (Fe::(kV::(u4 (u2 (ac0::(ahK::(sB::aDs)))))))))))))))),[anV,nO,l4,anU,iZ,Jq,rK,(28,a_ 0 39 [uM,vl,sH,bQ 31 1 aJ Af]),(31,Hm)],32⟩ ⟨[aG (bf gm W6) eK,rM],[(31,some 30)]⟩ ⟨qg,⟨aF5,[anV,nO,l4,anU,iZ,Jq,rK,(28,a_ 0 39 [uM,vl,sH,bQ 31 1 aJ ahE]),(31,asc)],32⟩,1⟩ dN (aa (ay gZ (aG (bf gm W6) i9)) (am asb (am (ay gZ Jv) (am (ay gZ Fw) (an 5 [fa,aq jd gZ 1 0,aq qS gZ 1 0] (an 6 [i7,fT] (am asa (ai (aL ⟨[RO,aF3],[(31,some 36)]⟩)))))))) (ai (bE 0 ⟨[j3],[(31,some 31)]⟩))) (ai (aL ⟨[axc,cS],[(30,some 31)]⟩)) dL) aF2) (ai (aF [Ff,YA,fT,Ag,aJ])) dL))))))))))))))))) (an 1 [fa,W78] (aa aCv (ai (aF [aJ,aJ,aJ,cn,kD])) (aa aEb Yy (aa (ay W15 fT) Yy (an 2 [fa,dU,W5] (aa (aC (aY d5 aJ 3)) (ai (aF [aJ,aJ,aJ,cn,d5])) (an 3 asu (aa (aC eE) qc (an 4 axo (aa (bL fZ aJ) qc (am axn (am axm (aT 21 29 ⟨aF1,[anV,nO,l4,anU,iZ,Jq,rK,(27,a_ 0 39 [uM,vl,sH,bQ 29 1 aJ ac5]),(29,Qg)],30⟩ ⟨[fj,ahN],[(29,some 28)]⟩ ⟨la,⟨(u8 (u4 (kV::(u4 (u2 (acZ::(u64 ah'))))))),[rK,(27,aF0),(29,asq)],30⟩,1⟩ dN (aa (ay gQ i8) (aT 24 30 ⟨(u2 (aw5::(Jp::(jv::(u1 (uO::(mV::(u2 (u1 (Fe::(kV::(u4 (u2 (acZ::(RP::(oR::aDs)))))))))))))))),[anV,nO,l4,anU,iZ,Jq,rK,(27,a_ 0 39 [uM,vl,sH,bQ 30 1 aJ ahE]),(30,asc)],31⟩ ⟨[aG (bf gQ W6) eK,Ag],[(30,some 29)]⟩ ⟨qg,⟨aF1,[anV,nO,l4,anU,iZ,Jq,rK,(27,aw4),(30,ahH)],31⟩,1⟩ dN (aa (ay iy (aG (bf gQ W6) i9)) (am (aD aJ iy) (am (ay iy Fw) (an 5 [fa,aq jd iy 1 0,aJ] (an 6 [mX,fT] (am aCu (ai (aL ⟨[aG iy W5,cW cS aCt],[(30,some 35)]⟩))))))) (ai (bE 0 ⟨[cS],ar'⟩))) (ai (aL ⟨[axk,rM],[(29,some 30)]⟩)) dL) (ai (bE 0 ⟨[Ag],[(29,some 29)]⟩))) (ai (aF [Ff,YA,fT,x7,aJ])) dL)))))))))))))))
theorem afF:fF DV BM f85 Gc=true:=by kernel_rfl
def sc:=dj DV BM Gc
def TC:Ct:=dl DV afF func85 call85 rfl
def aaK(N:Nat)(a b c:PD):Oo:=aI (bC ((bH b.q 1)+1) 1000000)<|oA [.i (aH (a.n+1)),PD.l (b.q++([]++[qi c]))]
def aaJ:Oo:=aB (o0 [qi d,qi a]) 1 fun r=>aaK N b c (gg r 0)
def DX:Oo:=bif ltB h.n (aH ((aH (g.n*a.n))+f.n))then aI (bC 0 h.n)<|aI (ltB h.n (bH c.q 1))<|aI (ltB h.n (bH b.q 1))<|aB (wC [ql d,.i ((el b.q h.n 1 0).n),.i ((el c.q h.n 1 0).n)]) 2 fun r=>aaJ N e h i (gg r 0)else oB 0 [i]
def aaI(N:Nat)(a b:PD):Oo:=oA [.i (aH (a.n+1)),b]
def DW:Oo:=bif ltB i.n h.n then bi (aO (fun S=>DX N a b c d e g i (gg S 0) (gg S 1)) N [.i (aH ((aH (i.n*a.n))+f.n)),j]) (fun X=>aaI N i (gg X 0)) (fun X=>none)else oB 0 [j]
def aaH(N:Nat)(a b c d e f:PD):Oo:=oF [.i (aH (d.n-b.n)),.i (aH (e.n-c.n)),qi a,ql f,.i 0]
def aaG:Oo:=
 let k:=aH ((aH (h.n-f.n))*(aH (i.n-g.n)))
 bif eqB j.n 0 then oF [.i 0,.i 0,.i 0,PD.l [],.i 8]else aI (bC 0 k)<|aI (bC k 1000000)<|bi (aO (fun S=>DW N a b c d e f h i (gg S 0) (gg S 1)) N [qi g,PD.l (List.replicate (Int.toNat 0) (PD.i 0))]) (fun X=>aaH N e f g h i (gg X 0)) (fun X=>none)
def aaF:Oo:=bif cY k.n 0 then oF [.i 0,.i 0,.i 0,PD.l [],.i 8]else aB (iC [qi g,qi h,qi i,qi j,.i 0,.i 0,qi a,qi b]) 1 fun r=>aaG N a c d e f g h i j (gg r 0)
def aaE:Oo:=bif cY (if m.n=0 then(0:Int)else 1) 0 then oF [.i 0,.i 0,.i 0,PD.l [],qi m]else bif cY (if a.n=d.n then(0:Int)else 1) 0 then oF [.i 0,.i 0,.i 0,PD.l [],.i 8]else bif cY (if b.n=e.n then(0:Int)else 1) 0 then oF [.i 0,.i 0,.i 0,PD.l [],.i 8]else aB (gW [qi i,qi j,qi k,qi l]) 1 fun r=>aaF N a b c f g h i j k l (gg r 0)
def TM:Oo:=bif cY (if o.n=0 then(0:Int)else 1) 0 then oF [.i 0,.i 0,.i 0,PD.l [],qi o]else bif ltB j.n 1 then oF [.i 0,.i 0,.i 0,PD.l [],.i 2]else bif ltB 4294967296 j.n then oF [.i 0,.i 0,.i 0,PD.l [],.i 2]else aB (jC [ql i,qi c,qi g]) 3 fun r=>aaE N a b d e f h i j k l m n (gg r 2)
def TL:Oo:=bif eqB p.n 0 then oF [.i 0,.i 0,.i 0,PD.l [],.i 1]else aB (g_ [ql j,.i (if i.n=0 then(0:Int)else 1)]) 1 fun r=>TM N a b c d e f g h j k l m n o (gg r 0)
def TK(N:Nat)(a b c:PD):Oo:=aI (bC ((bH b.q 1)+1) 1000000)<|oA [.i (aH (a.n+1)),PD.l (b.q++([]++[qi c]))]
def TJ:Oo:=aB (o0 [qi d,qi a]) 1 fun r=>TK N b c (gg r 0)
def y7:Oo:=bif ltB g.n (aH ((aH (f.n*a.n))+e.n))then aI (bC 0 g.n)<|aI (ltB g.n (bH b.q 1))<|aB (wC [ql c,.i ((el b.q g.n 1 0).n),.i 0]) 2 fun r=>TJ N d g h (gg r 0)else oB 0 [h]
def TI(N:Nat)(a b:PD):Oo:=oA [.i (aH (a.n+1)),b]
def y6:Oo:=bif ltB h.n g.n then bi (aO (fun S=>y7 N a b c d f h (gg S 0) (gg S 1)) N [.i (aH ((aH (h.n*a.n))+e.n)),i]) (fun X=>TI N h (gg X 0)) (fun X=>none)else oB 0 [i]
def TH(N:Nat)(a b c d e f:PD):Oo:=oF [.i (aH (d.n-b.n)),.i (aH (e.n-c.n)),qi a,ql f,.i 0]
def TG:Oo:=
 let j:=aH ((aH (g.n-e.n))*(aH (h.n-f.n)))
 bif eqB i.n 0 then oF [.i 0,.i 0,.i 0,PD.l [],.i 8]else aI (bC 0 j)<|aI (bC j 1000000)<|bi (aO (fun S=>y6 N a b c d e g h (gg S 0) (gg S 1)) N [qi f,PD.l (List.replicate (Int.toNat 0) (PD.i 0))]) (fun X=>TH N d e f g h (gg X 0)) (fun X=>none)
def TF:Oo:=bif cY j.n 0 then oF [.i 0,.i 0,.i 0,PD.l [],.i 8]else aB (iC [qi f,qi g,qi h,qi i,.i 0,.i 0,qi a,qi b]) 1 fun r=>TG N a c d e f g h i (gg r 0)
def TE:Oo:=bif cY (if j.n=0 then(0:Int)else 1) 0 then oF [.i 0,.i 0,.i 0,PD.l [],qi j]else aB (gW [qi f,qi g,qi h,qi i]) 1 fun r=>TF N a b c d e f g h i (gg r 0)
def TD:Oo:=bif cY (if k.n=0 then(0:Int)else 1) 0 then oF [.i 0,.i 0,.i 0,PD.l [],qi k]else bif ltB f.n 1 then oF [.i 0,.i 0,.i 0,PD.l [],.i 2]else bif ltB 4294967296 f.n then oF [.i 0,.i 0,.i 0,PD.l [],.i 2]else aB (jC [ql e,qi c,.i 1]) 3 fun r=>TE N a b d e f g h i j (gg r 2)
def Ge:Oo:=bif eqB p.n 0 then oF [.i 0,.i 0,.i 0,PD.l [],.i 1]else bif cY i.n 0 then aB (eD [qi e,qi f,qi g,ql h]) 1 fun r=>TL N a b c d e f g h i j k l m n o (gg r 0)else aB (g_ [ql j,.i (if i.n=0 then(0:Int)else 1)]) 1 fun r=>TD N a b c d j k l m n o (gg r 0)
def afG:Oo:=aB (eD [qi a,qi b,qi c,ql d]) 1 fun r=>Ge N a b c d e f g h i j k l m n o (gg r 0)
theorem TB:dk N DV BM Gc [a,b,c,d,e,f,g,h,i,j,k,l,m,n,o]=afG N a b c d e f g h i j k l m n o:=by kernel_rfl
end
end Go.Proofs.YtlchkibailfldaaGreat.Ex
