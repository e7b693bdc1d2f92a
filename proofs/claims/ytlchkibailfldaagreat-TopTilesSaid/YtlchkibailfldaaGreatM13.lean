/-
  Part 13 of the proof that TopTiles returns true at every call and leaves what it was given as it was; no condition beyond the row's own.
-/
import Derived.Shelf.Slices.In.SortNone
import Derived.Shelf.Sort.Plain
import Derived.Test.YtlchkibailfldaaGreatM07
import Derived.Test.YtlchkibailfldaaGreatM11
set_option linter.unusedVariables false
set_option linter.unusedSimpArgs false
set_option linter.unusedSectionVars false
namespace Go.Proofs.YtlchkibailfldaaGreat.Ex
noncomputable section
open Go Go.RowKit Tryz
set_option maxRecDepth 100000
variable (N:Nat)(a b c d e f g h i j k l m n o p q s t u v w x y z A B C D E F G H I J K L M O P Q R T U9 V9 W Y Z:PD)
def pR:dO:=⟨[x8],[],0,W4,false⟩
def oC:List Ct:=[HO]
def rG:PL:=an 0 aon (aa (bL eh aJ) dp (aa pZ (aa (aD W5 fP) (aa (aD fP uU) (aa (aD W5 dq) (ai (aF [aY dq uU 1])) dp) dp) dp) (aa l9 (aa (aD W5 Fl) (aa (aD Fl uU) (aa (aD W5 ah8) (ai (aF [aY ah8 uU 1])) dp) dp) dp) (aa CV (aT 288000002 21 ⟨(u4 (u1 (akU::((aV (aE (ax aow)))::(ac3::Am))))),[adX,(19,adW),Qh,kU,iz,VA,adV],21⟩ Fk ⟨la,⟨W66,aAa,21⟩,0⟩ ⟨qT,⟨(u2 (W44::(iY JG))),aAa,22⟩,0⟩ (aa (ay d5 aow) (am aCE (aa (ay qk (bF (aq hO d5 2 1) 1)) l7 (aa (ay (aq hO d5 2 0) aE2) l7 (aa (ay ail (aq hO d5 2 0)) l7 az')))) C1) (aT 288000002 21 ⟨(u4 (u1 ((aV (aE (cK 14 lm)))::((aV (aE (ax aou)))::(ac3::Am))))),[VA],21⟩ Fk ⟨la,⟨W66,[],21⟩,0⟩ ⟨qT,⟨(u2 (W44::(iY JG))),[],22⟩,0⟩ (aa (ay d5 aou) (am aCE (aa (ay qk (bF (aq iJ d5 2 1) 1)) l7 (aa (ay (aq iJ d5 2 0) aE2) l7 (aa (ay ail (aq iJ d5 2 0)) l7 az')))) C1) C0 dp) dp) C0))))
theorem PK:fF oC pR f265 rG=true:=by kernel_rfl
def AG:=dj oC pR rG
def RE:Ct:=dl oC PK func265 call265 rfl
def oE(N:Nat)(a b:PD):Oo:=
 let c:=(el a.q b.n 2 0).n
 bif ltB b.n (bH a.q 2)then aI (bC 0 b.n)<|bif ltB 8 (bH ((el a.q b.n 2 1).q) 1)then oB 1 []else bif ltB c (-128)then oB 1 []else bif ltB 256 c then oB 1 []else oA [.i (aH (b.n+1))]else oB 0 []
def oD(N:Nat)(a b:PD):Oo:=
 let c:=(el a.q b.n 2 0).n
 bif ltB b.n (bH a.q 2)then aI (bC 0 b.n)<|bif ltB 8 (bH ((el a.q b.n 2 1).q) 1)then oB 1 []else bif ltB c (-128)then oB 1 []else bif ltB 256 c then oB 1 []else oA [.i (aH (b.n+1))]else oB 0 []
def X6(N:Nat):Oo:=oF [.i 1]
def ET(N:Nat):Oo:=oF [.i 0]
def ES:Oo:=bi (aO (fun S=>oD N a (gg S 0)) N [.i 0]) (fun X=>X6 N) (fun X=>ET N)
def ER:Oo:=bif eqB h.n 0 then oF [.i 0]else bif eqB a.n 1 then bif bC 1 b.n then bif bC b.n 9 then bif bC 1 c.n then oF [.i (if c.n<=9 then(1:Int)else 0)]else oF [.i 0]else oF [.i 0]else oF [.i 0]else bif eqB a.n 2 then bif bC 1 (bH d.q 1)then bif bC (bH d.q 1) 9 then bif bC 1 (bH e.q 1)then oF [.i (if(bH e.q 1)<=9 then(1:Int)else 0)]else oF [.i 0]else oF [.i 0]else oF [.i 0]else bif eqB a.n 3 then bi (aO (fun S=>oE N f (gg S 0)) N [.i 0]) (fun X=>ES N g) (fun X=>ET N)else oF [.i 1]
def CG:Oo:=aB (qw [qi a,qi b,qi c,.i (if d.n=0 then(0:Int)else 1),qi e,qi f,qi g,qi h,ql i,ql j,ql k,qi l,qi m,ql n,ql o,qi p,ql q,qi s]) 1 fun r=>ER N a g h j k n o (gg r 0)
theorem RD:dk N oC pR rG [a,b,c,d,e,f,g,h,i,j,k,l,m,n,o,p,q,s]=CG N a b c d e f g h i j k l m n o p q s:=by kernel_rfl
def uA:dO:=⟨[x8,W1,W1,W1,W1,Hw],[],0,[Ak],false⟩
def uB:List Ct:=[RE,zX]
def xC:PL:=aa (ay eh W5) Fn (aa (ay W8 eh) Fn (aa (ay d5 aJ) Fn (aa (ay W8 d5) Fn (aa (ay eE aJ) Fn (aa (ay W8 eE) Fn (an 0 aon (aa (bL gm aJ) Fn (aT 600005 26 ⟨(u1 (rL::(ac3::(xZ::(iH::(Qw::(Qv::(u4 (u2 (nB::(iO (u8 (u1 (sG::(iO W97))))))))))))))),az_,26⟩ QK ⟨CX,⟨(u1 (rL::(ac3::(xZ::(iH::(Qw::(Qv::(u4 (u2 (oR::(u64 W66))))))))))),az_,26⟩,1⟩ dN (aa vp at' (aa uS at' (aa vo at' (ai (bE 0 ⟨[et],[]⟩))))) (aT 11 27 ⟨at9,at8,27⟩ ⟨[d5,ao (ao (ao (ao (ao (ao (ao (ao (ao (ao (ao (ao (ao (ao (ao (ao (ao (ao (ao (ao (ao (ao (ao (ao (ao (ao (ao (ao (ao (ao (ao (ao (ao (ao (ao (ao (ao (ao (ao (ao (ao (ao (ao (ao (ao (ao (ao (ao (ao (ao (ao (ao (ao (ao (ao (ao (ao (ao (ao (ao (ao (ao (ao (ao (ao (ao (ao (ao (ao (ao (ao (ao (ao (ao (ao (ao (ao (ao (ao (ao (ao (ao (ao (ao (ao (ao (ao (ao (ao (ao (ao (ao (ao (ao (ao (ao (ao (ao (ao (ao (ao (ao (ao (ao (ao (ao (ao (ao (ao (ao (ao (ao aAW aJ) aJ) aJ) aJ) aJ) aJ) aJ) aJ) aJ) aJ) aJ) aJ) aJ) aJ) aJ) aJ) aJ) aJ) aJ) aJ) aJ) aJ) aJ) aJ) aJ) aJ) aJ) aJ) aJ) aJ) aJ) aJ) aJ) aJ) aJ) aJ) aJ) aJ) aJ) aJ) aJ) aJ) aJ) aJ) aJ) aJ) aJ) aJ) aJ) aJ) aJ) aJ) aJ) aJ) aJ) aJ) aJ) aJ) aJ) aJ) aJ) aJ) aJ) aJ) aJ) aJ) aJ) aJ) aJ) aJ) aJ) aJ) aJ) aJ) aJ) aJ) aJ) aJ) aJ) aJ) aJ) aJ) aJ) aJ) aJ) aJ) aJ) aJ) aJ) aJ) aJ) aJ) aJ) aJ) aJ) aJ) aJ) aJ) aJ) aJ) aJ) aJ) aJ) aJ) aJ) aJ) aJ) aJ) aJ) aJ) aJ) aJ],[]⟩ ⟨fC 1,⟨(u8 (u4 (u2 (Vz::(u64 aoJ))))),[(26,cG false 1 323 [.bool] cS ju)],27⟩,1⟩ dN (aa (ay gZ eE) (aa pZ az9 (aa l9 az9 (aa CV (aa (aD (bF x7 2) gZ) (aT 15 28 ⟨(u1 (rL::(u1 (xZ::(iH::(Qw::(Qv::(u4 (u2 (oR::(Vz::(sB::(JC::(JC::(JC::(u64 W67)))))))))))))))),at8,28⟩ QK ⟨fC 3,⟨at9,at8,28⟩,0⟩ dN C1 (ai (aL ⟨[RO,j3],[]⟩)) dL) (am asb (aT 15 28 ⟨(u1 (rL::(u1 (xZ::(iH::(Qw::(Qv::(u4 (u2 (oR::(Vz::(sB::((aV (aE (ax at2)))::((aV (aE (ax az8)))::at6)))))))))))))),akT,28⟩ ⟨[j3,at2],[]⟩ at5 dN (aa (ay gf (aG at2 az8)) at4 ak0) at3 dL))) (aT 15 28 ⟨(u1 (rL::(u1 (xZ::(iH::(Qw::(Qv::(u4 (u2 (oR::(Vz::(sB::(sB::(aD8::at6)))))))))))))),akT,28⟩ ⟨[j3,gZ],[]⟩ at5 dN (aa (ay gf RO) at4 ak0) at3 dL)))) aAD) (am (ay aJ ahE) (am (aD W8 ahE) (aT 22 27 ⟨(iY (u4 (u1 (az7::(u64 (u4 (u2 ((aV (awX [bv (aC (aq cS aJ 1 0)),bv (aC (aq cS W5 1 0)),bv (aC (aq cS fv 1 0)),bv (aC (aq cS Vt 1 0)),bv (aC (aq cS nR 1 0)),bv (aC (aq cS Hv 1 0)),bv (aC (aq cS l8 1 0)),bv (aC (aq cS (aR 7) 1 0)),bv (aC (aq cS qk 1 0)),bv (aC (aq cS uU 1 0)),bv (aC (aq cS YS 1 0)),bv (aC (aq cS adx 1 0)),bv (aC (aq cS (aR 12) 1 0)),bv (aC (aq cS (aR 13) 1 0)),bv (aC (aq cS (aR 14) 1 0)),bv (aC (aq cS (aR 15) 1 0)),bv (aC (aq cS Ao 1 0)),bv (aC (aq cS (aR 17) 1 0)),bv (aC (aq cS (aR 18) 1 0)),bv (aC (aq cS (aR 19) 1 0)),bv (aC (aq cS (aR 20) 1 0)),bv (aC (aq cS (aR 21) 1 0)),bv (aC (aq cS (aR 22) 1 0)),bv (aC (aq cS (aR 23) 1 0)),bv (aC (aq cS Qp 1 0)),bv (aC (aq cS (aR 25) 1 0)),bv (aC (aq cS (aR 26) 1 0)),bv (aC (aq cS (aR 27) 1 0)),bv (aC (aq cS (aR 28) 1 0)),bv (aC (aq cS (aR 29) 1 0)),bv (aC (aq cS (aR 30) 1 0)),bv (aC (aq cS (aR 31) 1 0)),bv (aC (aq cS (aR 32) 1 0)),bv (aC (aq cS (aR 33) 1 0)),bv (aC (aq cS (aR 34) 1 0)),bv (aC (aq cS (aR 35) 1 0)),bv (aC (aq cS (aR 36) 1 0)),bv (aC (aq cS (aR 37) 1 0)),bv (aC (aq cS (aR 38) 1 0)),bv (aC (aq cS (aR 39) 1 0)),bv (aC (aq cS (aR 40) 1 0)),bv (aC (aq cS (aR 41) 1 0)),bv (aC (aq cS (aR 42) 1 0)),bv (aC (aq cS (aR 43) 1 0)),bv (aC (aq cS (aR 44) 1 0)),bv (aC (aq cS (aR 45) 1 0)),bv (aC (aq cS (aR 46) 1 0)),bv (aC (aq cS (aR 47) 1 0)),bv (aC (aq cS (aR 48) 1 0)),bv (aC (aq cS (aR 49) 1 0)),bv (aC (aq cS (aR 50) 1 0)),bv (aC (aq cS (aR 51) 1 0)),bv (aC (aq cS (aR 52) 1 0)),bv (aC (aq cS (aR 53) 1 0)),bv (aC (aq cS (aR 54) 1 0)),bv (aC (aq cS (aR 55) 1 0)),bv (aC (aq cS (aR 56) 1 0)),bv (aC (aq cS (aR 57) 1 0)),bv (aC (aq cS (aR 58) 1 0)),bv (aC (aq cS (aR 59) 1 0)),bv (aC (aq cS (aR 60) 1 0)),bv (aC (aq cS (aR 61) 1 0)),bv (aC (aq cS (aR 62) 1 0)),bv (aC (aq cS (aR 63) 1 0)),bv (aC (aq cS R6 1 0)),bv (aC (aq cS (aR 65) 1 0)),bv (aC (aq cS (aR 66) 1 0)),bv (aC (aq cS (aR 67) 1 0)),bv (aC (aq cS (aR 68) 1 0)),bv (aC (aq cS (aR 69) 1 0)),bv (aC (aq cS (aR 70) 1 0)),bv (aC (aq cS (aR 71) 1 0)),bv (aC (aq cS (aR 72) 1 0)),bv (aC (aq cS (aR 73) 1 0)),bv (aC (aq cS (aR 74) 1 0)),bv (aC (aq cS (aR 75) 1 0)),bv (aC (aq cS (aR 76) 1 0)),bv (aC (aq cS (aR 77) 1 0)),bv (aC (aq cS (aR 78) 1 0)),bv (aC (aq cS (aR 79) 1 0)),bv (aC (aq cS (aR 80) 1 0)),bv (aC (aq cS (aR 81) 1 0)),bv (aC (aq cS (aR 82) 1 0)),bv (aC (aq cS (aR 83) 1 0)),bv (aC (aq cS (aR 84) 1 0)),bv (aC (aq cS (aR 85) 1 0)),bv (aC (aq cS (aR 86) 1 0)),bv (aC (aq cS (aR 87) 1 0)),bv (aC (aq cS (aR 88) 1 0)),bv (aC (aq cS (aR 89) 1 0)),bv (aC (aq cS (aR 90) 1 0)),bv (aC (aq cS (aR 91) 1 0)),bv (aC (aq cS (aR 92) 1 0)),bv (aC (aq cS (aR 93) 1 0)),bv (aC (aq cS (aR 94) 1 0)),bv (aC (aq cS (aR 95) 1 0)),bv (aC (aq cS (aR 96) 1 0)),bv (aC (aq cS (aR 97) 1 0)),bv (aC (aq cS (aR 98) 1 0)),bv (aC (aq cS (aR 99) 1 0)),bv (aC (aq cS (aR 100) 1 0)),bv (aC (aq cS (aR 101) 1 0)),bv (aC (aq cS (aR 102) 1 0)),bv (aC (aq cS (aR 103) 1 0)),bv (aC (aq cS (aR 104) 1 0)),bv (aC (aq cS (aR 105) 1 0)),bv (aC (aq cS (aR 106) 1 0)),bv (aC (aq cS (aR 107) 1 0)),bv (aC (aq cS (aR 108) 1 0)),bv (aC (aq cS (aR 109) 1 0)),bv (aC (aq cS (aR 110) 1 0)),bv (aC (aq cS (aR 111) 1 0)),bv (aC (aq cS (aR 112) 1 0)),bv (aC (aq cS (aR 113) 1 0)),bv (aC (aq cS (aR 114) 1 0)),bv (aC (aq cS (aR 115) 1 0)),bv (aC (aq cS (aR 116) 1 0)),bv (aC (aq cS (aR 117) 1 0)),bv (aC (aq cS (aR 118) 1 0)),bv (aC (aq cS (aR 119) 1 0)),bv (aC (aq cS (aR 120) 1 0)),bv (aC (aq cS (aR 121) 1 0)),bv (aC (aq cS (aR 122) 1 0)),bv (aC (aq cS (aR 123) 1 0)),bv (aC (aq cS (aR 124) 1 0)),bv (aC (aq cS (aR 125) 1 0)),bv (aC (aq cS (aR 126) 1 0)),bv (aC (aq cS (aR 127) 1 0))]))::(ahM::W31))))))))),[(27,Hm)],28⟩ ⟨aoC,[(27,none)]⟩ ⟨fC 5,⟨(iY (u4 (u1 (az7::(u64 Am))))),[(27,Hm)],28⟩,1⟩ dN (aa (ay i7 W8) (am auz (aa (aC (aq cS i7 1 0)) (am asa (ai (aL ⟨[cW j3 (ao cn i7),asp],[(27,some 29)]⟩))) (ai (aL ⟨[j3,asp],aso⟩)))) (ai (bE 0 ⟨[j3],aso⟩))) (ai (aF [j3])) dL))) dL) dL))))))))
theorem X5:fF uB uA f238 xC=true:=by kernel_rfl
def lE:=dj uB uA xC
def IC:Ct:=dl uB X5 func238 call238 rfl
def CF(N:Nat)(a b:PD):Oo:=bif eqB a.n 4 then oB 0 [.i 3]else bif eqB a.n 5 then oB 0 [.i 3]else bif eqB a.n 6 then oB 0 [.i 3]else oB 0 [qi b]
def pQ(N:Nat)(a b c d:PD):Oo:=bif cY d.n 0 then aI (bC 0 c.n)<|aI (ltB c.n 128)<|aI (ltB c.n (bH a.q 1))<|oA [PD.l (cM a.q c.n 1 0 (PD.i 1)),.i (aH (b.n+1))]else oA [a,.i (aH (b.n+1))]
def pP:Oo:=bif ltB f.n (aH ((aH (d.n-(aH (Int.tdiv b.n 2))))+b.n))then aB (gw [qi f,qi a,qi c]) 2 fun r=>pQ N e f (gg r 0) (gg r 1)else oB 0 [e]
def mL(N:Nat)(a b:PD):Oo:=oA [.i (aH (a.n+1)),b]
def PH(N:Nat):Oo:=oB 0 []
def PG(N:Nat)(a b:PD):Oo:=oA [.i (aH (a.n+1)),b]
def CE:Oo:=bif ltB f.n (aH (((el b.q d.n 2 0).n)+(bH ((el b.q d.n 2 1).q) 1)))then aB (gw [qi f,qi a,qi c]) 2 fun r=>pQ N e f (gg r 0) (gg r 1)else oB 0 [e]
def uC:Oo:=bif ltB e.n (aH (c.n+1))then aB (gw [qi e,qi a,qi b]) 2 fun r=>pQ N d e (gg r 0) (gg r 1)else oB 0 [d]
def pO:Oo:=
 let i:=aH (g.n-(aH (Int.tdiv d.n 2)))
 bif ltB g.n c.n then bif eqB a.n 1 then bi (aO (fun S=>pP N b d f g (gg S 0) (gg S 1)) N [h,.i i]) (fun X=>mL N g (gg X 0)) (fun X=>none)else bif eqB a.n 2 then bi (aO (fun S=>pP N b d f g (gg S 0) (gg S 1)) N [h,.i i]) (fun X=>mL N g (gg X 0)) (fun X=>none)else bif eqB a.n 3 then bif bC (bH e.q 2) g.n then bi (aO (fun S=>PH N) N []) (fun X=>PG N g h) (fun X=>none)else aI (bC 0 g.n)<|bi (aO (fun S=>CE N b e f g (gg S 0) (gg S 1)) N [h,el e.q g.n 2 0]) (fun X=>mL N g (gg X 0)) (fun X=>none)else bi (aO (fun S=>uC N b f g (gg S 0) (gg S 1)) N [h,qi g]) (fun X=>mL N g (gg X 0)) (fun X=>none)else oB 0 [h]
def qO(N:Nat)(a b c:PD):Oo:=bif ltB c.n 128 then aI (bC 0 c.n)<|bif cY ((el a.q c.n 1 0).n) 0 then aI (bC ((bH b.q 1)+1) 1000000)<|oA [PD.l (b.q++([]++[qi c])),.i (aH (c.n+1))]else oA [b,.i (aH (c.n+1))]else oB 0 [b]
def acv(N:Nat)(a:PD):Oo:=oF [ql a]
def xD:Oo:=aI (ltB 0 (bH a.q 1))<|aI (bC 128 (bH a.q 1))<|bi (aO (fun S=>qO N a (gg S 0) (gg S 1)) N [PD.l [],.i 0]) (fun X=>acv N (gg X 0)) (fun X=>none)
def IE:Oo:=bi (aO (fun S=>pO N a b d e f g (gg S 0) (gg S 1)) N [qi c,PD.l (((((((((((((((((((((((((((((((((((((((((((((((((((((((((((((((((((((((((((((((((((((((((((((((((((((((((((((((((((((((((((((((([]++[PD.i 0])++[PD.i 0])++[PD.i 0])++[PD.i 0])++[PD.i 0])++[PD.i 0])++[PD.i 0])++[PD.i 0])++[PD.i 0])++[PD.i 0])++[PD.i 0])++[PD.i 0])++[PD.i 0])++[PD.i 0])++[PD.i 0])++[PD.i 0])++[PD.i 0])++[PD.i 0])++[PD.i 0])++[PD.i 0])++[PD.i 0])++[PD.i 0])++[PD.i 0])++[PD.i 0])++[PD.i 0])++[PD.i 0])++[PD.i 0])++[PD.i 0])++[PD.i 0])++[PD.i 0])++[PD.i 0])++[PD.i 0])++[PD.i 0])++[PD.i 0])++[PD.i 0])++[PD.i 0])++[PD.i 0])++[PD.i 0])++[PD.i 0])++[PD.i 0])++[PD.i 0])++[PD.i 0])++[PD.i 0])++[PD.i 0])++[PD.i 0])++[PD.i 0])++[PD.i 0])++[PD.i 0])++[PD.i 0])++[PD.i 0])++[PD.i 0])++[PD.i 0])++[PD.i 0])++[PD.i 0])++[PD.i 0])++[PD.i 0])++[PD.i 0])++[PD.i 0])++[PD.i 0])++[PD.i 0])++[PD.i 0])++[PD.i 0])++[PD.i 0])++[PD.i 0])++[PD.i 0])++[PD.i 0])++[PD.i 0])++[PD.i 0])++[PD.i 0])++[PD.i 0])++[PD.i 0])++[PD.i 0])++[PD.i 0])++[PD.i 0])++[PD.i 0])++[PD.i 0])++[PD.i 0])++[PD.i 0])++[PD.i 0])++[PD.i 0])++[PD.i 0])++[PD.i 0])++[PD.i 0])++[PD.i 0])++[PD.i 0])++[PD.i 0])++[PD.i 0])++[PD.i 0])++[PD.i 0])++[PD.i 0])++[PD.i 0])++[PD.i 0])++[PD.i 0])++[PD.i 0])++[PD.i 0])++[PD.i 0])++[PD.i 0])++[PD.i 0])++[PD.i 0])++[PD.i 0])++[PD.i 0])++[PD.i 0])++[PD.i 0])++[PD.i 0])++[PD.i 0])++[PD.i 0])++[PD.i 0])++[PD.i 0])++[PD.i 0])++[PD.i 0])++[PD.i 0])++[PD.i 0])++[PD.i 0])++[PD.i 0])++[PD.i 0])++[PD.i 0])++[PD.i 0])++[PD.i 0])++[PD.i 0])++[PD.i 0])++[PD.i 0])++[PD.i 0])++[PD.i 0])++[PD.i 0])++[PD.i 0])++[PD.i 0])++[PD.i 0])++[PD.i 0])]) (fun X=>xD N (gg X 0)) (fun X=>none)
def ID:Oo:=bif eqB h.n 0 then oF [PD.l []]else bi (aO (fun S=>CF N a b) N []) (fun X=>IE N a c d e f g (gg X 0)) (fun X=>none)
def PI:Oo:=bif ltB t.n 1 then oF [PD.l []]else bif ltB 128 t.n then oF [PD.l []]else bif ltB u.n 0 then oF [PD.l []]else bif ltB 128 u.n then oF [PD.l []]else bif ltB v.n 0 then oF [PD.l []]else bif ltB 128 v.n then oF [PD.l []]else aB (AG [qi a,qi b,qi c,.i (if d.n=0 then(0:Int)else 1),qi e,qi f,qi g,qi h,ql i,ql j,ql k,qi l,qi m,ql n,ql o,qi p,ql q,qi s]) 1 fun r=>ID N a e t u v w x (gg r 0)
theorem acu:dk N uB uA xC [a,b,c,d,e,f,g,h,i,j,k,l,m,n,o,p,q,s,t,u,v,w,x]=PI N a b c d e f g h i j k l m n o p q s t u v w x:=by kernel_rfl
def ux:dO:=⟨[Ak,W1,W1],[],0,W4,false⟩
def uy:List Ct:=[]
def xz:PL:=aT 2 4 ⟨(u1 (W94::(AL::(u4 (u2 (Ju::(an2::(aoE::W95)))))))),W96,4⟩ Fk ⟨la,⟨ayS,[],4⟩,0⟩ ⟨qT,⟨(u4 (u2 (ax2::(iY JB)))),[],4⟩,0⟩ (aa (ay gK W56) (am adv (aa (aD W9 aDy) (aa (ay aDy dU) l7 aCP) aCP)) C1) dp C0
theorem X1:fF uy ux f205 xz=true:=by kernel_rfl
def xA:=dj uy ux xz
def acq:Ct:=dl uy X1 func205 call205 rfl
def uz(N:Nat)(a b c d:PD):Oo:=
 let e:=(el a.q d.n 1 0).n
 bif ltB d.n (bH a.q 1)then aI (bC 0 d.n)<|bif bC b.n e then bif ltB e c.n then oB 1 []else oA [.i (aH (d.n+1))]else oA [.i (aH (d.n+1))]else oB 0 []
def ag3(N:Nat):Oo:=oF [.i 0]
def ag2(N:Nat):Oo:=oF [.i 1]
def PB:Oo:=bi (aO (fun S=>uz N a b c (gg S 0)) N [.i 0]) (fun X=>ag3 N) (fun X=>ag2 N)
theorem acp:dk N uy ux xz [a,b,c]=PB N a b c:=by kernel_rfl
def xB:dO:=⟨[x8,W1,W1,W1,W1,Ai],[],0,[Ak],false⟩
def zJ:List Ct:=[zI,IC,acq]
def CD:PL:=an 0 [eh,d5,eE,fZ] (aa ah5 Fn (aa adn Fn (aa l9 (an 1 [W6,W9,dU,vn,et,e7,fP,dq,gR,fa,ll,eK,fj,hO,iJ,fI,iI,eo,eh,gQ,iy,Fl,hO] (an 1 [W6,W9,dU,vn,et,e7,fP,dq,gR,fa,ll,eK,fj,hO,iJ,fI,iI,eo,d5,gm,gZ,ah8,iJ] az0)) (an 1 [W6,W9,dU,vn,et,e7,fP,dq,gR,fa,ll,eK,fj,hO,iJ,fI,iI,eo,eh,gQ,iy,fP,hO] (an 1 [W6,W9,dU,vn,et,e7,fP,dq,gR,fa,ll,eK,fj,hO,iJ,fI,iI,eo,d5,gm,gZ,dq,iJ] az0)))))
theorem acs:fF zJ xB f148 CD=true:=by kernel_rfl
def PC:=dj zJ xB CD
def ag5:Ct:=dl zJ acs func148 call148 rfl
def U6(N:Nat)(a b c d e:PD):Oo:=bif cY e.n 0 then aI (bC ((bH c.q 1)+1) 1000000)<|oA [PD.l (c.q++([]++[PD.i (aH ((aH (b.n*a.n))+d.n))])),.i (aH (d.n+1))]else oA [c,.i (aH (d.n+1))]
def U5:Oo:=bif cY g.n 0 then aB (xA [ql c,.i (aH (d.n*a.n)),.i (aH ((aH (d.n+1))*a.n))]) 1 fun r=>U6 N b d e f (gg r 0)else oA [e,.i (aH (f.n+1))]
def so:Oo:=bif ltB h.n c.n then aB (xA [ql d,.i (aH (h.n*a.n)),.i (aH ((aH (h.n+1))*a.n))]) 1 fun r=>U5 N b c e f g h (gg r 0)else oB 0 [g]
def U4(N:Nat)(a b:PD):Oo:=oA [b,.i (aH (a.n+1))]
def zL:Oo:=bif ltB h.n d.n then bi (aO (fun S=>so N a b c e f h (gg S 0) (gg S 1)) N [g,.i 0]) (fun X=>U4 N h (gg X 0)) (fun X=>none)else oB 0 [g]
def anp(N:Nat)(a:PD):Oo:=oF [ql a]
def zK:Oo:=bi (aO (fun S=>zL N a b c d e f (gg S 0) (gg S 1)) N [PD.l [],.i 0]) (fun X=>anp N (gg X 0)) (fun X=>none)
def U3:Oo:=aB (lE [qi a,qi b,qi c,.i (if d.n=0 then(0:Int)else 1),qi e,qi f,qi g,qi h,ql i,ql j,ql k,qi l,qi m,ql n,ql o,qi p,ql q,qi s,qi t,qi w,qi x,.i (bH k.q 1),ql o]) 1 fun r=>zK N u v y z A (gg r 0)
def U2:Oo:=aB (lE [qi a,qi b,qi c,.i (if d.n=0 then(0:Int)else 1),qi e,qi f,qi g,qi h,ql i,ql j,ql k,qi l,qi m,ql n,ql o,qi p,ql q,qi s,qi t,qi w,qi x,qi h,ql o]) 1 fun r=>zK N u v y z A (gg r 0)
def PE:Oo:=
 let D:=if d.n=0 then(0:Int)else 1
 bif eqB B.n 0 then oF [PD.l []]else bif eqB C.n 0 then oF [PD.l []]else bif eqB a.n 2 then aB (lE [qi a,qi b,qi c,.i D,qi e,qi f,qi g,qi h,ql i,ql j,ql k,qi l,qi m,ql n,ql o,qi p,ql q,qi s,qi t,qi x,qi z,.i (bH j.q 1),ql n]) 1 fun r=>U3 N a b c d e f g h i j k l m n o p q s u v w y A B C (gg r 0)else aB (lE [qi a,qi b,qi c,.i D,qi e,qi f,qi g,qi h,ql i,ql j,ql k,qi l,qi m,ql n,ql o,qi p,ql q,qi s,qi t,qi x,qi z,qi g,ql n]) 1 fun r=>U2 N a b c d e f g h i j k l m n o p q s u v w y A B C (gg r 0)
def X3:Oo:=aB (oY [qi t,qi u,qi v,qi w]) 2 fun r=>PE N a b c d e f g h i j k l m n o p q s t u v w x y z A (gg r 0) (gg r 1)
theorem ag4:dk N zJ xB CD [a,b,c,d,e,f,g,h,i,j,k,l,m,n,o,p,q,s,t,u,v,w,x,y,z,A]=X3 N a b c d e f g h i j k l m n o p q s t u v w x y z A:=by kernel_rfl
def wP:dO:=⟨[x8,W1,Ai],[],0,kE,false⟩
def zm:List Ct:=[IC,alj]
def B6:PL:=aa pZ (an 1 [bf qk (bf (aQ (aG adU fP) W5) (aQ (aG akS dq) W5)),Ao,Qi] Vy) (aa l9 (an 1 [bf qk (bf adU (aQ (aG akS ah8) W5)),Ao,Qi] Vy) (aa CV (an 0 [W6,W9,dU,vn,et,e7,fP,dq,gR,fa,ll,eK,fj,hO,iJ,fI,iI,eo,eh,eE,gQ,dq,iJ] (an 1 [bf qk (bf adU ac5),Ao,Qi] QC)) (aa vp (an 1 [bf qk fI,Ao,Qi] Vy) (aa uS (an 1 [bf qk (aG (aG adU akS) W5),Ao,Qi] Vy) (aa vo (an 1 [bf qk adU,Ao,Qi] Vy) (an 1 [aJ,Ao,Qi] Vy))))))
theorem abe:fF zm wP f151 B6=true:=by kernel_rfl
def B7:=dj zm wP B6
def agb:Ct:=dl zm abe func151 call151 rfl
def mC(N:Nat)(a:PD):Oo:=oF [qi a]
def Ud(N:Nat)(a:PD):Oo:=oF [qi a]
def Uc:Oo:=aB (j9 [.i (aH (8*(aH ((aH (b.n-a.n))*(bH c.q 1))))),.i 16,.i 1048576]) 2 fun r=>Ud N (gg r 0)
def Xd:Oo:=
 let y:=aH (w.n-u.n)
 let z:=aH (x.n-v.n)
 bif eqB a.n 1 then aB (j9 [.i (aH (8*(aH ((aH ((aH (y+g.n))-1))*(aH ((aH (z+h.n))-1)))))),.i 16,.i 1048576]) 2 fun r=>mC N (gg r 0)else bif eqB a.n 2 then aB (j9 [.i (aH (8*(aH (y*(aH ((aH (z+(bH k.q 1)))-1)))))),.i 16,.i 1048576]) 2 fun r=>mC N (gg r 0)else bif eqB a.n 3 then aB (lE [qi a,qi b,qi c,.i (if d.n=0 then(0:Int)else 1),qi e,qi f,qi g,qi h,ql i,ql j,ql k,qi l,qi m,ql n,ql o,qi p,ql q,qi s,qi t,qi v,qi x,qi h,ql o]) 1 fun r=>Uc N u w (gg r 0)else bif eqB a.n 4 then aB (j9 [.i (aH (8*p.n)),.i 16,.i 1048576]) 2 fun r=>mC N (gg r 0)else bif eqB a.n 5 then aB (j9 [.i (aH (8*(aH ((aH (y+z))+1)))),.i 16,.i 1048576]) 2 fun r=>mC N (gg r 0)else bif eqB a.n 6 then aB (j9 [.i (aH (8*y)),.i 16,.i 1048576]) 2 fun r=>mC N (gg r 0)else aB (j9 [.i 0,.i 16,.i 1048576]) 2 fun r=>mC N (gg r 0)
theorem aga:dk N zm wP B6 [a,b,c,d,e,f,g,h,i,j,k,l,m,n,o,p,q,s,t,u,v,w,x]=Xd N a b c d e f g h i j k l m n o p q s t u v w x:=by kernel_rfl
end
end Go.Proofs.YtlchkibailfldaaGreat.Ex
namespace Go.Proofs.YtlchkibailfldaaGreat.Ex
open Go Go.RowKit Go.Shelf
section
set_option maxRecDepth 100000
def apc:Go.Shelf.Ren:=⟨fun|189=>149|125=>207|257=>206|128=>248|129=>249|294=>239|295=>240|296=>241|297=>242|298=>243|299=>244|216=>245|300=>246|301=>247|328=>267|329=>268|330=>269|331=>270|332=>271|215=>272|343=>288|n=>n,fun|28=>22|3=>3|46=>253|0=>0|51=>311|53=>252|4=>4|183=>306|182=>305|131=>102|5=>5|9=>9|218=>325|222=>329|228=>338|229=>162|n=>n,fun|n=>n⟩
theorem SG:Go.Proofs.Lays.n189 Tryz.prog apc:={
 mixed:=by kernel_rfl
 f125:=Tryz.func207.trans (congrArg some (by kernel_rfl))
 f128:=Tryz.func248.trans (congrArg some (by kernel_rfl))
 f129:=Tryz.func249.trans (congrArg some (by kernel_rfl))
 f189:=Tryz.func149.trans (congrArg some (by kernel_rfl))
 f215:=Tryz.func272.trans (congrArg some (by kernel_rfl))
 f216:=Tryz.func245.trans (congrArg some (by kernel_rfl))
 f257:=Tryz.func206.trans (congrArg some (by kernel_rfl))
 f294:=Tryz.func239.trans (congrArg some (by kernel_rfl))
 f295:=Tryz.func240.trans (congrArg some (by kernel_rfl))
 f296:=Tryz.func241.trans (congrArg some (by kernel_rfl))
 f297:=Tryz.func242.trans (congrArg some (by kernel_rfl))
 f298:=Tryz.func243.trans (congrArg some (by kernel_rfl))
 f299:=Tryz.func244.trans (congrArg some (by kernel_rfl))
 f300:=Tryz.func246.trans (congrArg some (by kernel_rfl))
 f301:=Tryz.func247.trans (congrArg some (by kernel_rfl))
 f328:=Tryz.func267.trans (congrArg some (by kernel_rfl))
 f329:=Tryz.func268.trans (congrArg some (by kernel_rfl))
 f330:=Tryz.func269.trans (congrArg some (by kernel_rfl))
 f331:=Tryz.func270.trans (congrArg some (by kernel_rfl))
 f332:=Tryz.func271.trans (congrArg some (by kernel_rfl))
 f343:=Tryz.func288.trans (congrArg some (by kernel_rfl))
 t0:=Tryz.underlying0
 a0:=Tryz.isAgg0
 z0:=Tryz.sizeOf0
 v0:=Tryz.zeroValue0
 t3:=Tryz.underlying3
 a3:=Tryz.isAgg3
 z3:=Tryz.sizeOf3
 v3:=Tryz.zeroValue3
 t4:=Tryz.underlying4
 a4:=Tryz.isAgg4
 z4:=Tryz.sizeOf4
 v4:=Tryz.zeroValue4
 t5:=Tryz.underlying5
 a5:=Tryz.isAgg5
 z5:=Tryz.sizeOf5
 v5:=Tryz.zeroValue5
 t9:=Tryz.underlying9
 a9:=Tryz.isAgg9
 z9:=Tryz.sizeOf9
 v9:=Tryz.zeroValue9
 t28:=Tryz.underlying22
 a28:=Tryz.isAgg22
 z28:=Tryz.sizeOf22
 v28:=Tryz.zeroValue22
 t46:=Tryz.underlying253
 a46:=Tryz.isAgg253
 z46:=Tryz.sizeOf253
 v46:=Tryz.zeroValue253
 t51:=Tryz.underlying311
 a51:=Tryz.isAgg311
 z51:=Tryz.sizeOf311
 v51:=Tryz.zeroValue311
 t53:=Tryz.underlying252
 a53:=Tryz.isAgg252
 z53:=Tryz.sizeOf252
 v53:=Tryz.zeroValue252
 t131:=Tryz.underlying102
 a131:=Tryz.isAgg102
 z131:=Tryz.sizeOf102
 v131:=Tryz.zeroValue102
 t182:=Tryz.underlying305
 a182:=Tryz.isAgg305
 z182:=Tryz.sizeOf305
 v182:=Tryz.zeroValue305
 t183:=Tryz.underlying306
 a183:=Tryz.isAgg306
 z183:=Tryz.sizeOf306
 v183:=Tryz.zeroValue306
 t218:=Tryz.underlying325
 a218:=Tryz.isAgg325
 z218:=Tryz.sizeOf325
 v218:=Tryz.zeroValue325
 t222:=Tryz.underlying329
 a222:=Tryz.isAgg329
 z222:=Tryz.sizeOf329
 v222:=Tryz.zeroValue329
 t228:=Tryz.underlying338
 a228:=Tryz.isAgg338
 z228:=Tryz.sizeOf338
 v228:=Tryz.zeroValue338
 t229:=Tryz.underlying162
 a229:=Tryz.isAgg162
 z229:=Tryz.sizeOf162
 v229:=Tryz.zeroValue162}
def aeI:dO:={args:=[.one (.lst [.int .i64])],outs:=[.one (.lst [.int .i64])],rw:=true}
def uZ(l:List Int):List Int:=l.mergeSort fun x y=>decide (x<=y)
def rT:List PD->Option (List PD)
 | [.l xs]=>some [.l ((uZ (xs.map PD.n)).map PD.i)]
 |_=>none
theorem rS(l:List Int):(uZ l).length=l.length:=(List.mergeSort_perm l _).length_eq
theorem apb:aA_ Tryz.prog 149 rT:=by
 refine⟨fun w rs h=>?_,fun w b off c e arr xs rs hb hx hl h=>?_⟩
 ·have h:some [PD.l ((uZ []).map PD.i)]=some rs:=h;have hn:uZ []=[]:=List.length_eq_zero_iff.1 (by rw[rS];rfl)
  rw[hn]at h;cases h;refine(Any.slices_Sort_int_none SG none 0 w).mono ?_;rintro en w' ⟨rfl,rfl⟩;exact⟨rfl,rfl,⟨fun _ _ _=>rfl,bD _,rfl,rfl,rfl⟩⟩
 ·have h:some [PD.l ((uZ ((xs.map PD.i).map PD.n)).map PD.i)]=some rs:=h;have hm:(xs.map PD.i).map PD.n=xs:=by
   rw[List.map_map];exact(cg fun _ _=>rfl).trans (List.map_id _)
  rw[hm]at h;cases h;have hbl:b<w.heap.size:=(cP.1 hb).1;refine(Any.slices_Sort_int SG b off c xs w (fun j hj=>?_) hbl (by omega)).mono ?_
  ·have hj:j<xs.length:=by simpa using hj
   have h1:=hx j _ (aj hj);refine⟨?_,?_⟩
   ·unfold World.cell?;rw[hb]
    show arr[off+j]?=_
    rw[h1];simp[getElem!_pos,hj]
   ·unfold World.frozen?;rw[hb];simp
  ·rintro en w' ⟨rfl,n,os,rfl⟩;have hw:(Go.Sort.grow (Go.Sort.putRow (Value.int .i64) (Go.Sort.ahead w n) b off (uZ xs).toArray) os).heap=(w.heap.modify b (Go.Sort.onCells (Go.Sort.putCells (Value.int .i64) off (uZ xs).toArray)))++os:=rfl;refine⟨rfl,uZ xs,rfl,rS xs,⟨fun q hq hne=>?_,?_,rfl,rfl,rfl⟩,Go.Sort.putCells (Value.int .i64) off (uZ xs).toArray arr,?_,?_,fun j y hj=>?_,fun j hj=>?_⟩
   ·show((w.heap.modify b _)++os)[q]?=_
    rw[Array.getElem?_append_left (by rw[Array.size_modify];exact hq),Array.getElem?_modify,ak (fun e=>hne (by rw[e]))]
   ·show _<=((w.heap.modify b _)++os).size
    rw[Array.size_append,Array.size_modify];omega
   ·show((w.heap.modify b _)++os)[b]?=_
    rw[Array.getElem?_append_left (by rw[Array.size_modify];exact hbl),Array.getElem?_modify,ab rfl,hb]
    rfl
   ·unfold Go.Sort.putCells;simp
   ·obtain⟨hjl,hjy⟩:=av.1 hj;have hjx:j<xs.length:=by rw[<-rS];exact hjl
    have h1:=hx j _ (aj hjx);unfold Go.Sort.putCells;rw[Array.getElem?_mapIdx,h1,de,ab ⟨by omega,by simp;omega⟩]
    simp[cN,hjl,hjy]
   ·unfold Go.Sort.putCells;rw[Array.getElem?_mapIdx];cases hj':arr[j]? with
    |none=>rfl
    |some y=>
     rw[de,ak];intro hc;have:(uZ xs).toArray.size=xs.length:=by simp[rS]
     rw[this]at hc;omega
theorem alG:Aq Tryz.prog 149 aeI rT:=
 ⟨Tryz.call149,(fun h=>by cases h),fun _=>apb⟩
noncomputable def alH:Ct:=⟨_,_,_,alG⟩
end
end Go.Proofs.YtlchkibailfldaaGreat.Ex
