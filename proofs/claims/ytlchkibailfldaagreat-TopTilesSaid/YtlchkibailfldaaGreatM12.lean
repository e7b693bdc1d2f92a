/-
  Part 12 of the proof that TopTiles returns true at every call and leaves what it was given as it was; no condition beyond the row's own.
-/
import Derived.Test.YtlchkibailfldaaGreatM10
import Derived.Test.YtlchkibailfldaaGreatM11
set_option linter.unusedVariables false
set_option linter.unusedSimpArgs false
set_option linter.unusedSectionVars false
namespace Go.Proofs.YtlchkibailfldaaGreat.Ex
noncomputable section
open Go Go.RowKit Tryz
set_option maxRecDepth 100000
variable (N:Nat)(a b c d e f g h i j k l m n o p q s t u v w x y z A B C D E F G H I J K L M O P Q R T U9 V9 W Y Z:PD)
def A2:dO:=⟨[vq,Kn,Ak,Ak,W1,W1,W1,Ai],[],0,Jt,false⟩
def Dg:List Ct:=[hD,zW,KP,jB,jT,Zv,mM,zO]
def FI:PL:=an 0 RQ (aa R4 Ah (an 1 [et,e7,dU] (aa aod Ah (an 2 [dU,gY,qS,lH,fb,fT] (aa asW axp (an 3 asu (aa (aC eh) qc (an 4 axo (aa aCS qc (am (aD aJ Ft) (am (aD Ft f_) (aT 11 27 ⟨aAQ,[auL,iZ,nO,l4,uN,Jq,rK,ak5,VL],28⟩ ⟨[P4 Ft (df cn cn),aJ],[(27,none)]⟩ ⟨la,⟨(u2 (u1 (yg::(u1 (lM::(jv::(u8 (u1 (kV::(u2 (x6::(Fs::(u64 (u64 axh)))))))))))))),[iZ,rK,ak5,VL],28⟩,1⟩ dN (aa (ay fZ Ft) (an 5 [W6,W9,dU,jd,et,e7,aQ eK (dD Jw fv),aG (aQ fj (dD Jv fv)) fZ,aQ (aG Ff Jw) W5] (am (aD aJ Ff) (am (aD Ff f_) (am (aD Ft ac6) (am auK (am (ay fZ ac6) (aT 16 30 ⟨(u2 (Qk::(yg::(Hq::(lM::(jv::(u1 (uO::(mV::(u4 (u1 (Fe::(kV::(u2 (x6::(Fs::(iH::(auJ::(u64 aAP))))))))))))))))))),auH,30⟩ ⟨[auI,aJ],[]⟩ ⟨qg,⟨aAQ,[auL,iZ,nO,l4,uN,Jq,rK,ak5,aAO,(29,Qg)],30⟩,1⟩ dN (aa (ay iy VK) (aT 20 30 ⟨(u2 (Qk::(yg::(Hq::(lM::(jv::(u1 (uO::(mV::(u4 (u1 (Fe::(kV::(u2 (x6::(Fs::(iH::(auJ::(oR::(sB::(iO (iY (u8 (u4 (u2 (u1 (auM::(iH::(iO (u2 (u1 ((aV (aE (ax VK)))::(oR::(u2 (Qk::((aV (aE (ax Jw)))::(ac4::(u64 W98)))))))))))))))))))))))))))))))))))))),auH,30⟩ aih ⟨YF,⟨(u2 (Qk::(yg::(Hq::(lM::(jv::(u1 (uO::(mV::(u4 (u1 (Fe::(kV::(u2 (x6::(Fs::(iH::(auJ::(oR::(sB::(iO (iY (u8 (u4 (u2 aAP))))))))))))))))))))))))),auH,30⟩,1⟩ dN (aa (ay mX Jw) (am (aD aJ mX) (am (aD aJ auG) (am (ay auG asr) (am ad_ (ai (aL ⟨[aG gZ (bf (aq gY mX 1 0) (aq x7 auG 1 0)),aG mX W5],[]⟩)))))) (am ad_ aAN)) (an 6 [gZ,lH] (am ad_ (am (aD aJ iy) (am (ay iy ac5) (ai (aL ⟨[bW Ag iy 1 0 mX,aG iy W5],[]⟩)))))) dL) (am ad_ (ai (bE 0 ⟨[Ag],[]⟩)))) (am ad_ (ai (aL ⟨[dK oQ fZ 1 0 (ic Ag aJ VK 1),auF],[(27,some 30)]⟩))) dL))))))) (ai (bE 0 ⟨[oQ],aso⟩))) (am axn (am axm (aT 29 29 ⟨aAM,[iZ,rK,(25,aF0),VL,(29,asq)],30⟩ ⟨[aJ,ahN],[(29,some 28)]⟩ ⟨fC 6,⟨(iY (kV::(u2 (x6::(u64 (u64 aCI)))))),[rK,(25,a_ 0 39 [uM,vl,sH,bQ 29 1 aJ CW]),(29,ast)],30⟩,1⟩ dN (aa (ay fZ YA) (aT 32 30 ⟨(u2 (u1 (yg::(u1 (lM::(jv::(u8 (u1 (kV::(u2 (x6::(Fs::(u4 (u2 (iH::(u64 (u64 (u8 (u2 aAL))))))))))))))))))),[iZ,rK,(25,aw4),VL,(30,ahH)],31⟩ ⟨[aJ,x7],[(30,some 29)]⟩ ⟨fC 8,⟨aAM,[iZ,rK,(25,aF4),(30,Qg),VL],31⟩,1⟩ dN (aa (ay gm Ff) (aT 36 31 ⟨(u2 (u1 (yg::(u1 (lM::(jv::(u8 (u1 (kV::(u2 (x6::(Fs::(u4 (u2 (iH::(ahK::(sB::(u64 (u64 (u8 (auE::(iH::(u2 (u1 ((aV (aE uM))::(ahK::(u2 (yg::((aV (aE (ax Jv)))::(ac4::(iY JF))))))))))))))))))))))))))))))),aAK,31⟩ aih ⟨fC 10,⟨(u2 (u1 (yg::(u1 (lM::(jv::(u8 (u1 (kV::(u2 (x6::(Fs::(u4 (u2 (iH::(u1 (sB::(u64 (u64 (u8 aAL)))))))))))))))))))),aAK,31⟩,1⟩ dN (aa (ay mX Jv) (am (aD aJ mX) (am (aD Ft ac6) (am (aD aJ ad9) (am (ay ad9 Ft) (am (ay ad9 ac6) (am aCG (am (ay gm (bF (aq oQ ad9 1 0) 1)) (ai (aL ⟨[aG gZ (bf (aq qS mX 1 0) (aq (aq oQ ad9 1 0) gm 1 0)),aG mX W5],[]⟩))))))))) aAN) (an 6 [gZ,fb] (an 7 [mX,fT] (am aGc (ai (aL ⟨[axc,cW rM (ao cn i7)],[(30,some 34)]⟩))))) dL) aF2) (ai (aL ⟨[auF,Ag],[(29,some 30)]⟩)) dL) (ai (bE 0 ⟨[x7],[(29,some 29)]⟩))) (ai (aF [Ff,YA,fT,jJ,aJ])) dL))) dL))))))))))))
theorem aeE:fF Dg A2 f81 FI=true:=by kernel_rfl
def yq:=dj Dg A2 FI
def Sl:Ct:=dl Dg aeE func81 call81 rfl
def Dk(N:Nat)(a b c d e f g h:PD):Oo:=
 let i:=bC (bH (List.replicate (Int.toNat (aH (c.n-b.n))) (PD.i 0)) 1) (bH e.q 1)
 let j:=aH (f.n+h.n)
 bif ltB h.n (bH a.q 1)then aI (bC 0 h.n)<|aI (bC 0 j)<|aI (ltB j (bH d.q 1))<|aI i<|oA [.i (aH (g.n+(aH (((el a.q h.n 1 0).n)*((el d.q j 1 0).n))))),.i (aH (h.n+1))]else aI i<|oB 0 [qi g]
def Zt(N:Nat)(a b c d e:PD):Oo:=aI (bC (bH (List.replicate (Int.toNat (aH (b.n-a.n))) (PD.i 0)) 1) (bH c.q 1))<|aI (bC 0 d.n)<|aI (ltB d.n (bH c.q 1))<|oA [PD.l (cM c.q d.n 1 0 (qi e)),.i (aH (d.n+1))]
def Zs:Oo:=aB (gX [qi f,qi a]) 1 fun r=>Zt N b c d e (gg r 0)
def Dj:Oo:=
 let h:=bH (List.replicate (Int.toNat (aH (d.n-c.n))) (PD.i 0)) 1
 bif ltB g.n h then bi (aO (fun S=>Dk N a c d e f g (gg S 0) (gg S 1)) N [.i 0,.i 0]) (fun X=>Zs N b c d f g (gg X 0)) (fun X=>none)else aI (bC h (bH f.q 1))<|oB 0 [f]
def Zr(N:Nat)(a b c d e:PD):Oo:=
 let f:=bH (List.replicate (Int.toNat (aH (b.n-a.n))) (PD.i 0)) 1
 aI (bC f (bH e.q 1))<|oA [PD.l (cM c.q d.n 1 0 (PD.l (iv e.q 0 f 1))),.i (aH (d.n+1))]
def Zq:Oo:=
 let k:=aH (f.n-d.n)
 aI (bC 0 k)<|aI (bC k 1000000)<|aI (bC (aH ((aH ((aH (g.n-e.n))+(bH b.q 1)))-1)) (bH h.q 1))<|aI (bC 0 i.n)<|aI (ltB i.n (bH h.q 1))<|bi (aO (fun S=>Dj N a c d f j (gg S 0) (gg S 1)) N [PD.l (List.replicate (Int.toNat k) (PD.i 0)),.i 0]) (fun X=>Zr N d f h i (gg X 0)) (fun X=>none)
def Di:Oo:=bif ltB o.n (aH ((aH ((aH (m.n-k.n))+(bH h.q 1)))-1))then aB (HK [qi a,qi b,qi c,ql d,qi e,qi f,.i (aH (j.n-(aH (Int.tdiv (bH g.q 1) 2)))),.i (aH ((aH (k.n-(aH (Int.tdiv (bH h.q 1) 2))))+o.n)),.i (aH ((aH ((aH (l.n-j.n))+(bH g.q 1)))-1))]) 1 fun r=>Zq N g h i j k l m n o (gg r 0)else oB 0 [n]
def Dh(N:Nat)(a b c d e f g h:PD):Oo:=
 let i:=aH (e.n+h.n)
 let j:=aH ((aH ((aH (c.n-b.n))+(bH a.q 1)))-1)
 let k:=(el d.q i 1 0).q
 bif ltB h.n (bH a.q 1)then aI (bC 0 h.n)<|aI (bC j (bH d.q 1))<|aI (bC 0 i)<|aI (ltB i j)<|aI (ltB i (bH d.q 1))<|aI (bC 0 f.n)<|aI (ltB f.n (bH k 1))<|oA [.i (aH (g.n+(aH (((el a.q h.n 1 0).n)*((el k f.n 1 0).n))))),.i (aH (h.n+1))]else oB 0 [qi g]
def Zo(N:Nat)(a b c:PD):Oo:=aI (bC ((bH b.q 1)+1) 1000000)<|oA [.i (aH (a.n+1)),PD.l (b.q++([]++[qi c]))]
def Sv:Oo:=aB (o0 [qi d,qi a]) 1 fun r=>Zo N b c (gg r 0)
def Su:Oo:=aB (gX [qi e,qi a]) 1 fun r=>Sv N b c d (gg r 0)
def yt:Oo:=bif ltB j.n (aH (f.n-d.n))then bi (aO (fun S=>Dh N a e g h i j (gg S 0) (gg S 1)) N [.i 0,.i 0]) (fun X=>Su N b c j k (gg X 0)) (fun X=>none)else oB 0 [k]
def St(N:Nat)(a b:PD):Oo:=oA [.i (aH (a.n+1)),b]
def yr:Oo:=bif ltB i.n (aH (g.n-e.n))then bi (aO (fun S=>yt N a b c d e f g h i (gg S 0) (gg S 1)) N [.i 0,j]) (fun X=>St N i (gg X 0)) (fun X=>none)else oB 0 [j]
def Ss(N:Nat)(a b c d e f:PD):Oo:=oF [.i (aH (d.n-b.n)),.i (aH (e.n-c.n)),qi a,ql f,.i 0]
def Sr:Oo:=
 let i:=aH ((aH (f.n-d.n))*(aH (g.n-e.n)))
 aI (bC 0 i)<|aI (bC i 1000000)<|bi (aO (fun S=>yr N a b c d e f g h (gg S 0) (gg S 1)) N [.i 0,PD.l (List.replicate (Int.toNat 0) (PD.i 0))]) (fun X=>Ss N c d e f g (gg X 0)) (fun X=>none)
def Sq:Oo:=
 let q:=aH ((aH ((aH (o.n-m.n))+(bH h.q 1)))-1)
 bif eqB p.n 0 then oF [.i 0,.i 0,.i 0,PD.l [],.i 8]else aI (bC 0 q)<|aI (bC q 1000000)<|bi (aO (fun S=>Di N a b c d e f g h i l m n o (gg S 0) (gg S 1)) N [PD.l ((List.replicate (Int.toNat q) ([]++[PD.l []])).flatten),.i 0]) (fun X=>Sr N h j k l m n o (gg X 0)) (fun X=>none)
def Sp:Oo:=bif cY p.n 0 then oF [.i 0,.i 0,.i 0,PD.l [],.i 8]else aB (iC [qi l,qi m,qi n,qi o,.i 0,.i 0,qi a,qi b]) 1 fun r=>Sq N a b c d e f g h i j k l m n o (gg r 0)
def So:Oo:=bif cY (if p.n=0 then(0:Int)else 1) 0 then oF [.i 0,.i 0,.i 0,PD.l [],qi p]else aB (gW [qi l,qi m,qi n,qi o]) 1 fun r=>Sp N a b c d e f g h i j k l m n o (gg r 0)
def Sn:Oo:=bif eqB p.n 0 then oF [.i 0,.i 0,.i 0,PD.l [],.i 1]else aB (A4 [qi c,ql g,ql h,qi i,qi j,qi k]) 1 fun r=>So N a b c d e f g h i j k l m n o (gg r 0)
def Sm:Oo:=bif eqB p.n 0 then oF [.i 0,.i 0,.i 0,PD.l [],.i 1]else aB (o8 [qi e,qi f,qi c]) 1 fun r=>Sn N a b c d e f g h i j k l m n o (gg r 0)
def apa:Oo:=aB (eD [qi a,qi b,qi c,ql d]) 1 fun r=>Sm N a b c d e f g h i j k l m n o (gg r 0)
theorem alE:dk N Dg A2 FI [a,b,c,d,e,f,g,h,i,j,k,l,m,n,o]=apa N a b c d e f g h i j k l m n o:=by kernel_rfl
def Bc:dO:=⟨[vq,Kn,Hw,Hw,W1,W1,W1,Ai],[],0,Jt,false⟩
def Dr:List Ct:=[hD,zW,Li,jB,jT,ae7,mM,zO]
def FO:PL:=an 0 RQ (aa R4 Ah (an 1 [et,e7,dU] (aa aod Ah (an 2 [W6,W9,dU,gY,qS,lH,fb,fT] (aa asW axp (an 3 asu (aa (aC eh) qc (an 4 [eK,fj,i9,i8,aJ,aJ,aoe,bF qS 2] (aa aCS qc (am ata (am (aD fj i8) (am (aD i8 (bF qS 2)) (aT 13 30 ⟨aAI,[qV,sN,sM,sL,nO,l4,uN,sK,(28,E7 jQ oQ ⟨some 30,true⟩),ye,sJ,yd],32⟩ ⟨[cn,aJ,cn],[(30,none),(31,none)]⟩ ⟨la,⟨(iY (yf::(u4 (u1 (Fr::an_))))),[qV,(29,a_ 0 39 [uM,vl,sH,bQ 31 1 aJ ac6]),(31,axl)],32⟩,1⟩ dN (aa (ay fZ (bF VJ 2)) (am auK (am (aD aJ Ff) (am (aD Ff f_) (aT 17 34 ⟨(u4 (u1 (lM::(jv::(u8 (u1 (yf::(u2 (u1 (ac8::(IN::(Fr::(u1 (ad5::((aV (aE (bQ 33 1 aJ ac5)))::auB))))))))))))))),[qV,sN,sM,sL,nO,l4,uN,sK,QB,ye,yd,Fq,sJ,(33,Qg)],35⟩ ⟨[auI,oQ,aJ],[(34,some 30)]⟩ ⟨qg,⟨(u4 (u1 (lM::(jv::(u8 (u1 (yf::(u2 (u1 (ac8::(IN::(Fr::(u2 (aAF::(u64 (u4 aAJ)))))))))))))))),[qV,sN,sM,sL,nO,l4,uN,sK,auA,ye,yd,(33,ahH),sJ],35⟩,2⟩ dN (aa (ay gZ aAG) (am asb (aa (aC (Yo rM QA 0)) (am (ay aJ (bF ad4 1)) (aT 23 37 ⟨(u4 (u1 (lM::(jv::(u8 (u1 (yf::(u2 (u1 (ac8::(IN::(Fr::(u1 (ad5::(aAE::(u1 ((aV (aE (ax ak4)))::(u64 (u2 (ad8::(ad7::(iH::(u4 (u2 (u1 (auD::(auC::(sB::(iY (u2 (u1 ((aV (aE aDj))::((aV (aE (ax (bF ad4 1))))::(ahM::aoj)))))))))))))))))))))))))))))))))),[qV,sN,sM,sL,nO,l4,uN,sK,QB,ye,yd,Fq,sJ,(33,Hm),(36,bZ true jQ ad4)],37⟩ ⟨[Ag,aJ],[]⟩ ⟨YF,⟨(u4 (u1 (lM::(jv::(u8 (u1 (yf::(u2 (u1 (ac8::(IN::(Fr::(u1 (ad5::(aAE::auB))))))))))))))),[qV,sN,sM,sL,nO,l4,uN,sK,QB,ye,yd,Fq,sJ,(33,Hm)],37⟩,1⟩ dN (aa (ay i7 (bF ad4 1)) (am auz (am (ay i7 Af) (ai (aL ⟨[bW j3 i7 1 0 (aG (aq j3 i7 1 0) (bf ak4 (aq ad4 i7 1 0))),asp],[]⟩)))) aAD) (ai (aL ⟨[j3,rM,RO],[(34,some 34)]⟩)) dL)) (am (aD aJ eK) (am (aD eK i9) (am (aD i9 aoe) (aT 140000003 36 ⟨(auy::(u2 (uO::(mV::(kV::(u2 (ak3::(iY aAA)))))))),[nO,l4,uN,sK,sL,qV,sN,sM,QB,ye,yd,Fq,sJ,(33,Qg),(36,Hm)],37⟩ ⟨[ahN,aJ],[(36,some 35)]⟩ ⟨la,⟨(u8 (ak3::axb)),[(36,Hm),qV,sN,sM,sL,nO,l4,uN,sK,QB,ye,yd,Fq,sJ,(33,Qg)],37⟩,1⟩ dN (aa (ay i7 (bF VI 2)) (am auz (aT 140000007 38 ⟨(auy::(u2 (uO::(mV::(kV::(u2 (ak3::(u1 ((aV (aE (ew 37 0)))::(VH::(u8 (u4 (u1 (aAC::(aAB::(ahM::(u4 ((aV (aE aAz))::((aV (aE (ax aAy)))::((aV (aE (ax iU)))::aoJ)))))))))))))))))))),[nO,l4,uN,sK,(36,Hm),(37,a_ 0 213 [ax (aq VI i7 2 0),aAz]),sL,qV,sN,sM,QB,ye,yd,Fq,sJ,(33,Qg)],38⟩ aih ⟨qg,⟨(auy::(u2 (uO::(mV::(kV::(u2 (ak3::(u2 (VH::(u8 (u4 (u1 aAA)))))))))))),[nO,l4,uN,sK,(36,Hm),sL,qV,sN,sM,QB,ye,yd,Fq,sJ,(33,Qg)],38⟩,1⟩ dN (aa (ay iU aAy) (am ad3 (an 5 [W6,W9,dU,jd,et,e7,aG (aq VI i7 2 0) iU,QA] (ai (aL ⟨[aG gf (bf (aq (aq VI i7 2 1) iU 1 0) kn),aG iU W5],[]⟩)))) (ai (bE 0 ⟨[gf],[]⟩))) (an 6 [gf,lH] (am asa (ai (aL ⟨[aF3,asp],[(36,some 40)]⟩)))) dL)) (ai (bE 0 ⟨[j3],[(36,some 36)]⟩))) (am (aC (Yo ak2 QA 0)) (aT 23 39 ⟨(u4 (u1 (lM::(jv::(u8 (u1 (yf::(u2 (u1 (ac8::(IN::(Fr::(u1 (ad5::(aAx::(u1 ((aV (aE (ax ak4)))::(u64 (u2 (ad8::(ad7::(iH::(u4 (u2 (u1 (auD::(auC::(sB::(iY (u2 (u1 ((aV (aE (cK 38 lm)))::((aV (aE (ax (bF ak1 1))))::(VH::aoj)))))))))))))))))))))))))))))))))),[qV,sN,sM,sL,nO,l4,uN,sK,aAw,ye,yd,Fq,sJ,(33,ad2),(38,bZ true jQ ak1)],39⟩ ⟨[Ag,aJ],[]⟩ ⟨YF,⟨(u4 (u1 (lM::(jv::(u8 (u1 (yf::(u2 (u1 (ac8::(IN::(Fr::(u1 (ad5::(aAx::auB))))))))))))))),[qV,sN,sM,sL,nO,l4,uN,sK,aAw,ye,yd,Fq,sJ,(33,ad2)],39⟩,1⟩ dN (aa (ay gf (bF ak1 1)) (am (aD aJ gf) (am (ay gf Qz) (ai (aL ⟨[bW nP gf 1 0 (aG (aq nP gf 1 0) (bf ak4 (aq ak1 gf 1 0))),ad1],[]⟩)))) ak0) (ai (aL ⟨[nP,ak2,RO],[(34,some 37)]⟩)) dL)) dL)))))) (ai (bE 0 ⟨[rM,Ag],[(34,some 34)]⟩))) (aT 29 35 ⟨(u4 (u1 (lM::(jv::(u8 (u1 (yf::(u2 (u1 (ac8::(IN::(Fr::(u64 (u4 (u2 (u1 (ad8::(ad7::(iH::(iO (u8 (u4 (u2 (u1 (aAF::(avb::(sB::W97))))))))))))))))))))))))))),[qV,sN,sM,sL,nO,l4,uN,sK,auA,(29,a_ 0 39 [uM,vl,sH,bQ 35 1 aJ Af]),sJ,(33,ahH),(35,Hm)],36⟩ ⟨[aJ,x7],[(35,some 31)]⟩ ⟨fC 6,⟨aAI,[qV,sN,sM,sL,nO,l4,uN,sK,auA,(29,a_ 0 39 [uM,vl,sH,bQ 35 1 aJ ahE]),(35,asc),sJ],36⟩,1⟩ dN (aa (ay gZ ahJ) (am asb (an 6 [vf,fb] (an 7 [i7,fT] (am asa (ai (aL ⟨[RO,cW j3 aCt],[(35,some 39)]⟩)))))) (ai (bE 0 ⟨[j3],[(35,some 35)]⟩))) (ai (aL ⟨[Ag,auF,cS],[(30,some 34),(31,some 35)]⟩)) dL) dL)))) (ai (bE 0 ⟨[x7],[(31,some 31)]⟩))) aGB dL)))))))))))))
theorem ae5:fF Dr Bc f82 FO=true:=by kernel_rfl
def yB:=dj Dr Bc FO
def SN:Ct:=dl Dr ae5 func82 call82 rfl
def Lh(N:Nat)(a b c d e f g h:PD):Oo:=
 let i:=aa9 e.q (aH (((el (iv a.q b.n c.n 2) d.n 2 0).n)+f.n))
 bif ltB h.n (bH i 1)then aI (bC 0 h.n)<|aI (ltB h.n (bH g.q 1))<|oA [PD.l (cM g.q h.n 1 0 (PD.i (aH (((el g.q h.n 1 0).n)+(aH (((el ((el (iv a.q b.n c.n 2) d.n 2 1).q) f.n 1 0).n)*((el i h.n 1 0).n))))))),.i (aH (h.n+1))]else oB 0 [g]
def ZN(N:Nat)(a b c:PD):Oo:=oA [c,a,.i (aH (b.n+1))]
def ZM(N:Nat)(a b c d e f g:PD):Oo:=oA [.i (aH (e.n+(aH (((el ((el (iv a.q b.n c.n 2) d.n 2 1).q) f.n 1 0).n)*g.n)))),.i (aH (f.n+1))]
def Dt:Oo:=
 let s:=iv g.q i.n k.n 2
 bif ltB q.n (bH ((el s o.n 2 1).q) 1)then aI (bC 0 q.n)<|aB (Be [qi a,qi b,qi c,ql d,qi e,qi f,.i (aH (((el s o.n 2 0).n)+q.n)),.i (aH (((el (iv h.q j.n l.n 2) m.n 2 0).n)+n.n))]) 1 fun r=>ZM N g i k o p q (gg r 0)else oB 0 [qi p]
def ZL(N:Nat)(a b c:PD):Oo:=aI (bC ((bH a.q 1)+1) 1000000)<|oA [PD.l (a.q++([]++[qi c])),.i (aH (b.n+1))]
def ZK:Oo:=aB (gX [qi d,qi a]) 1 fun r=>ZL N b c (gg r 0)
def Ds:Oo:=bif ltB q.n (bH (iv g.q j.n l.n 2) 2)then aI (bC 0 q.n)<|bi (aO (fun S=>Dt N a b c d e f g h j k l m n o q (gg S 0) (gg S 1)) N [.i 0,.i 0]) (fun X=>ZK N i p q (gg X 0)) (fun X=>none)else oB 0 [p]
def Lg(N:Nat)(a b c d e f g h i:PD):Oo:=
 let j:=aH (((el (iv a.q b.n c.n 2) d.n 2 0).n)+f.n)
 let k:=aa9 ((e.q++[PD.i j])++[ql g]) j
 bif ltB i.n (bH k 1)then aI (bC 0 i.n)<|aI (ltB i.n (bH h.q 1))<|oA [PD.l (cM h.q i.n 1 0 (PD.i (aH (((el h.q i.n 1 0).n)+(aH (((el ((el (iv a.q b.n c.n 2) d.n 2 1).q) f.n 1 0).n)*((el k i.n 1 0).n))))))),.i (aH (i.n+1))]else oB 0 [h]
def ZJ(N:Nat)(a b c d e f g h:PD):Oo:=oA [h,PD.l ((e.q++[PD.i (aH (((el (iv a.q b.n c.n 2) d.n 2 0).n)+f.n))])++[ql g]),.i (aH (f.n+1))]
def S0:Oo:=
 let i:=aH (((el (iv a.q b.n c.n 2) d.n 2 0).n)+g.n)
 aI (cY (ajC ((f.q++[PD.i i])++[ql h]) i) 0)<|bi (aO (fun S=>Lg N a b c d f g h (gg S 0) (gg S 1)) N [e,.i 0]) (fun X=>ZJ N a b c d f g h (gg X 0)) (fun X=>none)
def rX:Oo:=
 let s:=aH (((el (iv h.q k.n m.n 2) n.n 2 0).n)+q.n)
 bif ltB q.n (bH ((el (iv h.q k.n m.n 2) n.n 2 1).q) 1)then aI (bC 0 q.n)<|bif cY (ajC p.q s) 0 then aI (ltB 0 (bH (aa9 p.q s) 1))<|bi (aO (fun S=>Lh N h k m n p q (gg S 0) (gg S 1)) N [o,.i 0]) (fun X=>ZN N p q (gg X 0)) (fun X=>none)else aI (bC 0 j.n)<|aI (bC j.n l.n)<|aI (bC l.n (bH g.q 2))<|bi (aO (fun S=>Ds N a b c d e f g h i j k l m n q (gg S 0) (gg S 1)) N [PD.l (List.replicate (Int.toNat 0) (PD.i 0)),.i 0]) (fun X=>S0 N h k m n o p q (gg X 0)) (fun X=>none)else oB 0 [p,o]
def SZ(N:Nat)(a b c:PD):Oo:=aI (bC ((bH b.q 1)+1) 1000000)<|oA [.i (aH (a.n+1)),PD.l (b.q++([]++[qi c]))]
def SY:Oo:=aB (o0 [qi d,qi a]) 1 fun r=>SZ N b c (gg r 0)
def yC:Oo:=bif ltB d.n (bH c.q 1)then aI (bC 0 d.n)<|aB (gX [.i ((el c.q d.n 1 0).n),qi a]) 1 fun r=>SY N b d e (gg r 0)else oB 0 [e]
def SX(N:Nat)(a b c:PD):Oo:=oA [b,.i (aH (a.n+1)),c]
def SW:Oo:=bi (aO (fun S=>yC N a b f (gg S 0) (gg S 1)) N [.i 0,d]) (fun X=>SX N c e (gg X 0)) (fun X=>none)
def rW:Oo:=
 let t:=aH (n.n-l.n)
 bif ltB q.n (bH (iv h.q m.n o.n 2) 2)then aI (bC 0 q.n)<|aI (bC 0 t)<|aI (bC t 1000000)<|bi (aO (fun S=>rX N a b c d e f g h i l m n o q (gg S 0) (gg S 1) (gg S 2)) N [PD.l (List.replicate (Int.toNat t) (PD.i 0)),p,.i 0]) (fun X=>SW N j k q s (gg X 0) (gg X 1)) (fun X=>none)else oB 0 [s]
def SU(N:Nat)(a b c d e f:PD):Oo:=oF [.i (aH (d.n-b.n)),.i (aH (e.n-c.n)),qi a,ql f,.i 0]
def ST:Oo:=bif eqB p.n 0 then oF [.i 0,.i 0,.i 0,PD.l [],.i 8]else aI (bC 0 m.n)<|aI (bC m.n o.n)<|aI (bC o.n (bH h.q 2))<|bi (aO (fun S=>rW N a b c d e f g h i j k l m n o (gg S 0) (gg S 1) (gg S 2)) N [PD.l [],.i 0,PD.l []]) (fun X=>SU N k l m n o (gg X 0)) (fun X=>none)
def SS:Oo:=bif cY p.n 0 then oF [.i 0,.i 0,.i 0,PD.l [],.i 8]else aB (iC [qi l,qi m,qi n,qi o,.i 0,.i 0,.i (bH g.q 2),.i (bH h.q 2)]) 1 fun r=>ST N a b c d e f g h i j k l m n o (gg r 0)
def SQ:Oo:=bif cY (if p.n=0 then(0:Int)else 1) 0 then oF [.i 0,.i 0,.i 0,PD.l [],qi p]else aB (gW [qi l,qi m,qi n,qi o]) 1 fun r=>SS N a b c d e f g h i j k l m n o (gg r 0)
def SP:Oo:=bif eqB p.n 0 then oF [.i 0,.i 0,.i 0,PD.l [],.i 1]else aB (Bg [qi a,qi b,qi c,ql g,ql h,qi i,qi j,qi k]) 1 fun r=>SQ N a b c d e f g h i j k l m n o (gg r 0)
def SO:Oo:=bif eqB p.n 0 then oF [.i 0,.i 0,.i 0,PD.l [],.i 1]else aB (o8 [qi e,qi f,qi c]) 1 fun r=>SP N a b c d e f g h i j k l m n o (gg r 0)
def apr:Oo:=aB (eD [qi a,qi b,qi c,ql d]) 1 fun r=>SO N a b c d e f g h i j k l m n o (gg r 0)
theorem al0:dk N Dr Bc FO [a,b,c,d,e,f,g,h,i,j,k,l,m,n,o]=apr N a b c d e f g h i j k l m n o:=by kernel_rfl
def wK:dO:=⟨[x8,vq,vq],[],0,Jt,false⟩
def zg:List Ct:=[im,hD,Wa,Vc,Sl,SN,agH,agE,TC]
def BW:PL:=an 0 aon (aa (aC (aY Af fv 3)) (an 1 akZ (aa adn Ah (an 2 [W6,W9,dU,vn,et,e7,fP,dq,gR,fa,ll,eK,fj,hO,iJ,fI,iI,eo,eh,d5,eE,aJ,aJ,aJ] (aa aIi (ai (aF [aJ,aJ,aJ,cn,nQ])) (aa pZ (an 3 [eh,d5,eE,jJ,et,e7,fP,dq,gR,eK,eo,aJ,aJ,gf,iU] VG) (aa l9 (an 4 [eh,d5,eE,jJ,et,e7,fa,ll,eK,fj,eo,aJ,aJ,gf,iU] VG) (aa CV (an 5 [eh,d5,eE,jJ,et,e7,hO,iJ,eK,fj,eo,aJ,aJ,gf,iU] VG) (aa vp (an 6 [eh,d5,eE,jJ,fI] VG) (aa uS (an 7 akZ VG) (aa vo (an 8 [eh,d5,eE,jJ,aJ,aJ,aJ,cn,aJ,iI,eo,aJ,aJ,gf,iU] VG) Ah)))))))))) (an 1 akZ (aa adn Ah (an 1 [gQ,gm,iy,cS] (aa (bL gf aJ) Ah (an 2 [W6,W9,dU,vn,et,e7,fP,dq,gR,fa,ll,eK,fj,hO,iJ,fI,iI,eo,eh,d5,eE,gQ,gm,iy] (aa (aC (aY adb aJ 3)) (ai (aF [aJ,aJ,aJ,cn,adb])) (aa pZ (an 3 [eh,d5,eE,jJ,et,e7,fP,dq,gR,eK,eo,aJ,aJ,iU,kn] VF) (aa l9 (an 4 [eh,d5,eE,jJ,et,e7,fa,ll,eK,fj,eo,aJ,aJ,iU,kn] VF) (aa CV (an 5 [eh,d5,eE,jJ,et,e7,hO,iJ,eK,fj,eo,aJ,aJ,iU,kn] VF) (aa vp (an 6 [eh,d5,eE,jJ,fI] VF) (aa uS (an 7 akZ VF) (aa vo (an 8 [eh,d5,eE,jJ,gQ,gm,iy,cS,W5,iI,eo,aJ,aJ,iU,kn] VF) Ah)))))))))))))
theorem aa8:fF zg wK f35 BW=true:=by kernel_rfl
def pB:=dj zg wK BW
def af3:Ct:=dl zg aa8 func35 call35 rfl
def mA(N:Nat)(a b c d e:PD):Oo:=oF [qi a,qi b,qi c,ql d,qi e]
def lB:Oo:=bif cY (if w.n=0 then(0:Int)else 1) 0 then oF [.i 0,.i 0,.i 0,PD.l [],qi w]else bif eqB a.n 1 then aB (zR [qi p,qi q,qi s,ql t,qi b,qi c,qi d,qi e,ql f,qi i,qi o,.i 0,.i 0,qi u,qi v]) 5 fun r=>mA N (gg r 0) (gg r 1) (gg r 2) (gg r 3) (gg r 4)else bif eqB a.n 2 then aB (yq [qi p,qi q,qi s,ql t,qi b,qi c,ql g,ql h,qi i,qi j,qi o,.i 0,.i 0,qi u,qi v]) 5 fun r=>mA N (gg r 0) (gg r 1) (gg r 2) (gg r 3) (gg r 4)else bif eqB a.n 3 then aB (yB [qi p,qi q,qi s,ql t,qi b,qi c,ql k,ql l,qi i,qi j,qi o,.i 0,.i 0,qi u,qi v]) 5 fun r=>mA N (gg r 0) (gg r 1) (gg r 2) (gg r 3) (gg r 4)else bif eqB a.n 4 then aB (Cp [qi p,qi q,qi s,ql t,qi m]) 5 fun r=>mA N (gg r 0) (gg r 1) (gg r 2) (gg r 3) (gg r 4)else bif eqB a.n 5 then aB (Cl [qi p,qi q,qi s,ql t]) 5 fun r=>mA N (gg r 0) (gg r 1) (gg r 2) (gg r 3) (gg r 4)else bif eqB a.n 6 then aB (sc [qi p,qi q,qi s,ql t,.i 0,.i 0,.i 0,PD.l [],.i 0,ql n,qi o,.i 0,.i 0,qi u,qi v]) 5 fun r=>mA N (gg r 0) (gg r 1) (gg r 2) (gg r 3) (gg r 4)else oF [.i 0,.i 0,.i 0,PD.l [],.i 1]
def T8:Oo:=bif eqB x.n 0 then oF [.i 0,.i 0,.i 0,PD.l [],.i 1]else aB (nY [qi a,qi b,qi c,.i (if d.n=0 then(0:Int)else 1),qi e,qi f,qi g,qi h,ql i,ql j,ql k,qi l,qi m,ql n,ql o,qi p,ql q,qi s,qi t,qi u,qi v,.i 0,.i 0,.i 0]) 4 fun r=>lB N a e f g h i j k l m n o p q s t u v w (gg r 0) (gg r 1) (gg r 3)
def oU(N:Nat)(a b c d e:PD):Oo:=oF [qi a,qi b,qi c,ql d,qi e]
def Gn:Oo:=bif cY (if A.n=0 then(0:Int)else 1) 0 then oF [.i 0,.i 0,.i 0,PD.l [],qi A]else bif eqB a.n 1 then aB (zR [qi p,qi q,qi s,ql t,qi b,qi c,qi d,qi e,ql f,qi i,qi o,.i 0,.i 0,qi y,qi z]) 5 fun r=>oU N (gg r 0) (gg r 1) (gg r 2) (gg r 3) (gg r 4)else bif eqB a.n 2 then aB (yq [qi p,qi q,qi s,ql t,qi b,qi c,ql g,ql h,qi i,qi j,qi o,.i 0,.i 0,qi y,qi z]) 5 fun r=>oU N (gg r 0) (gg r 1) (gg r 2) (gg r 3) (gg r 4)else bif eqB a.n 3 then aB (yB [qi p,qi q,qi s,ql t,qi b,qi c,ql k,ql l,qi i,qi j,qi o,.i 0,.i 0,qi y,qi z]) 5 fun r=>oU N (gg r 0) (gg r 1) (gg r 2) (gg r 3) (gg r 4)else bif eqB a.n 4 then aB (Cp [qi p,qi q,qi s,ql t,qi m]) 5 fun r=>oU N (gg r 0) (gg r 1) (gg r 2) (gg r 3) (gg r 4)else bif eqB a.n 5 then aB (Cl [qi p,qi q,qi s,ql t]) 5 fun r=>oU N (gg r 0) (gg r 1) (gg r 2) (gg r 3) (gg r 4)else bif eqB a.n 6 then aB (sc [qi p,qi q,qi s,ql t,qi u,qi v,qi w,ql x,.i 1,ql n,qi o,.i 0,.i 0,qi y,qi z]) 5 fun r=>oU N (gg r 0) (gg r 1) (gg r 2) (gg r 3) (gg r 4)else oF [.i 0,.i 0,.i 0,PD.l [],.i 1]
def T7:Oo:=bif eqB B.n 0 then oF [.i 0,.i 0,.i 0,PD.l [],.i 1]else aB (nY [qi a,qi b,qi c,.i (if d.n=0 then(0:Int)else 1),qi e,qi f,qi g,qi h,ql i,ql j,ql k,qi l,qi m,ql n,ql o,qi p,ql q,qi s,qi t,qi u,qi v,qi x,qi y,qi z]) 4 fun r=>Gn N a e f g h i j k l m n o p q s t u v w x y z A (gg r 0) (gg r 1) (gg r 3)
def T6:Oo:=bif eqB B.n 0 then oF [.i 0,.i 0,.i 0,PD.l [],.i 1]else aB (eD [qi x,qi y,qi z,ql A]) 1 fun r=>T7 N a b c d e f g h i j k l m n o p q s t u v w x y z A (gg r 0)
def Gm:Oo:=
 let C:=eD [qi t,qi u,qi v,ql w]
 bif cY (if(bH B.q 1)=2 then(0:Int)else 1) 0 then aB C 1 fun r=>T8 N a b c d e f g h i j k l m n o p q s t u v w (gg r 0)else aB C 1 fun r=>T6 N a b c d e f g h i j k l m n o p q s t u v w x y z A (gg r 0)
def WW:Oo:=aB (ft [qi a,qi b,qi c,.i (if d.n=0 then(0:Int)else 1),qi e,qi f,qi g,qi h,ql i,ql j,ql k,qi l,qi m,ql n,ql o,qi p,ql q,qi s]) 1 fun r=>Gm N a b c d e f g h i j k l m n o p q s t u v w x y z A (gg r 0)
theorem Oq:dk N zg wK BW [a,b,c,d,e,f,g,h,i,j,k,l,m,n,o,p,q,s,t,u,v,w,x,y,z,A]=WW N a b c d e f g h i j k l m n o p q s t u v w x y z A:=by kernel_rfl
def Ot:dO:=⟨[Hu],[],0,[W79,W1],false⟩
def WY:List Ct:=[agZ,Cy,aeK,im,af3]
def WX:PL:=an 0 Qm (aa adp aAT (an 1 Qm (aa ado (ai (aF [cn,dq])) (am aEa (am aD' (aT 10 11 ⟨(u1 (zY::(u4 (Jr::(u1 (Fu::(akY::(iO (u2 (u1 (Ju::(Fu::(lM::(iO (iY W41))))))))))))))),aAv,12⟩ ⟨[P4 lk (df aD9 cn),aJ],[(11,none)]⟩ ⟨la,⟨(u1 (zY::(u4 (Jr::(u1 (Fu::(akY::(u64 (iY W95))))))))),aAv,12⟩,1⟩ dN (aa (ay fb W80) (am axN (an 2 [aq mb fb 4 3] (am (aD lk akX) (am (ay fb lk) (am (ay fb akX) (ai (aL ⟨[dK (bW (bW (bW gR fb 4 0 (aq mb fb 4 0)) fb 4 1 (aq mb fb 4 1)) fb 4 2 (aq mb fb 4 2)) fb 4 3 ll,aG fb W5],[(11,some 16)]⟩))))))) (ai (bE 0 ⟨[gR],[(11,some 11)]⟩))) (aT 15 12 ⟨(u1 (zY::(u4 (u2 (Fu::(akY::(iO (iY (Jr::((aV (aE (ax Jw)))::(jv::aim))))))))))),[An,Vu,uQ,qh,aAu,(8,bZ true jQ gY)],13⟩ ⟨[gR,aJ],[(12,some 11)]⟩ ⟨qg,⟨(u8 (u1 (akY::(u64 (iY W95))))),[aAu],13⟩,1⟩ ⟨qT,⟨(u2 (Jy::(lM::ah1))),[],25⟩,1⟩ (aa (ay fT Jw) (am axV (am (aD aJ lK) (am (ay lK Ht) (am (aD lk VE) (am (aD aJ qU) (am (ay qU lk) (am (ay qU VE) (an 3 [auw,qU,AP,auv,auu,aut,aus,aur,auq,aup,auo,aun,aum,aul,auk,auj,aui,auh] (aa (bL Fd fv) (am (aD aJ AP) (am (ay AP lk) (am (ay AP VE) (an 4 [auw,qU,AP,auv,auu,aut,aus,aur,auq,aup,auo,aun,aum,aul,auk,auj,aui,auh,aq fa qU 4 0,aq fa qU 4 1,aq fa qU 4 2,aq fa qU 4 3,aq fa AP 4 0,aq fa AP 4 1,aq fa AP 4 2,aq fa AP 4 3] (aa aCv aAt (am (aD aJ yc) (am (ay yc lk) (am (ay yc VE) (ai (aL ⟨aAs,[(12,some 25)]⟩)))))))))) (an 4 [auw,qU,AP,auv,auu,aut,aus,aur,auq,aup,auo,aun,aum,aul,auk,auj,aui,auh,aq fa qU 4 0,aq fa qU 4 1,aq fa qU 4 2,aq fa qU 4 3,aJ,aJ,aJ,cn] (aa aCv aAt (am (aD aJ yc) (am (ay yc lk) (am (ay yc VE) (ai (aL ⟨aAs,[(12,some 24)]⟩)))))))))))))))) (ai (bE 0 ⟨[fa],[(12,some 12)]⟩))) (am (aD lk VE) (ai (aF [ic fa aJ lk 4,aJ]))) (ai (aF [cn,fb]))) dL))))))
theorem aqq:fF WY Ot f7 WX=true:=by kernel_rfl
def ajA:=dj WY Ot WX
def avM:Ct:=dl WY aqq func7 call7 rfl
def aqu(N:Nat)(a b c d e:PD):Oo:=
 let f:=aH ((bH a.q 4)+(bH b.q 18))
 aI (bC f (bH c.q 4))<|aI (ltB d.n f)<|aI (ltB d.n (bH c.q 4))<|oA [PD.l (cM (cM (cM (cM c.q d.n 4 0 (PD.i ((el a.q d.n 4 0).n))) d.n 4 1 (PD.i ((el a.q d.n 4 1).n))) d.n 4 2 (PD.i ((el a.q d.n 4 2).n))) d.n 4 3 (ql e)),.i (aH (d.n+1))]
def W_:Oo:=bif ltB d.n (bH a.q 4)then aI (bC 0 d.n)<|aB (KT [PD.l ((el a.q d.n 4 3).q)]) 1 fun r=>aqu N a b c d (gg r 0)else oB 0 [c]
def WZ(N:Nat)(a b c d e f g h i j:PD):Oo:=
 let k:=(el c.q e.n 1 0).n
 bif cY (if j.n=0 then(0:Int)else 1) 0 then oB 1 [qi j]else aI (bC 0 k)<|aI (ltB k (aH ((bH a.q 4)+(bH b.q 18))))<|aI (ltB k (bH d.q 4))<|oA [PD.l (cM (cM (cM (cM d.q k 4 0 (qi f)) k 4 1 (qi g)) k 4 2 (qi h)) k 4 3 (ql i)),.i (aH (e.n+1))]
def af4:Oo:=
 let g:=aH (((el c.q e.n 1 0).n)-(bH a.q 4))
 let h:=(el b.q g 18 1).n
 let i:=(el b.q g 18 2).n
 let j:=if((el b.q g 18 3).n)=0 then(0:Int)else 1
 let k:=(el b.q g 18 10).q
 let l:=(el b.q g 18 11).n
 let m:=(el b.q g 18 12).n
 let n:=(el b.q g 18 13).q
 let o:=(el b.q g 18 14).q
 let p:=(el b.q g 18 15).n
 let q:=(el b.q g 18 16).q
 let s:=(el b.q g 18 17).n
 let t:=(el b.q g 18 0).n
 let u:=(el b.q g 18 4).n
 let v:=(el b.q g 18 5).n
 let w:=(el b.q g 18 6).n
 let x:=(el b.q g 18 7).n
 let y:=(el b.q g 18 8).q
 let z:=(el b.q g 18 9).q
 let A:=(el d.q h 4 0).n
 let B:=(el d.q h 4 1).n
 let C:=(el d.q h 4 2).n
 let D:=(el d.q h 4 3).q
 bif eqB (bH f.q 1) 2 then aI (bC 0 i)<|aI (ltB i (aH ((bH a.q 4)+(bH b.q 18))))<|aI (ltB i (bH d.q 4))<|aB (pB [.i t,.i h,.i i,.i j,.i u,.i v,.i w,.i x,PD.l y,PD.l z,PD.l k,.i l,.i m,PD.l n,PD.l o,.i p,PD.l q,.i s,.i A,.i B,.i C,PD.l D,.i ((el d.q i 4 0).n),.i ((el d.q i 4 1).n),.i ((el d.q i 4 2).n),PD.l ((el d.q i 4 3).q)]) 5 fun r=>WZ N a b c d e (gg r 0) (gg r 1) (gg r 2) (gg r 3) (gg r 4)else aB (pB [.i t,.i h,.i i,.i j,.i u,.i v,.i w,.i x,PD.l y,PD.l z,PD.l k,.i l,.i m,PD.l n,PD.l o,.i p,PD.l q,.i s,.i A,.i B,.i C,PD.l D,.i 0,.i 0,.i 0,PD.l []]) 5 fun r=>WZ N a b c d e (gg r 0) (gg r 1) (gg r 2) (gg r 3) (gg r 4)
def Ou:Oo:=
 let f:=aH (((el c.q e.n 1 0).n)-(bH a.q 4))
 let g:=(el b.q f 18 1).n
 let h:=aH ((bH a.q 4)+(bH b.q 18))
 bif ltB e.n (bH c.q 1)then aI (bC 0 e.n)<|aI (bC 0 f)<|aI (ltB f (bH b.q 18))<|aI (bC h (bH d.q 4))<|aI (bC 0 g)<|aI (ltB g h)<|aI (ltB g (bH d.q 4))<|aB (ft [.i ((el b.q f 18 0).n),.i g,.i ((el b.q f 18 2).n),.i (if((el b.q f 18 3).n)=0 then(0:Int)else 1),.i ((el b.q f 18 4).n),.i ((el b.q f 18 5).n),.i ((el b.q f 18 6).n),.i ((el b.q f 18 7).n),PD.l ((el b.q f 18 8).q),PD.l ((el b.q f 18 9).q),PD.l ((el b.q f 18 10).q),.i ((el b.q f 18 11).n),.i ((el b.q f 18 12).n),PD.l ((el b.q f 18 13).q),PD.l ((el b.q f 18 14).q),.i ((el b.q f 18 15).n),PD.l ((el b.q f 18 16).q),.i ((el b.q f 18 17).n)]) 1 fun r=>af4 N a b c d e (gg r 0)else oB 0 [d]
def aqt(N:Nat)(a b c:PD):Oo:=
 let d:=aH ((bH a.q 4)+(bH b.q 18))
 aI (bC d (bH c.q 4))<|oF [PD.l (iv c.q 0 d 4),.i 0]
def aBD(N:Nat)(a:PD):Oo:=oF [PD.l [],qi a]
def aqs:Oo:=bi (aO (fun S=>Ou N a b c (gg S 0) (gg S 1)) N [d,.i 0]) (fun X=>aqt N a b (gg X 0)) (fun X=>aBD N (gg X 0))
def aqr:Oo:=
 let e:=aH ((bH a.q 4)+(bH b.q 18))
 bif cY (if d.n=0 then(0:Int)else 1) 0 then oF [PD.l [],qi d]else aI (bC 0 e)<|aI (bC e 1000000)<|bi (aO (fun S=>W_ N a b (gg S 0) (gg S 1)) N [PD.l ((List.replicate (Int.toNat e) (((([]++[PD.i 0])++[PD.i 0])++[PD.i 0])++[PD.l []])).flatten),.i 0]) (fun X=>aqs N a b c (gg X 0)) (fun X=>none)
def ajB:Oo:=bif cY (if e.n=0 then(0:Int)else 1) 0 then oF [PD.l [],qi e]else aB (un [ql a,ql b,ql c,qi d]) 2 fun r=>aqr N a b (gg r 0) (gg r 1)
def aFC:Oo:=aB (Pw [ql a,ql b,ql c,qi d]) 2 fun r=>ajB N a b c d (gg r 1)
theorem avL:dk N WY Ot WX [a,b,c,d]=aFC N a b c d:=by kernel_rfl
def vD:dO:=⟨[x8,W1,vq,vq,vq,W3],[],0,kE,false⟩
def ym:List Ct:=[hD,Wa]
def AW:PL:=aa vp (aa (bL eh W5) auf (aa (aC (aY eh fv 3)) C0 auf)) (aa (aC (aY eh aJ 3)) C0 auf)
theorem Zc:fF ym vD f40 AW=true:=by kernel_rfl
def AX:=dj ym vD AW
def aer:Ct:=dl ym Zc func40 call40 rfl
def alt(N:Nat)(a:PD):Oo:=oF [qi a]
def alr:Oo:=bif eqB B.n 0 then oF [.i 1]else bif cY (if z.n=t.n then(0:Int)else 1) 0 then oF [.i 1]else bif cY (if A.n=u.n then(0:Int)else 1) 0 then oF [.i 1]else aB (nY [qi a,qi b,qi c,.i (if d.n=0 then(0:Int)else 1),qi e,qi f,qi g,qi h,ql i,ql j,ql k,qi l,qi m,ql n,ql o,qi p,ql q,qi s,qi t,qi u,qi v,qi w,qi x,qi y]) 4 fun r=>alt N (gg r 3)
def Sd(N:Nat)(a:PD):Oo:=oF [qi a]
def Sc:Oo:=bif eqB D.n 0 then oF [.i 1]else bif eqB a.n 5 then aB (eD [qi z,qi A,qi B,ql C]) 1 fun r=>alr N a b c d e f g h i j k l m n o p q s t u v w x y z A (gg r 0)else aB (nY [qi a,qi b,qi c,.i (if d.n=0 then(0:Int)else 1),qi e,qi f,qi g,qi h,ql i,ql j,ql k,qi l,qi m,ql n,ql o,qi p,ql q,qi s,qi t,qi u,qi v,qi w,qi x,qi y]) 4 fun r=>Sd N (gg r 3)
def Sb:Oo:=bif eqB B.n 0 then oF [.i 1]else bif cY (if z.n=t.n then(0:Int)else 1) 0 then oF [.i 1]else bif cY (if A.n=u.n then(0:Int)else 1) 0 then oF [.i 1]else aB (nY [qi a,qi b,qi c,.i (if d.n=0 then(0:Int)else 1),qi e,qi f,qi g,qi h,ql i,ql j,ql k,qi l,qi m,ql n,ql o,qi p,ql q,qi s,qi t,qi u,qi v,qi w,qi x,qi y]) 4 fun r=>Sd N (gg r 3)
def alq(N:Nat)(a:PD):Oo:=oF [qi a]
def rP:Oo:=bif eqB F.n 0 then oF [.i 1]else bif cY E.n 0 then aB (eD [qi w,qi x,qi y,ql z]) 1 fun r=>Sc N a b c d e f g h i j k l m n o p q s t u v w x y A B C D (gg r 0)else bif eqB a.n 5 then aB (eD [qi A,qi B,qi C,ql D]) 1 fun r=>Sb N a b c d e f g h i j k l m n o p q s t u v w x y A B (gg r 0)else aB (nY [qi a,qi b,qi c,.i (if d.n=0 then(0:Int)else 1),qi e,qi f,qi g,qi h,ql i,ql j,ql k,qi l,qi m,ql n,ql o,qi p,ql q,qi s,qi t,qi u,qi v,qi w,qi x,qi y]) 4 fun r=>alq N (gg r 3)
def aiJ:Oo:=
 let H:=eD [qi u,qi v,qi w,ql x]
 bif eqB a.n 4 then bif eqB t.n 1 then aB H 1 fun r=>rP N a b c d e f g h i j k l m n o p q s u v w y z A B C D E F G (gg r 0)else bif cY (if t.n=2 then(0:Int)else 1) 0 then oF [.i 1]else aB H 1 fun r=>rP N a b c d e f g h i j k l m n o p q s u v w y z A B C D E F G (gg r 0)else bif cY (if t.n=0 then(0:Int)else 1) 0 then oF [.i 1]else aB H 1 fun r=>rP N a b c d e f g h i j k l m n o p q s u v w y z A B C D E F G (gg r 0)
theorem aeq:dk N ym vD AW [a,b,c,d,e,f,g,h,i,j,k,l,m,n,o,p,q,s,t,u,v,w,x,y,z,A,B,C,D,E,F,G]=aiJ N a b c d e f g h i j k l m n o p q s t u v w x y z A B C D E F G:=by kernel_rfl
def sX:dO:=⟨[aCM,W1],[],0,adm,false⟩
def sY:List Ct:=[agJ]
def vA:PL:=an 0 [mb] (aa (aC vn) (ai (aF [cn,gK])) (aa (aC (aY YR W9 3)) RW (ai (aF [ie,aJ]))))
theorem V0:fF sY sX f42 vA=true:=by kernel_rfl
def vB:=dj sY sX vA
def Y_:Ct:=dl sY V0 func42 call42 rfl
def KH(N:Nat)(a b c:PD):Oo:=bif cY (if c.n=0 then(0:Int)else 1) 0 then oF [PD.l [],qi c]else bif cY (if(bH b.q 1)=a.n then(0:Int)else 1) 0 then oF [PD.l [],.i 8]else oF [ql b,.i 0]
def Y':Oo:=aB (Ph [ql a]) 2 fun r=>KH N b (gg r 0) (gg r 1)
theorem Y9:dk N sY sX vA [a,b]=Y' N a b:=by kernel_rfl
def AV:dO:=⟨[Ai,vq,vq],[],0,Jt,false⟩
def C':List Ct:=[jB,jT,UG]
def FD:PL:=an 0 an3 (aa (aC fj) qc (an 1 [W6,W9,dU,gK,aJ,aJ,lH,fb] (aa (bL i9 aJ) qc (am (aD aJ axs) (am (aD axs f_) (am (aD aJ axt) (am (aD axt f_) (aa (ay aJ W6) (aT 8 23 ⟨(u2 (u1 (Fg::(RM::(akW::(uO::(u1 (aAo::(aAn::(JC::(iY (u8 (u2 (u1 ((aV (aE (ax (bF VD 1))))::(RN::aDE)))))))))))))))),aAm,23⟩ ⟨[VD,aJ],[]⟩ ⟨la,⟨(u2 (u1 (Fg::(RM::(akW::(uO::(u1 (aAo::(aAn::(JC::aEe)))))))))),aAm,23⟩,1⟩ dN (aa (ay fI (bF VD 1)) (am (aD aJ aue) (am (ay aue Fd) (am aCO (am (ay fI axf) (ai (aL ⟨[bW iJ fI 1 0 (aq CY aue 1 0),aCN],[]⟩)))))) aGl) (aa as9 (am (aD aJ VC) (am (aD VC Fd) (aa aAl (am (aD aJ VB) (am (ay VB Fd) (an 2 [et,e7,fP,qS,W6,W9,dU,gK,iJ,oN Qx aJ ad0,aq CY VB 1 0] aud))) (am aAk (am (aD aJ VB) (am (ay VB Fd) (an 2 [et,e7,fP,qS,W6,W9,dU,gK,iJ,aAj,aq CY VB 1 0] aud))))))) (an 2 [et,e7,fP,qS,W6,W9,dU,gK,iJ,Qx,aJ] aud)) dL) (aa as9 (am (aD aJ VC) (am (aD VC Fd) (aa aAl (an 2 [et,e7,fP,qS,W6,W9,dU,gK,VD,oN Qx aJ ad0,aJ] auc) (am aAk (an 2 [et,e7,fP,qS,W6,W9,dU,gK,VD,aAj,aJ] auc))))) (an 2 [et,e7,fP,qS,W6,W9,dU,gK,VD,Qx,aJ] auc))))))))))
theorem aep:fF C' AV f98 FD=true:=by kernel_rfl
def R_:=dj C' AV FD
def aln:Ct:=dl C' aep func98 call98 rfl
def Da(N:Nat)(a b c d e f g:PD):Oo:=
 let h:=aH ((aH ((aH ((aH (b.n+g.n))*d.n))+a.n))-1)
 bif ltB g.n (bH (List.replicate (Int.toNat (aH (c.n-b.n))) (PD.i 0)) 1)then aI (bC 0 h)<|aI (ltB h (bH e.q 1))<|aI (bC 0 g.n)<|aI (ltB g.n (bH f.q 1))<|oA [PD.l (cM f.q g.n 1 0 (PD.i ((el e.q h 1 0).n))),.i (aH (g.n+1))]else oB 0 [f]
def KE(N:Nat)(a b c d e:PD):Oo:=oF [qi a,qi b,qi c,ql d,qi e]
def Y7:Oo:=
 let l:=aH ((aH ((aH (b.n-1))*i.n))+a.n)
 let m:=List.replicate (Int.toNat (aH (c.n-a.n))) (PD.i 0)
 let n:=aH (l-1)
 let o:=bH j.q 1
 let p:=iv j.q l o 1
 let q:=(el j.q n 1 0).n
 bif ltB 0 b.n then aI (bC 0 l)<|aI (bC l o)<|bif bC (bH p 1) (bH m 1)then aI (bC 0 n)<|aI (ltB n o)<|aB (lD [qi e,qi f,qi g,ql h,qi a,qi b,qi c,qi d,ql k,PD.l (vg m 0 p),.i q]) 5 fun r=>KE N (gg r 0) (gg r 1) (gg r 2) (gg r 3) (gg r 4)else aI (bC (bH m 1) (bH p 1))<|aI (bC 0 n)<|aI (ltB n o)<|aB (lD [qi e,qi f,qi g,ql h,qi a,qi b,qi c,qi d,ql k,PD.l (vg m 0 (iv p 0 (bH m 1) 1)),.i q]) 5 fun r=>KE N (gg r 0) (gg r 1) (gg r 2) (gg r 3) (gg r 4)else aB (lD [qi e,qi f,qi g,ql h,qi a,qi b,qi c,qi d,ql k,PD.l m,.i 0]) 5 fun r=>KE N (gg r 0) (gg r 1) (gg r 2) (gg r 3) (gg r 4)
def KD(N:Nat)(a b c d e:PD):Oo:=oF [qi a,qi b,qi c,ql d,qi e]
def Y6:Oo:=
 let l:=aH ((aH ((aH (b.n-1))*i.n))+a.n)
 let m:=iv j.q l (bH j.q 1) 1
 let n:=aH (d.n-b.n)
 let o:=List.replicate (Int.toNat n) (PD.i 0)
 let p:=aH (c.n-a.n)
 let q:=List.replicate (Int.toNat p) (PD.i 0)
 bif eqB k.n 0 then oF [.i 0,.i 0,.i 0,PD.l [],.i 8]else aI (bC 0 n)<|aI (bC n 1000000)<|aI (bC 0 p)<|aI (bC p 1000000)<|bif ltB 0 a.n then bi (aO (fun S=>Da N a b d i j (gg S 0) (gg S 1)) N [PD.l o,.i 0]) (fun X=>Y7 N a b c d e f g h i j (gg X 0)) (fun X=>none)else bif ltB 0 b.n then aI (bC 0 l)<|aI (bC l (bH j.q 1))<|bif bC (bH m 1) (bH q 1)then aB (lD [qi e,qi f,qi g,ql h,qi a,qi b,qi c,qi d,PD.l o,PD.l (vg q 0 m),.i 0]) 5 fun r=>KD N (gg r 0) (gg r 1) (gg r 2) (gg r 3) (gg r 4)else aI (bC (bH q 1) (bH m 1))<|aB (lD [qi e,qi f,qi g,ql h,qi a,qi b,qi c,qi d,PD.l o,PD.l (vg q 0 (iv m 0 (bH q 1) 1)),.i 0]) 5 fun r=>KD N (gg r 0) (gg r 1) (gg r 2) (gg r 3) (gg r 4)else aB (lD [qi e,qi f,qi g,ql h,qi a,qi b,qi c,qi d,PD.l o,PD.l q,.i 0]) 5 fun r=>KD N (gg r 0) (gg r 1) (gg r 2) (gg r 3) (gg r 4)
def Y5:Oo:=bif cY l.n 0 then oF [.i 0,.i 0,.i 0,PD.l [],.i 8]else aB (iC [qi a,qi b,qi c,qi d,.i 0,.i 0,qi i,qi j]) 1 fun r=>Y6 N a b c d e f g h i k (gg r 0)
def ao0(N:Nat)(a b c d e f g h i j k l:PD):Oo:=aB (gW [qi a,qi b,qi c,qi d]) 1 fun r=>Y5 N a b c d e f g h i j l (gg r 0)
theorem alk:dk N C' AV FD [a,b,c,d,e,f,g,h,i,j,k,l]=ao0 N a b c d e f g h i j k l:=by kernel_rfl
def sV:dO:=⟨[x8,Ai,vq,vq,vq,W3],[],0,Jt,false⟩
def sW:List Ct:=[Vc,Sl,SN,aln,TC]
def vy:PL:=aa pZ (an 0 [gQ,gm,iy,cS,et,e7,fP,dq,gR,eK,eo,eh,d5,eE,fZ] adY) (aa l9 (an 1 [gQ,gm,iy,cS,et,e7,fa,ll,eK,fj,eo,eh,d5,eE,fZ] adY) (aa CV (an 2 [gQ,gm,iy,cS,et,e7,hO,iJ,eK,fj,eo,eh,d5,eE,fZ] adY) (aa uS (an 3 [eh,d5,eE,fZ,gQ,gm,iy,cS,kn,nQ,adb,cH 33] adY) (aa vo (an 4 [gQ,gm,iy,cS,mX,i7,gf,Fj,aY RV aJ 3,iI,eo,eh,d5,eE,fZ] adY) Ah))))
theorem VY:fF sW sV f43 vy=true:=by kernel_rfl
def qp:=dj sW sV vy
def Y8:Ct:=dl sW VY func43 call43 rfl
def pb(N:Nat)(a b c d e:PD):Oo:=oF [qi a,qi b,qi c,ql d,qi e]
def pc(N:Nat)(a b c d e f g h i j k l m n o p q s t u v w x y z A B C D E F G H I J:PD):Oo:=bif eqB a.n 1 then aB (zR [qi x,qi y,qi z,ql A,qi e,qi f,qi g,qi h,ql i,qi l,qi s,qi t,qi u,qi v,qi w]) 5 fun r=>pb N (gg r 0) (gg r 1) (gg r 2) (gg r 3) (gg r 4)else bif eqB a.n 2 then aB (yq [qi x,qi y,qi z,ql A,qi e,qi f,ql j,ql k,qi l,qi m,qi s,qi t,qi u,qi v,qi w]) 5 fun r=>pb N (gg r 0) (gg r 1) (gg r 2) (gg r 3) (gg r 4)else bif eqB a.n 3 then aB (yB [qi x,qi y,qi z,ql A,qi e,qi f,ql n,ql o,qi l,qi m,qi s,qi t,qi u,qi v,qi w]) 5 fun r=>pb N (gg r 0) (gg r 1) (gg r 2) (gg r 3) (gg r 4)else bif eqB a.n 5 then aB (R_ [qi t,qi u,qi v,qi w,qi x,qi y,qi z,ql A,qi F,qi G,qi H,ql I]) 5 fun r=>pb N (gg r 0) (gg r 1) (gg r 2) (gg r 3) (gg r 4)else bif eqB a.n 6 then aB (sc [qi x,qi y,qi z,ql A,qi B,qi C,qi D,ql E,.i (if J.n=0 then(0:Int)else 1),ql q,qi s,qi t,qi u,qi v,qi w]) 5 fun r=>pb N (gg r 0) (gg r 1) (gg r 2) (gg r 3) (gg r 4)else oF [.i 0,.i 0,.i 0,PD.l [],.i 1]
theorem lq:dk N sW sV vy [a,b,c,d,e,f,g,h,i,j,k,l,m,n,o,p,q,s,t,u,v,w,x,y,z,A,B,C,D,E,F,G,H,I,J]=pc N a b c d e f g h i j k l m n o p q s t u v w x y z A B C D E F G H I J:=by kernel_rfl
def q8:dO:=⟨[x8,qR Fo,vq,vq,vq,aCM],[],0,adm,false⟩
def qq:List Ct:=[im,aer,EF,Y_,Y8]
def sZ:PL:=an 0 aon (aa (aC (aY (bF (cH 40) 1) fv 3)) (an 1 [W6,W9,dU,vn,et,e7,fP,dq,gR,fa,ll,eK,fj,hO,iJ,fI,iI,eo,d5,i7,gf,iU,ve,aJ,aJ,aJ,cn,Fh,qd,uP,adZ,aJ] (aa aAi aAh (aa (bL d5 W5) aAf (aa (bL d5 fv) aAe (an 4 [W6,W9,dU,vn,et,e7,fP,dq,gR,fa,ll,eK,fj,hO,iJ,fI,iI,eo,eE,fZ,gQ,gm,i7,gf,iU,ve,aJ,aJ,aJ,cn,Fh,qd,uP,adZ,aJ] aAd))))) (an 1 [W6,W9,dU,vn,et,e7,fP,dq,gR,fa,ll,eK,fj,hO,iJ,fI,iI,eo,d5,i7,gf,iU,ve,nQ,adb,Fi,cH 34,Fh,qd,uP,adZ,W5] (aa aAi aAh (aa (bL d5 W5) aAf (aa (bL d5 fv) aAe (an 4 [W6,W9,dU,vn,et,e7,fP,dq,gR,fa,ll,eK,fj,hO,iJ,fI,iI,eo,eE,fZ,gQ,gm,i7,gf,iU,ve,nQ,adb,Fi,cH 34,Fh,qd,uP,adZ,W5] aAd))))))
theorem QO:fF qq q8 f13 sZ=true:=by kernel_rfl
def gL:=dj qq q8 sZ
def V2:Ct:=dl qq QO func13 call13 rfl
def qt(N:Nat)(a b:PD):Oo:=oF [ql a,qi b]
def qr(N:Nat)(a b:PD):Oo:=bif cY (if b.n=0 then(0:Int)else 1) 0 then oF [PD.l [],qi b]else oF [ql a,.i 0]
def m9:Oo:=bif cY (if H.n=0 then(0:Int)else 1) 0 then oF [PD.l [],qi H]else bif eqB t.n 1 then aB (ov [qi y,qi z,qi A,ql B,qi p,qi u,qi v,qi w,qi x]) 2 fun r=>qt N (gg r 0) (gg r 1)else bif eqB t.n 2 then aB (vB [ql G,qi p]) 2 fun r=>qt N (gg r 0) (gg r 1)else aB (qp [qi a,qi b,qi c,.i (if d.n=0 then(0:Int)else 1),qi e,qi f,qi g,qi h,ql i,ql j,ql k,qi l,qi m,ql n,ql o,qi p,ql q,qi s,qi u,qi v,qi w,qi x,qi y,qi z,qi A,ql B,.i 0,.i 0,.i 0,PD.l [],qi C,qi D,qi E,ql F,.i 0]) 5 fun r=>qr N (gg r 3) (gg r 4)
def vC:Oo:=bif cY (if L.n=0 then(0:Int)else 1) 0 then oF [PD.l [],qi L]else bif eqB t.n 1 then aB (ov [qi y,qi z,qi A,ql B,qi p,qi u,qi v,qi w,qi x]) 2 fun r=>qt N (gg r 0) (gg r 1)else bif eqB t.n 2 then aB (vB [ql K,qi p]) 2 fun r=>qt N (gg r 0) (gg r 1)else aB (qp [qi a,qi b,qi c,.i (if d.n=0 then(0:Int)else 1),qi e,qi f,qi g,qi h,ql i,ql j,ql k,qi l,qi m,ql n,ql o,qi p,ql q,qi s,qi u,qi v,qi w,qi x,qi y,qi z,qi A,ql B,qi C,qi D,qi E,ql F,qi G,qi H,qi I,ql J,.i 1]) 5 fun r=>qr N (gg r 3) (gg r 4)
def HG:Oo:=
 let M:=if d.n=0 then(0:Int)else 1
 bif cY (if(bH L.q 1)=2 then(0:Int)else 1) 0 then aB (AX [qi a,qi b,qi c,.i M,qi e,qi f,qi g,qi h,ql i,ql j,ql k,qi l,qi m,ql n,ql o,qi p,ql q,qi s,qi t,qi y,qi z,qi A,ql B,.i 0,.i 0,.i 0,PD.l [],qi G,qi H,qi I,ql J,.i 0]) 1 fun r=>m9 N a b c d e f g h i j k l m n o p q s t u v w x y z A B G H I J K (gg r 0)else aB (AX [qi a,qi b,qi c,.i M,qi e,qi f,qi g,qi h,ql i,ql j,ql k,qi l,qi m,ql n,ql o,qi p,ql q,qi s,qi t,qi y,qi z,qi A,ql B,qi C,qi D,qi E,ql F,qi G,qi H,qi I,ql J,.i 1]) 1 fun r=>vC N a b c d e f g h i j k l m n o p q s t u v w x y z A B C D E F G H I J K (gg r 0)
def Sa(N:Nat)(a b c d e f g h i j k l m n o p q s t u v w x y z A B C D E F G H I J K L M O P:PD):Oo:=aB (ft [qi a,qi b,qi c,.i (if d.n=0 then(0:Int)else 1),qi e,qi f,qi g,qi h,ql i,ql j,ql k,qi l,qi m,ql n,ql o,qi p,ql q,qi s]) 1 fun r=>HG N a b c d e f g h i j k l m n o p q s u v w x y C D E F G H I J K L M O P (gg r 0)
theorem V1:dk N qq q8 sZ [a,b,c,d,e,f,g,h,i,j,k,l,m,n,o,p,q,s,t,u,v,w,x,y,z,A,B,C,D,E,F,G,H,I,J,K,L,M,O,P]=Sa N a b c d e f g h i j k l m n o p q s t u v w x y z A B C D E F G H I J K L M O P:=by kernel_rfl
def FE:dO:=⟨[vq,qR Fo,Ak],[],0,Jt,false⟩
def JN:List Ct:=[hD,jB,jT,apH,amB]
def KF:PL:=an 0 RQ (aa (bL i8 aJ) Ah (aa adp (aa (aC (aY e7 fv 3)) Ah aAb) aAb))
theorem alp:fF JN FE f14 KF=true:=by kernel_rfl
def KG:=dj JN FE KF
def ao2:Ct:=dl JN alp func14 call14 rfl
def JP(N:Nat)(a b c:PD):Oo:=
 let d:=(el b.q c.n 1 0).n
 bif ltB c.n (bH b.q 1)then aI (bC 0 c.n)<|bif ltB d 0 then oB 1 []else bif ltB a.n d then oB 1 []else oA [.i (aH (c.n+1))]else oB 0 []
def aiI(N:Nat)(a b c d e:PD):Oo:=bif eqB e.n 0 then oF [.i 0,.i 0,.i 0,PD.l [],.i 8]else oF [qi a,qi b,qi c,ql d,.i 0]
def aiH:Oo:=aB (TV [qi a,qi b,qi c,ql d,.i (aH (g.n-e.n)),.i (aH (h.n-f.n)),qi c,ql i,qi e,qi f]) 5 fun r=>aiI N (gg r 0) (gg r 1) (gg r 2) (gg r 3) (gg r 4)
def avg(N:Nat):Oo:=oF [.i 0,.i 0,.i 0,PD.l [],.i 2]
def aiG:Oo:=bif cY (if(bH i.q 1)=j.n then(0:Int)else 1) 0 then oF [.i 0,.i 0,.i 0,PD.l [],.i 8]else bi (aO (fun S=>JP N c i (gg S 0)) N [.i 0]) (fun X=>aiH N a b c d e f g h i) (fun X=>avg N)
def aiF:Oo:=bif eqB j.n 0 then oF [.i 0,.i 0,.i 0,PD.l [],.i 8]else aB (ZZ [qi e,qi f,qi g,qi h]) 1 fun r=>aiG N a b c d e f g h i (gg r 0)
def JO:Oo:=bif cY j.n 0 then oF [.i 0,.i 0,.i 0,PD.l [],.i 8]else aB (iC [qi e,qi f,qi g,qi h,.i 0,.i 0,qi a,qi b]) 1 fun r=>aiF N a b c d e f g h i (gg r 0)
def aiE:Oo:=
 let l:=gW [qi f,qi g,qi h,qi i]
 bif eqB k.n 0 then oF [.i 0,.i 0,.i 0,PD.l [],.i 1]else bif cY (if e.n=0 then(0:Int)else 1) 0 then bif cY (if e.n=2 then(0:Int)else 1) 0 then oF [.i 0,.i 0,.i 0,PD.l [],.i 1]else aB l 1 fun r=>JO N a b c d f g h i j (gg r 0)else aB l 1 fun r=>JO N a b c d f g h i j (gg r 0)
def ayW(N:Nat)(a b c d e f g h i j k l m n:PD):Oo:=aB (eD [qi a,qi b,qi c,ql d]) 1 fun r=>aiE N a b c d f g h i j n (gg r 0)
theorem ao1:dk N JN FE KF [a,b,c,d,e,f,g,h,i,j,k,l,m,n]=ayW N a b c d e f g h i j k l m n:=by kernel_rfl
end
end Go.Proofs.YtlchkibailfldaaGreat.Ex
