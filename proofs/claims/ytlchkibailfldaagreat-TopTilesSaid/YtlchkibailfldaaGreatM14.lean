/-
  Part 14 of the proof that TopTiles returns true at every call and leaves what it was given as it was; no condition beyond the row's own.
-/
import Derived.Test.YtlchkibailfldaaGreatM13
set_option linter.unusedVariables false
set_option linter.unusedSimpArgs false
set_option linter.unusedSectionVars false
namespace Go.Proofs.YtlchkibailfldaaGreat.Ex
noncomputable section
open Go Go.RowKit Tryz
set_option maxRecDepth 100000
variable (N:Nat)(a b c d e f g h i j k l m n o p q s t u v w x y z A B C D E F G H I J K L M O P Q R T U9 V9 W Y Z:PD)
def wO:dO:=⟨aof,[ib W20,ib uR,W19,W0,W0,W0,W19,ib Fm,W19,W19],100,[kZ (ib Fo)],false⟩
def zi:List Ct:=[im,zI,arz,ag5,agb,alH]
def B1:PL:=am (aD aJ iV) (am (ay iV (bF ie 18)) (aT 87999999 14 ⟨(vm::(sG::aoJ)),[jO,Js,jN,l4,iZ,jM,kU,iz,j4],14⟩ QK ⟨qT,⟨(u4 (RM::(iY W41))),[(14,azY),jO,Js,jN,l4,iZ,jM,kU,iz,j4],17⟩,3⟩ dN (aa adL (am akR (am akQ (ai (bE 0 ⟨[aq gR AO 3 0,atX,aq gR AO 3 2],[(14,some 14)]⟩)))) (am W92 (am (ay W6 (bF gR 3)) (ai (bE 0 ⟨[aq gR W6 3 0,aq gR W6 3 1,aq gR W6 3 2],[(14,some 14)]⟩))))) (an 1 [eK,fj,e7,fP] (am W92 (am (ay W6 Fl) (aT 300007 20 ⟨(vm::(sG::(u2 (u1 (Fg::(mV::(YB::(RN::(Qt::(JC::(iO (u4 (u1 ((aV (aE (bv adL)))::ah')))))))))))))),azX,20⟩ QK ⟨CX,⟨(vm::(sG::(u2 (u1 (Fg::(mV::(YB::(RN::(Qt::(adK::(u64 air))))))))))),azX,20⟩,1⟩ dN (aa adL (ai (bE 0 ayG)) (ai (bE 0 Fk))) (aT 10 20 ⟨(vm::(sG::(u2 (u1 (Fg::(mV::(YB::(RN::(Qt::(adK::(adJ::(iO (u4 azW))))))))))))),[jO,Js,jN,l4,iZ,jM,kU,iz,j4,p6,lJ],21⟩ ⟨aoC,[(20,none)]⟩ ⟨la,⟨(vm::(sG::(u2 (u1 (Fg::(u1 (YB::(RN::(Qt::(u1 (adJ::(u64 R7)))))))))))),azV,21⟩,1⟩ dN (aa (ay eh adI) (an 2 [eK,fj,e7,fP,eh] (an 0 [IM,AO,adT,akP,adS,adR,adQ,adP,akO,akN,akM,adO,adN,akL,akK,IL,akJ,adM] (aT 91000003 30 ⟨(vm::(u2 (u1 (acZ::(ac0::(u1 (azU::(u8 akI)))))))),[jO,Js,jN,l4,iZ,jM,kU,iz,AN,Qr,Qq,j4,p6,lJ,sI,(30,Hm)],31⟩ ⟨[aJ,cn],[(30,none)]⟩ ⟨la,⟨(u4 (u2 (u1 (azT::(u64 (iY (u8 W41))))))),[(30,asc),jO,Js,jN,l4,iZ,jM,kU,iz,j4,p6,lJ,sI],31⟩,1⟩ dN (aa (ay gZ ahJ) (am asb (aa (ay vf W81) (ai (aL ⟨[RO,j3],ar'⟩)) (am (aD aJ vf) (am (ay vf Fl) (am (ay vf ah8) (aT 91600013 31 ⟨(vm::(u2 (u1 (acZ::(ac0::(u1 (azU::(u1 ((aV (aE (ax vf)))::((aV (aE (ax adG)))::((aV (aE (ax akH)))::(u4 akI)))))))))))),[jO,Js,jN,l4,iZ,jM,kU,iz,AN,Qr,(30,Hm),Qq,j4,p6,lJ,sI],31⟩ QK ⟨CX,⟨(vm::(u2 (u1 (acZ::(ac0::(u1 (atW::(u8 akI)))))))),[jO,Js,jN,l4,iZ,jM,kU,iz,AN,Qr,(31,ad2),Qq,j4,p6,lJ,sI],32⟩,1⟩ dN (aa azZ (aT 93000002 31 ⟨(atW::(u1 ((aV (aE (ax akH)))::(u4 (VH::W46))))),[jO,Js,jN,l4,iZ,jM,kU,iz,j4,p6,lJ,sI,AN,Qr,Qq,(31,ad2)],32⟩ ⟨[j3,adG],[(31,some 30)]⟩ ⟨la,⟨(atW::Am),[(31,ad2),jO,Js,jN,l4,iZ,jM,kU,iz,j4,p6,lJ,sI,AN,Qr,Qq],32⟩,1⟩ dN (aa (ay gf akH) (am (aD (d8 Qz W5) f_) (ai (aL ⟨[cW nP aCt,ad1],[(31,some 33)]⟩))) azS) azS dL) (am (aD aJ atV) (am (ay atV (bF ie 18)) (aa (bL (aq ie atV 18 0) nR) (am asa (ai (bE 0 ⟨[cW j3 (ao cn (aQ akH W5))],[(31,some 33)]⟩))) (am (ay vf (bF gR 3)) (an 3 [IM,AO,adT,akP,adS,adR,adQ,adP,akO,akN,akM,adO,adN,akL,akK,IL,akJ,adM,aq gR vf 3 0,aq gR vf 3 1,e7,fP,d5,eE,fZ,gQ] (aT 91000009 34 ⟨(vm::(u2 (u1 (acZ::(ac0::(u1 (azR::(u2 ((aV (aE (ax adG)))::(u4 (u1 ((aV (aE axy))::(avb::(sB::(iO (iY (u2 ((aV (aE (cK 33 lm)))::((aV (aE (ax Qz)))::((aV (aE (ax iU)))::(iY (u8 W41)))))))))))))))))))))),[jO,Js,jN,l4,iZ,jM,kU,iz,AN,Qr,Qq,(33,bZ true jQ nP),j4,p6,lJ,sI,atU],35⟩ ⟨[j3,aJ],[(34,some 30)]⟩ ⟨fC 3,⟨(vm::(u2 (u1 (acZ::(ac0::(u1 (azR::(u8 akI)))))))),[jO,Js,jN,l4,iZ,jM,kU,iz,AN,Qr,atU,Qq,j4,p6,lJ,sI],35⟩,1⟩ dN (aa (ay iU Qz) (am ad3 (am (aD (d8 (bF vd 1) W5) f_) (ai (aL ⟨[cW vd (ao cn (aG adG (aq nP iU 1 0))),aG iU W5],[(34,some 36)]⟩)))) (ai (bE 0 ⟨[vd],[(34,some 34)]⟩))) (ai (bE 0 ⟨[vd],[(31,some 34)]⟩)) dL))))))) (ai (aL ⟨[RO,nP],[(30,some 31)]⟩)) dL)))))) (ai (bE 0 ⟨[j3],ar'⟩))) (aT 300015 31 ⟨(vm::(sG::(u2 (u1 (Fg::(mV::(YB::(RN::(Qt::(adK::(adJ::(rL::(yf::(u1 (azT::(iO (u2 (u1 ((aV (aE (ax adI)))::(rL::(iY (u8 (u1 ((aV (aE (bv (bL IM Hv))))::(iO W67))))))))))))))))))))))))),[jO,Js,jN,l4,iZ,jM,kU,iz,j4,p6,lJ,sI,(30,asc)],31⟩ QK ⟨CX,⟨(vm::(sG::(u2 (u1 (Fg::(mV::(YB::(RN::(Qt::(adK::(adJ::(u1 (yf::(u1 (atT::(iO azW)))))))))))))))),[jO,Js,jN,l4,iZ,jM,kU,iz,j4,p6,lJ,sI,(34,Hm)],35⟩,1⟩ dN (aa (bL IM Hv) (am azQ (aa (ay aJ (j2 eh i8)) (am aCu (aa (aD i8 eh) (am (aD (d8 (bF atS 1) W5) f_) (ai (bE 0 ⟨[cW atS azP],[(34,some 34)]⟩))) (ai (bE 0 ⟨[atS],[(34,some 32)]⟩)))) (aa (aD i8 eh) (am aCu (ai (bE 0 ⟨[cW cS azP],[(34,some 32)]⟩))) azO))) azO) (am (aD Af f_) (an 5 [j3] (aT 151999999 40 azM QK azL dN (aa (ay Af fv) azK (aT 151000004 40 ⟨(atT::(u2 (VH::air))),azN,40⟩ ayG ⟨la,azM,0⟩ azL (aa (ay gf Af) (am (aD aJ gf) (am (aD aJ atR) (am (ay atR Af) (aa (bL (aq adF gf 1 0) (aq adF atR 1 0)) (am (aD gf Af) (aT 151000009 40 ⟨(azJ::(u2 (an4::((aV (aE (bQ 34 1 gf AM)))::(RT::YQ))))),azI,40⟩ ⟨[adF,W5,gf],[]⟩ ⟨qg,⟨(azJ::(u2 (RT::air))),azI,40⟩,2⟩ dN (am (aD gf AM) (aa (ay kn (CS AM gf)) (am aDb (am (aD aJ akG) (am (ay akG AM) (am (aD aJ atQ) (am (ay atQ (CS AM gf)) (am (aD aJ atP) (am (ay atP AM) (aa (aC (aY (aq Fj akG 1 0) (aq Fj atP 1 0) 3)) (am (aD aJ nQ) (am (ay nQ AM) (ai (aL ⟨[bW Fj nQ 1 0 (aq Fj akG 1 0),aG kn W5,atY],[]⟩)))) (ai (aL ⟨[Fj,aG kn W5,nQ],[]⟩)))))))))) (ai (bE 0 ⟨[Fj,nQ],[]⟩)))) (am aDb (am (aD kn AM) (ai (bE 1 ⟨[oN Fj kn (gP (CS AM kn) aJ),kn],[]⟩)))) dL)) (ai (aL ⟨[ad1],[]⟩)))))) C1) azK (ai (bE 0 ⟨[vd,iU],[]⟩)))) (aa (bL kD fv) (am akR (am akQ (an 4 azH (am ad3 (am azG (am atO (ai (aL ⟨[cW Fp (ao (ao azF W5) kn),aub],[(20,some 42)]⟩)))))))) (am akR (am akQ (an 4 azH (am ad3 (am azG (am atO (ai (aL ⟨[cW Fp (ao (ao azF akS) kn),aub],[(20,some 42)]⟩))))))))) dL))) dL) dL))) (ai (bE 0 ⟨[Fp],[(20,some 20)]⟩))) (aT 300022 21 ⟨(vm::(sG::(u2 (u1 (Fg::(u1 (YB::(RN::(Qt::(u1 (adJ::(u64 (iO (u4 (u1 ((aV (aE (bv adL)))::Am)))))))))))))))),azV,21⟩ QK ⟨CX,⟨(u8 (u2 (u1 ((aV (aE (bQ 30 9 aJ (bF i0 9))))::(u64 R7))))),[(30,cG true 9 46 Fo i0 ⟨some 30,true⟩),jO,Js,jN,l4,iZ,jM,kU,iz],31⟩,1⟩ dN (aa adL (aT 93000002 23 ⟨(akF::(u1 ((aV (aE (ax (aG Vx adI))))::(u4 (ac3::W46))))),[jO,Js,jN,l4,iZ,jM,kU,iz,(21,IK),j4,lJ,(23,axd)],24⟩ ⟨[cn,Vx],[(23,none)]⟩ ⟨la,⟨(akF::Am),[(23,axd),jO,Js,jN,l4,iZ,jM,kU,iz,(21,IK),j4,lJ],24⟩,1⟩ dN (aa (ay d5 (aG Vx adI)) (am (aD (d8 RL W5) f_) (ai (aL ⟨[cW i0 (ao cn d5),aCD],[(23,some 25)]⟩))) (ai (bE 0 ⟨[i0],[(23,some 23)]⟩))) (am (aD RL f_) (an 5 [i0] (aT 151999999 29 azD QK azC dN (aa (ay RL fv) azB (aT 151000004 29 ⟨(akF::(u2 (xZ::air))),azE,29⟩ ayG ⟨la,azD,0⟩ azC (aa (ay eE RL) (am (aD aJ eE) (am (aD aJ atN) (am (ay atN RL) (aa (bL (aq adE eE 1 0) (aq adE atN 1 0)) (am (aD eE RL) (aT 151000009 29 ⟨(azA::(u2 (ahK::((aV (aE (bQ 23 1 eE CW)))::(RP::YQ))))),azz,29⟩ ⟨[adE,W5,eE],[]⟩ ⟨qg,⟨(azA::(u2 (RP::air))),azz,29⟩,2⟩ dN (am (aD eE CW) (aa (ay gQ (CS CW eE)) (am (aD aJ gQ) (am (aD aJ akE) (am (ay akE CW) (am (aD aJ atM) (am (ay atM (CS CW eE)) (am (aD aJ atL) (am (ay atL CW) (aa (aC (aY (aq jJ akE 1 0) (aq jJ atL 1 0) 3)) (am aCG (am (ay gm CW) (ai (aL ⟨[bW jJ gm 1 0 (aq jJ akE 1 0),axk,axc],[]⟩)))) (ai (aL ⟨[jJ,axk,gm],[]⟩)))))))))) (ai (bE 0 ⟨[jJ,gm],[]⟩)))) (am (aD aJ gQ) (am (aD gQ CW) (ai (bE 1 ⟨[oN jJ gQ (gP (CS CW gQ) aJ),gQ],[]⟩)))) dL)) (ai (aL ⟨[aG eE W5],[]⟩)))))) C1) azB (ai (bE 0 ⟨[oQ,fZ],[]⟩)))) (am akR (am akQ (an 4 [IM,AO,adT,akP,adS,adR,adQ,adP,akO,akN,akM,adO,adN,akL,akK,IL,akJ,adM,atX,aJ,aJ,IL,W5] (am auK (am (aD fZ ac6) (am atO (ai (bE 0 ⟨[cW Fp (ao (ao (df (ao (ao (ao (ao (ao (ao cn W6) fv) aJ) aJ) IL) W5) (ic oQ aJ fZ 1)) W5) gQ)],ar'⟩)))))))) dL))) dL) (ai (bE 0 ⟨[Fp],[(30,some 20)]⟩))) (ai (aF [i0,dT,ie,jd,et,e7,fP,qS,gR,fa,ll])) dL) dL) dL)))) dL))
theorem abd:fF zi wO f37 B1=true:=by kernel_rfl
def Ow:=dj zi wO B1
def af9:Ct:=dl zi abd func37 call37 rfl
def Gu(N:Nat)(a b c d:PD):Oo:=
 let e:=(el c.q (aH (a.n-(bH b.q 4))) 18 1).n
 bif eqB ((el c.q (aH (a.n-(bH b.q 4))) 18 0).n) 4 then aI (bC 0 e)<|aI (ltB e (bH d.q 3))<|oB 0 [el d.q e 3 0,el d.q e 3 1,el d.q e 3 2]else aI (bC 0 a.n)<|aI (ltB a.n (bH d.q 3))<|oB 0 [el d.q a.n 3 0,el d.q a.n 3 1,el d.q a.n 3 2]
def Gt(N:Nat)(a b c:PD):Oo:=bif eqB ((el c.q (aH (a.n-(bH b.q 4))) 18 0).n) 4 then oB 0 [.i 1]else oB 0 [.i 0]
def zk(N:Nat)(a b c d e f:PD):Oo:=
 let g:=(el c.q d.n 1 0).n
 bif ltB f.n (aH (((el a.q g 1 0).n)+((el b.q g 1 0).n)))then aI (bC ((bH e.q 1)+1) 1000000)<|oA [PD.l (e.q++([]++[qi f])),.i (aH (f.n+1))]else oB 0 [e]
def amJ(N:Nat)(a:PD):Oo:=oB 0 [a]
def zj(N:Nat)(a b c d e f:PD):Oo:=bif ltB f.n (bH d.q 1)then aI (bC 0 f.n)<|aI (bC ((bH e.q 1)+1) 1000000)<|oA [PD.l (e.q++([]++[PD.i (aH (((el a.q ((el b.q c.n 1 0).n) 1 0).n)+((el d.q f.n 1 0).n)))])),.i (aH (f.n+1))]else oB 0 [e]
def amI(N:Nat)(a:PD):Oo:=oB 0 [a]
def Ub:Oo:=bi (aO (fun S=>zj N a b c e (gg S 0) (gg S 1)) N [d,.i 0]) (fun X=>amI N (gg X 0)) (fun X=>none)
def Gs:Oo:=
 let p:=aH (a.n-(bH b.q 4))
 let q:=(el m.q n.n 1 0).n
 let s:=aH (q-(bH b.q 4))
 let t:=(el c.q p 18 3).n
 bif cY t 0 then bi (aO (fun S=>zk N g h m n (gg S 0) (gg S 1)) N [o,el g.q q 1 0]) (fun X=>amJ N (gg X 0)) (fun X=>none)else aI (bC 0 s)<|aI (ltB s (bH c.q 18))<|bif eqB ((el c.q s 18 0).n) 4 then aI (bC ((bH o.q 1)+1) 1000000)<|oB 0 [PD.l (o.q++([]++[PD.i (aH ((aH (((el g.q q 1 0).n)+((el h.q q 1 0).n)))-1))]))]else aI (ltB q (bH f.q 3))<|aB (PC [.i ((el c.q p 18 0).n),.i ((el c.q p 18 1).n),.i ((el c.q p 18 2).n),.i (if t=0 then(0:Int)else 1),.i ((el c.q p 18 4).n),.i ((el c.q p 18 5).n),.i ((el c.q p 18 6).n),.i ((el c.q p 18 7).n),PD.l ((el c.q p 18 8).q),PD.l ((el c.q p 18 9).q),PD.l ((el c.q p 18 10).q),.i ((el c.q p 18 11).n),.i ((el c.q p 18 12).n),PD.l ((el c.q p 18 13).q),PD.l ((el c.q p 18 14).q),.i ((el c.q p 18 15).n),PD.l ((el c.q p 18 16).q),.i ((el c.q p 18 17).n),.i ((el f.q q 3 0).n),.i ((el f.q q 3 1).n),qi d,qi e,qi i,qi j,qi k,qi l]) 1 fun r=>Ub N g m n o (gg r 0)
def Ua(N:Nat)(a b:PD):Oo:=oA [.i (aH (a.n+1)),b]
def pG:Oo:=
 let p:=(el m.q n.n 1 0).n
 bif ltB n.n (bH m.q 1)then aI (bC 0 n.n)<|bif ltB p (bH b.q 4)then oA [.i (aH (n.n+1)),o]else aI (bC 0 p)<|aI (ltB p (bH g.q 1))<|aI (ltB p (bH h.q 1))<|bi (aO (fun S=>Gs N a b c d e f g h i j k l m n o) N []) (fun X=>Ua N n (gg X 0)) (fun X=>none)else oB 0 [o]
def B5(N:Nat)(a b c d e f g:PD):Oo:=
 let h:=aH (((el d.q a.n 1 0).n)+f.n)
 let i:=g.q++([]++[PD.i (aH (h-1))])
 let j:=bC ((bH g.q 1)+1) 1000000
 let k:=[]++[PD.i (aH (h-e.n))]
 bif eqB ((el c.q (aH (a.n-(bH b.q 4))) 18 0).n) 5 then aI (cY (if e.n=0 then(0:Int)else 1) 0)<|bif ltB 0 (Int.tmod f.n e.n)then aI j<|bif bC e.n f.n then aI (bC ((bH i 1)+1) 1000000)<|oB 0 [PD.l (i++k)]else oB 0 [PD.l i]else bif bC e.n f.n then aI j<|oB 0 [PD.l (g.q++k)]else oB 0 [g]else oB 0 [g]
def pF(N:Nat)(a b c d:PD):Oo:=
 let e:=aH (c.n-1)
 let f:=bH b.q 1
 let g:=a.n+c.n
 let h:=a.n+e
 let i:=(el b.q g 1 0).n
 aI (bC a.n f)<|bif ltB c.n (f-a.n)then aI (bC 0 c.n)<|aI (bC 0 g)<|aI (ltB g f)<|aI (bC 0 e)<|aI (ltB e (f-a.n))<|aI (bC 0 h)<|aI (ltB h f)<|bif cY (if i=((el b.q h 1 0).n)then(0:Int)else 1) 0 then aI (bC 0 d.n)<|aI (ltB d.n f)<|oA [PD.l (cM b.q d.n 1 0 (PD.i i)),.i (aH (c.n+1)),.i (aH (d.n+1))]else oA [b,.i (aH (c.n+1)),qi d]else oB 0 [b,qi d]
def OQ(N:Nat)(a b:PD):Oo:=aI (bC 0 b.n)<|aI (bC b.n (bH a.q 1))<|oB 1 [PD.l (vg a.q b.n (List.replicate (Int.toNat ((bH a.q 1)-b.n)) (PD.i 0))),qi b]
def t_:Oo:=
 let d:=vg a.q 0 b.q
 let e:=aH (c.n-1)
 let f:=bH a.q 1
 bif ltB c.n f then aI (bC 0 c.n)<|aI (bC 0 e)<|aI (ltB e f)<|bif eqB ((el d c.n 1 0).n) ((el d e 1 0).n)then aI (bC c.n f)<|bi (aO (fun S=>pF N c (gg S 0) (gg S 1) (gg S 2)) N [PD.l d,.i 1,qi c]) (fun X=>OQ N (gg X 0) (gg X 1)) (fun X=>none)else oA [.i (aH (c.n+1))]else oB 0 []
def OP(N:Nat)(a b:PD):Oo:=oB 0 [PD.l (vg a.q 0 b.q),.i (bH a.q 1)]
def OO(N:Nat)(a b:PD):Oo:=oB 0 [a,qi b]
def B4:Oo:=bif ltB (bH a.q 1) 2 then oB 0 [PD.l (vg a.q 0 b.q),.i (bH a.q 1)]else bi (aO (fun S=>t_ N a b (gg S 0)) N [.i 1]) (fun X=>OP N a b) (fun X=>OO N (gg X 0) (gg X 1))
def af'(N:Nat)(a b c d e f g h i j k:PD):Oo:=aI (bC 0 j.n)<|aI (bC j.n (bH i.q 1))<|aI (bC ((bH c.q 9)+1) 1000000)<|oA [PD.l (c.q++((((((((([]++[qi a])++[qi b])++[qi e])++[qi f])++[qi g])++[qi h])++[PD.l (iv i.q 0 j.n 1)])++[PD.i 1])++[qi k])),.i (aH (d.n+1))]
def ON(N:Nat)(a b c d e f g h i j k:PD):Oo:=aI (bC 0 j.n)<|aI (bC j.n (bH i.q 1))<|aI (bC ((bH c.q 9)+1) 1000000)<|oA [PD.l (c.q++((((((((([]++[qi a])++[qi b])++[qi e])++[qi f])++[qi g])++[qi h])++[PD.l (iv i.q 0 j.n 1)])++[PD.i (aH (h.n-f.n))])++[qi k])),.i (aH (d.n+1))]
def OM:Oo:=
 let n:=(el c.q (aH (a.n-(bH b.q 4))) 18 1).n
 let o:=B7 [.i ((el c.q (aH (a.n-(bH b.q 4))) 18 0).n),.i n,.i ((el c.q (aH (a.n-(bH b.q 4))) 18 2).n),.i (if((el c.q (aH (a.n-(bH b.q 4))) 18 3).n)=0 then(0:Int)else 1),.i ((el c.q (aH (a.n-(bH b.q 4))) 18 4).n),.i ((el c.q (aH (a.n-(bH b.q 4))) 18 5).n),.i ((el c.q (aH (a.n-(bH b.q 4))) 18 6).n),.i ((el c.q (aH (a.n-(bH b.q 4))) 18 7).n),PD.l ((el c.q (aH (a.n-(bH b.q 4))) 18 8).q),PD.l ((el c.q (aH (a.n-(bH b.q 4))) 18 9).q),PD.l ((el c.q (aH (a.n-(bH b.q 4))) 18 10).q),.i ((el c.q (aH (a.n-(bH b.q 4))) 18 11).n),.i ((el c.q (aH (a.n-(bH b.q 4))) 18 12).n),PD.l ((el c.q (aH (a.n-(bH b.q 4))) 18 13).q),PD.l ((el c.q (aH (a.n-(bH b.q 4))) 18 14).q),.i ((el c.q (aH (a.n-(bH b.q 4))) 18 15).n),PD.l ((el c.q (aH (a.n-(bH b.q 4))) 18 16).q),.i ((el c.q (aH (a.n-(bH b.q 4))) 18 17).n),.i ((el d.q n 3 1).n),qi h,qi i,qi j,qi k]
 let p:=ltB n (bH d.q 3)
 bif eqB e.n 2 then aI (bC 0 n)<|aI p<|aB o 1 fun r=>af' N a e f g h i j k l m (gg r 0)else aI (bC 0 n)<|aI p<|aB o 1 fun r=>ON N a e f g h i j k l m (gg r 0)
def OL:Oo:=bi (aO (fun S=>B4 N l m) N []) (fun X=>OM N a b c d e f g h i j k (gg X 0) (gg X 1)) (fun X=>none)
def OK:Oo:=aI (bC (bH l.q 1) 1000000)<|aB (rT [ql l]) 1 fun r=>OL N a b c d e f g h i j k l (gg r 0)
def OJ:Oo:=bi (aO (fun S=>B5 N a b c e f i n) N []) (fun X=>OK N a b c d g h i j k l m (gg X 0)) (fun X=>none)
def OI:Oo:=bi (aO (fun S=>pG N a b c d e f g h m n o p q (gg S 0) (gg S 1)) N [.i 0,PD.l []]) (fun X=>OJ N a b c f g i j k l m n o p (gg X 0)) (fun X=>none)
def B3:Oo:=
 let q:=aH (a.n-(bH b.q 4))
 aB (ft [.i ((el c.q q 18 0).n),.i ((el c.q q 18 1).n),.i ((el c.q q 18 2).n),.i (if((el c.q q 18 3).n)=0 then(0:Int)else 1),.i ((el c.q q 18 4).n),.i ((el c.q q 18 5).n),.i ((el c.q q 18 6).n),.i ((el c.q q 18 7).n),PD.l ((el c.q q 18 8).q),PD.l ((el c.q q 18 9).q),PD.l ((el c.q q 18 10).q),.i ((el c.q q 18 11).n),.i ((el c.q q 18 12).n),PD.l ((el c.q q 18 13).q),PD.l ((el c.q q 18 14).q),.i ((el c.q q 18 15).n),PD.l ((el c.q q 18 16).q),.i ((el c.q q 18 17).n)]) 1 fun r=>OI N a b c d e f g h i j k l m n o p (gg r 0)
def t8:Oo:=bif ltB o.n (aH (k.n*l.n))then aB (acm [qi i,qi j,qi d,qi e,qi o]) 5 fun r=>B3 N a b c d e f g h k m n o (gg r 0) (gg r 1) (gg r 2) (gg r 3)else oB 0 [n]
def t7(N:Nat)(a b c d e f:PD):Oo:=bif ltB f.n (aH (((el b.q a.n 1 0).n)+(aH (c.n*d.n))))then aI (bC ((bH e.q 1)+1) 1000000)<|oA [PD.l (e.q++([]++[qi f])),.i (aH (f.n+1))]else oB 0 [e]
def pE(N:Nat)(a b c d:PD):Oo:=
 let e:=aH (c.n-1)
 let f:=bH b.q 1
 let g:=a.n+c.n
 let h:=a.n+e
 let i:=(el b.q g 1 0).n
 aI (bC a.n f)<|bif ltB c.n (f-a.n)then aI (bC 0 c.n)<|aI (bC 0 g)<|aI (ltB g f)<|aI (bC 0 e)<|aI (ltB e (f-a.n))<|aI (bC 0 h)<|aI (ltB h f)<|bif cY (if i=((el b.q h 1 0).n)then(0:Int)else 1) 0 then aI (bC 0 d.n)<|aI (ltB d.n f)<|oA [PD.l (cM b.q d.n 1 0 (PD.i i)),.i (aH (c.n+1)),.i (aH (d.n+1))]else oA [b,.i (aH (c.n+1)),qi d]else oB 0 [b,qi d]
def OH(N:Nat)(a b:PD):Oo:=aI (bC 0 b.n)<|aI (bC b.n (bH a.q 1))<|oB 1 [PD.l (vg a.q b.n (List.replicate (Int.toNat ((bH a.q 1)-b.n)) (PD.i 0))),qi b]
def t6:Oo:=
 let d:=vg a.q 0 b.q
 let e:=aH (c.n-1)
 let f:=bH a.q 1
 bif ltB c.n f then aI (bC 0 c.n)<|aI (bC 0 e)<|aI (ltB e f)<|bif eqB ((el d c.n 1 0).n) ((el d e 1 0).n)then aI (bC c.n f)<|bi (aO (fun S=>pE N c (gg S 0) (gg S 1) (gg S 2)) N [PD.l d,.i 1,qi c]) (fun X=>OH N (gg X 0) (gg X 1)) (fun X=>none)else oA [.i (aH (c.n+1))]else oB 0 []
def OG(N:Nat)(a b:PD):Oo:=oB 0 [PD.l (vg a.q 0 b.q),.i (bH a.q 1)]
def OF(N:Nat)(a b:PD):Oo:=oB 0 [a,qi b]
def B2:Oo:=bif ltB (bH a.q 1) 2 then oB 0 [PD.l (vg a.q 0 b.q),.i (bH a.q 1)]else bi (aO (fun S=>t6 N a b (gg S 0)) N [.i 1]) (fun X=>OG N a b) (fun X=>OF N (gg X 0) (gg X 1))
def OE(N:Nat)(a b c d e f g:PD):Oo:=aI (bC 0 f.n)<|aI (bC f.n (bH e.q 1))<|aI (bC ((bH d.q 9)+1) 1000000)<|oB 0 [PD.l (d.q++((((((((([]++[qi a])++[PD.i 2])++[PD.i 0])++[PD.i 0])++[PD.i ((el c.q (aH (a.n-(bH b.q 4))) 18 15).n)])++[PD.i 1])++[PD.l (iv e.q 0 f.n 1)])++[PD.i 1])++[qi g]))]
def OD:Oo:=
 let h:=aH (a.n-(bH b.q 4))
 let i:=(el c.q h 18 1).n
 let j:=(el c.q h 18 15).n
 aI (bC 0 i)<|aI (ltB i (bH d.q 3))<|aB (B7 [.i ((el c.q h 18 0).n),.i i,.i ((el c.q h 18 2).n),.i (if((el c.q h 18 3).n)=0 then(0:Int)else 1),.i ((el c.q h 18 4).n),.i ((el c.q h 18 5).n),.i ((el c.q h 18 6).n),.i ((el c.q h 18 7).n),PD.l ((el c.q h 18 8).q),PD.l ((el c.q h 18 9).q),PD.l ((el c.q h 18 10).q),.i ((el c.q h 18 11).n),.i ((el c.q h 18 12).n),PD.l ((el c.q h 18 13).q),PD.l ((el c.q h 18 14).q),.i j,PD.l ((el c.q h 18 16).q),.i ((el c.q h 18 17).n),.i ((el d.q i 3 1).n),.i 0,.i 0,.i j,.i 1]) 1 fun r=>OE N a b c e f g (gg r 0)
def OC:Oo:=bi (aO (fun S=>B2 N f g) N []) (fun X=>OD N a b c d e (gg X 0) (gg X 1)) (fun X=>none)
def OB:Oo:=aI (bC (bH f.q 1) 1000000)<|aB (rT [ql f]) 1 fun r=>OC N a b c d e f (gg r 0)
def pD:Oo:=bif eqB ((el c.q (aH (a.n-(bH b.q 4))) 18 0).n) 4 then bi (aO (fun S=>t7 N a e f g (gg S 0) (gg S 1)) N [PD.l [],el e.q a.n 1 0]) (fun X=>OB N a b c d h (gg X 0)) (fun X=>none)else oB 0 [h]
def af_(N:Nat)(a b c d e f g h i j k:PD):Oo:=oF [ql k,ql a,ql b,ql c,qi d,qi e,qi f,ql g,ql h,ql i,ql j]
def OA:Oo:=bi (aO (fun S=>pD N a b c i j l m n) N []) (fun X=>af_ N b c d e f g h i j k (gg X 0)) (fun X=>none)
def Oz:Oo:=bi (aO (fun S=>t8 N a b c f g i j k l m n o p (gg S 0) (gg S 1)) N [PD.l [],.i 0]) (fun X=>OA N a b c d e f g h i j k n o (gg X 0)) (fun X=>none)
def Oy:Oo:=aI (bC 0 a.n)<|aI (ltB a.n (bH j.q 1))<|bi (aO (fun S=>Gt N a b c) N []) (fun X=>Oz N a b c d e f g h i j k l m n o (gg X 0)) (fun X=>none)
def Ox:Oo:=aB (oY [qi l,qi m,qi f,qi g]) 2 fun r=>Oy N a b c d e f g h i j k l m (gg r 0) (gg r 1)
def ajE:Oo:=
 let l:=aH (a.n-(bH b.q 4))
 aI (bC 0 l)<|aI (ltB l (bH c.q 18))<|bi (aO (fun S=>Gu N a b c i) N []) (fun X=>Ox N a b c d e f g h i j k (gg X 0) (gg X 1)) (fun X=>none)
theorem af8:dk N zi wO B1 [a,b,c,d,e,f,g,h,i,j,k]=ajE N a b c d e f g h i j k:=by kernel_rfl
def Gv:dO:=⟨[Hu,W1,W1],[],0,[kZ (ib Fo),W1],false⟩
def Ka:List Ct:=[Iz,Cy,zI,af9]
def OR:PL:=an 0 Qm (aa (aC W78) (ai (aF [cn,lH])) (an 1 Qm (aa (aC (aY fT aJ 3)) (ai (aF [cn,fT])) (aa (ay et W5) ahU (aa (ay R6 et) ahU (aa ax4 ahU (aa (ay R6 e7) ahU (am (aD YD f_) (aT 37000014 17 ⟨(u1 (nB::(W30::(u8 (u1 (RM::(asn::(iO (iY (u8 (adD::((aV (aE (ax Fl)))::(YB::(iO JF)))))))))))))),azx,17⟩ ⟨[gP YD aJ,gP YD aJ,aJ,aJ],[]⟩ ⟨la,⟨(u8 (u4 (RM::(asn::(u64 W32))))),azx,17⟩,3⟩ dN (aa (ay i8 Fl) (am (aD aJ i8) (am (aD aJ akD) (am (ay akD Ht) (aa (bL (aq dT akD 18 0) nR) (am (aD aJ akC) (am (ay akC YD) (an 2 [aq gY akC 3 0,aq gY akC 3 1,et,e7] (am (aD aJ vc) (am (ay vc Fd) (am azw (ai (aL ⟨[azv,bW Qf vc 1 0 (aG akB W5),aG i9 (aG akB W5),asv],[]⟩)))))))) (am (aD aJ vc) (am (ay vc YD) (an 2 [aq gY vc 3 0,aq gY vc 3 1,et,e7] (am (ay vc Fd) (am azw (ai (aL ⟨[azv,bW Qf vc 1 0 akB,aG i9 akB,asv],[]⟩))))))))))) (ai (bE 0 ⟨[CY,Qf,i9],[]⟩))) (aa (ay W12 i9) (ai (aF [cn,aR 13])) (aT 6 17 ⟨(u8 (RM::(u1 (azu::(u8 (u4 (u2 (u1 (adD::((aV (aE (ax Fl)))::(RN::W31))))))))))),[(14,a_ 0 100 [W59,Ko,ah4,ax kD,ax eo,ax eh,atK,ash,bQ 15 1 aJ Fd,azy]),Vu,uQ,qh,(12,bZ true jQ fa),(9,bZ true Fm gY),(15,axi),(16,axg),azt],18⟩ ⟨[cn,aJ,gK,et,e7],[(17,none)]⟩ ⟨la,⟨(u8 (u2 (azu::(iY W95)))),[azt],18⟩,1⟩ dN (aa (ay fI Fl) (am aCO (an 3 [aq fa fI 1 0,mb,dT,ie,kD,eo,eh,fa,gY,CY,Qf] (am (aD (d8 (bF iJ 9) (bF RU 9)) f_) (ai (aL ⟨[cW iJ RU,aCN,gm,iy,gZ],[(17,some 19)]⟩))))) (ai (bE 0 ⟨[iJ],[(17,some 17)]⟩))) (ai (aF [iJ,aJ])) dL)) dL)))))))))
theorem amL:fF Ka Gv f8 OR=true:=by kernel_rfl
def Eb:=dj Ka Gv OR
def aqB:Ct:=dl Ka amL func8 call8 rfl
def ajK(N:Nat)(a b c d e f g:PD):Oo:=
 let h:=(el a.q e.n 1 0).n
 let i:=aH ((aH (f.n*g.n))+1)
 aI (bC 0 h)<|aI (ltB h (bH b.q 1))<|aI (ltB h (bH c.q 1))<|oA [PD.l (cM b.q h 1 0 (qi d)),PD.l (cM c.q h 1 0 (PD.i i)),.i (aH (d.n+i)),.i (aH (e.n+1))]
def ajJ(N:Nat)(a b c d e f g:PD):Oo:=
 let h:=(el a.q e.n 1 0).n
 let i:=aH (f.n*g.n)
 aI (ltB h (bH b.q 1))<|aI (ltB h (bH c.q 1))<|oA [PD.l (cM b.q h 1 0 (qi d)),PD.l (cM c.q h 1 0 (PD.i i)),.i (aH (d.n+i)),.i (aH (e.n+1))]
def Ec:Oo:=
 let k:=(el f.q j.n 1 0).n
 let l:=aH (k-(bH a.q 4))
 let m:=(el b.q l 18 1).n
 bif ltB j.n (bH f.q 1)then aI (bC 0 j.n)<|aI (bC 0 l)<|aI (ltB l (bH b.q 18))<|bif eqB ((el b.q l 18 0).n) 4 then aI (bC 0 m)<|aI (ltB m (bH e.q 3))<|aB (oY [.i ((el e.q m 3 0).n),.i ((el e.q m 3 1).n),qi c,qi d]) 2 fun r=>ajK N f g h i j (gg r 0) (gg r 1)else aI (bC 0 k)<|aI (ltB k (bH e.q 3))<|aB (oY [.i ((el e.q k 3 0).n),.i ((el e.q k 3 1).n),qi c,qi d]) 2 fun r=>ajJ N f g h i j (gg r 0) (gg r 1)else oB 0 [g,h,qi i]
def ajI(N:Nat)(a b c d e f:PD):Oo:=aI (bC ((bH a.q 9)+(bH c.q 9)) 1000000)<|oA [PD.l (a.q++c.q),.i (aH (b.n+1)),qi d,qi e,qi f]
def Kb:Oo:=bif ltB i.n (bH e.q 1)then aI (bC 0 i.n)<|aB (Ow [.i ((el e.q i.n 1 0).n),ql a,ql b,ql c,qi j,qi k,qi l,ql e,ql d,ql f,ql g]) 11 fun r=>ajI N h i (gg r 0) (gg r 4) (gg r 5) (gg r 6)else oB 0 [h]
def avQ(N:Nat)(a:PD):Oo:=oF [ql a,.i 0]
def ajH:Oo:=bif ltB 4096 k.n then oF [PD.l [],.i 13]else bi (aO (fun S=>Kb N a b c g h i j (gg S 0) (gg S 1) (gg S 2) (gg S 3) (gg S 4)) N [PD.l [],.i 0,qi d,qi e,qi f]) (fun X=>avQ N (gg X 0)) (fun X=>none)
def ajG:Oo:=
 let j:=List.replicate (Int.toNat (bH g.q 3)) (PD.i 0)
 bif cY (if i.n=0 then(0:Int)else 1) 0 then oF [PD.l [],qi i]else bif ltB e.n 1 then oF [PD.l [],.i 2]else bif ltB 64 e.n then oF [PD.l [],.i 2]else bif ltB f.n 1 then oF [PD.l [],.i 2]else bif ltB 64 f.n then oF [PD.l [],.i 2]else aI (bC (bH g.q 3) 1000000)<|bi (aO (fun S=>Ec N a b e f g h (gg S 0) (gg S 1) (gg S 2) (gg S 3)) N [PD.l j,PD.l j,.i 0,.i 0]) (fun X=>ajH N a b c d e f g h (gg X 0) (gg X 1) (gg X 2)) (fun X=>none)
def ajF:Oo:=bif cY (if h.n=0 then(0:Int)else 1) 0 then oF [PD.l [],qi h]else aB (un [ql a,ql b,ql c,qi d]) 2 fun r=>ajG N a b c d e f g (gg r 0) (gg r 1)
def ay6:Oo:=aB (xq [ql a,ql b,ql c,qi d]) 3 fun r=>ajF N a b c d e f (gg r 0) (gg r 2)
theorem aqA:dk N Ka Gv OR [a,b,c,d,e,f]=ay6 N a b c d e f:=by kernel_rfl
end
end Go.Proofs.YtlchkibailfldaaGreat.Ex
