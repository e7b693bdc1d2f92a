/-
  Part 11 of the proof that TopTiles returns true at every call and leaves what it was given as it was; no condition beyond the row's own.
-/
import Derived.Test.YtlchkibailfldaaGreatM10
set_option linter.unusedVariables false
set_option linter.unusedSimpArgs false
set_option linter.unusedSectionVars false
namespace Go.Proofs.YtlchkibailfldaaGreat.Ex
noncomputable section
open Go Go.RowKit Tryz
set_option maxRecDepth 100000
variable (N:Nat)(a b c d e f g h i j k l m n o p q s t u v w x y z A B C D E F G H I J K L M O P Q R T U9 V9 W Y Z:PD)
def gT:dO:=⟨[uT],[],0,W4,false⟩
def yw:List Ct:=[C7]
def A6:PL:=aa R2 dp (aa asM dp (aa JD dp (aa ain dp (aa R1 dp (aa aoG dp (an 0 [W6,W9,W12] (ai (aF [ax1]))))))))
theorem ZC:fF yw gT f128 A6=true:=by kernel_rfl
def A7:=dj yw gT A6
def aeN:Ct:=dl yw ZC func128 call128 rfl
def alL(N:Nat)(a:PD):Oo:=oF [.i (if a.n=0 then(0:Int)else 1)]
def aiS:Oo:=bif ltB a.n 1 then oF [.i 0]else bif ltB 128 a.n then oF [.i 0]else bif ltB b.n 1 then oF [.i 0]else bif ltB 128 b.n then oF [.i 0]else bif ltB c.n 1 then oF [.i 0]else bif ltB 4294967296 c.n then oF [.i 0]else aB (sR [qi a,qi b,.i 4096]) 2 fun r=>alL N (gg r 1)
theorem aeM:dk N yw gT A6 [a,b,c]=aiS N a b c:=by kernel_rfl
def bV:dO:=⟨[x8],[],0,W4,false⟩
def eg:List Ct:=[]
def Q1:PL:=dp
def Q0:PL:=dp
def QZ:PL:=dp
def QY:PL:=aA6
def QX:PL:=auZ
def QW:PL:=auY
def QV:PL:=aa l9 auZ auY
def QU:PL:=auX
def QT:PL:=aa YI dp auX
def QS:PL:=auW
def K1:PL:=auV
def K0:PL:=aa pZ auW auV
def KZ:PL:=auU
def KY:PL:=aa ayb dp auU
def vM:PL:=aI9
def vN:PL:=vM
def IY:List (Bm×Bool):=[]++[(ay W6 W5,true)]
theorem K':gl eg bV f127 bV.ins.length Q1 IY []=true:=by kernel_rfl
def nE:List (Bm×Bool):=[]++[(ay W6 W5,false)]
def IZ:List (Bm×Bool):=nE++[(ay l8 W6,true)]
theorem K_:gl eg bV f127 bV.ins.length Q0 IZ []=true:=by kernel_rfl
def nF:List (Bm×Bool):=nE++[(ay l8 W6,false)]
def nH:List (Bm×Bool):=nF++[(aC (aY W6 l8 3),true)]
def La:List (Bm×Bool):=nH++[(aC (aY dU mY 3),true)]
theorem K9:gl eg bV f127 bV.ins.length QZ La []=true:=by kernel_rfl
def pg:List (Bm×Bool):=nH++[(aC (aY dU mY 3),false)]
def Lb:List (Bm×Bool):=pg++[(bL W6 W5,true)]
theorem K8:gl eg bV f127 bV.ins.length QY Lb []=true:=by kernel_rfl
def ph:List (Bm×Bool):=pg++[(bL W6 W5,false)]
def Ld:List (Bm×Bool):=ph++[(bL W6 fv,true)]
theorem K7:gl eg bV f127 bV.ins.length QX Ld []=true:=by kernel_rfl
def Lc:List (Bm×Bool):=ph++[(bL W6 fv,false)]
theorem K6:gl eg bV f127 bV.ins.length QW Lc []=true:=by kernel_rfl
theorem K5:gl eg bV f127 bV.ins.length QV ph []=true:=fG (by kernel_rfl) K7 K6
theorem K4:gl eg bV f127 bV.ins.length QU pg []=true:=fG (by kernel_rfl) K8 K5
theorem K3:gl eg bV f127 bV.ins.length QT nH []=true:=fG (by kernel_rfl) K9 K4
def nG:List (Bm×Bool):=nF++[(aC (aY W6 l8 3),false)]
def I1:List (Bm×Bool):=nG++[(bL W6 W5,true)]
theorem K2:gl eg bV f127 bV.ins.length QS I1 []=true:=by kernel_rfl
def I0:List (Bm×Bool):=nG++[(bL W6 W5,false)]
theorem IW:gl eg bV f127 bV.ins.length K1 I0 []=true:=by kernel_rfl
theorem IV:gl eg bV f127 bV.ins.length K0 nG []=true:=fG (by kernel_rfl) K2 IW
theorem IU:gl eg bV f127 bV.ins.length KZ nF []=true:=fG (by kernel_rfl) K3 IV
theorem IT:gl eg bV f127 bV.ins.length KY nE []=true:=fG (by kernel_rfl) K_ IU
theorem IS:gl eg bV f127 bV.ins.length vM [] []=true:=fG (by kernel_rfl) K' IT
theorem Wc:fF eg bV f127 vN=true:=xS IS (by kernel_rfl)
def qw:=dj eg bV vN
def HO:Ct:=dl eg Wc func127 call127 rfl
def ZF(N:Nat)(a b c d e f g h i j k l m n o p q s:PD):Oo:=
 let t:=bH q.q 2
 let u:=bH n.q 2
 let v:=bH o.q 2
 let w:=bH k.q 1
 let x:=bH j.q 1
 let y:=bH i.q 1
 let z:=if s.n=0 then(1:Int)else 0
 bif ltB a.n 1 then oF [.i 0]else bif ltB 6 a.n then oF [.i 0]else bif cY (if a.n=6 then(0:Int)else 1) 0 then bif cY (if c.n=(-1)then(0:Int)else 1) 0 then oF [.i 0]else bif eqB a.n 1 then bif eqB a.n 2 then bif eqB a.n 3 then bif eqB a.n 4 then bif eqB t 0 then oF [.i 1]else oF [.i 0]else bif eqB p.n 0 then bif eqB t 0 then oF [.i 1]else oF [.i 0]else oF [.i 0]else bif eqB u 0 then bif eqB v 0 then bif eqB a.n 4 then bif eqB t 0 then oF [.i 1]else oF [.i 0]else bif eqB p.n 0 then bif eqB t 0 then oF [.i 1]else oF [.i 0]else oF [.i 0]else oF [.i 0]else oF [.i 0]else bif eqB a.n 3 then bif eqB x 0 then bif eqB w 0 then bif eqB a.n 4 then bif eqB t 0 then oF [.i 1]else oF [.i 0]else bif eqB p.n 0 then bif eqB t 0 then oF [.i 1]else oF [.i 0]else oF [.i 0]else oF [.i 0]else oF [.i 0]else bif eqB x 0 then bif eqB w 0 then bif eqB m.n 0 then bif eqB u 0 then bif eqB v 0 then bif eqB a.n 4 then bif eqB t 0 then oF [.i 1]else oF [.i 0]else bif eqB p.n 0 then bif eqB t 0 then oF [.i 1]else oF [.i 0]else oF [.i 0]else oF [.i 0]else oF [.i 0]else oF [.i 0]else oF [.i 0]else oF [.i 0]else bif eqB a.n 2 then bif eqB a.n 3 then bif eqB g.n 0 then bif eqB h.n 0 then bif eqB y 0 then bif eqB a.n 4 then bif eqB t 0 then oF [.i 1]else oF [.i 0]else bif eqB p.n 0 then bif eqB t 0 then oF [.i 1]else oF [.i 0]else oF [.i 0]else oF [.i 0]else oF [.i 0]else oF [.i 0]else bif eqB g.n 0 then bif eqB h.n 0 then bif eqB y 0 then bif eqB u 0 then bif eqB v 0 then bif eqB a.n 4 then bif eqB t 0 then oF [.i 1]else oF [.i 0]else bif eqB p.n 0 then bif eqB t 0 then oF [.i 1]else oF [.i 0]else oF [.i 0]else oF [.i 0]else oF [.i 0]else oF [.i 0]else oF [.i 0]else oF [.i 0]else bif eqB a.n 3 then bif eqB g.n 0 then bif eqB h.n 0 then bif eqB y 0 then bif eqB x 0 then bif eqB w 0 then bif eqB a.n 4 then bif eqB t 0 then oF [.i 1]else oF [.i 0]else bif eqB p.n 0 then bif eqB t 0 then oF [.i 1]else oF [.i 0]else oF [.i 0]else oF [.i 0]else oF [.i 0]else oF [.i 0]else oF [.i 0]else oF [.i 0]else bif eqB e.n 0 then bif eqB f.n 0 then bif eqB g.n 0 then bif eqB h.n 0 then bif eqB y 0 then bif eqB x 0 then bif eqB w 0 then bif eqB l.n 0 then bif eqB m.n 0 then bif eqB u 0 then bif eqB v 0 then bif eqB a.n 4 then bif eqB t 0 then oF [.i z]else oF [.i 0]else bif eqB p.n 0 then bif eqB t 0 then oF [.i z]else oF [.i 0]else oF [.i 0]else oF [.i 0]else oF [.i 0]else oF [.i 0]else oF [.i 0]else oF [.i 0]else oF [.i 0]else oF [.i 0]else oF [.i 0]else oF [.i 0]else oF [.i 0]else oF [.i 0]else bif eqB a.n 1 then bif eqB a.n 2 then bif eqB a.n 3 then bif eqB a.n 4 then oF [.i 1]else bif eqB p.n 0 then oF [.i 1]else oF [.i 0]else bif eqB u 0 then bif eqB v 0 then bif eqB a.n 4 then oF [.i 1]else bif eqB p.n 0 then oF [.i 1]else oF [.i 0]else oF [.i 0]else oF [.i 0]else bif eqB a.n 3 then bif eqB x 0 then bif eqB w 0 then bif eqB a.n 4 then oF [.i 1]else bif eqB p.n 0 then oF [.i 1]else oF [.i 0]else oF [.i 0]else oF [.i 0]else bif eqB x 0 then bif eqB w 0 then bif eqB m.n 0 then bif eqB u 0 then bif eqB v 0 then bif eqB a.n 4 then oF [.i 1]else bif eqB p.n 0 then oF [.i 1]else oF [.i 0]else oF [.i 0]else oF [.i 0]else oF [.i 0]else oF [.i 0]else oF [.i 0]else bif eqB a.n 2 then bif eqB a.n 3 then bif eqB g.n 0 then bif eqB h.n 0 then bif eqB y 0 then bif eqB a.n 4 then oF [.i 1]else bif eqB p.n 0 then oF [.i 1]else oF [.i 0]else oF [.i 0]else oF [.i 0]else oF [.i 0]else bif eqB g.n 0 then bif eqB h.n 0 then bif eqB y 0 then bif eqB u 0 then bif eqB v 0 then bif eqB a.n 4 then oF [.i 1]else bif eqB p.n 0 then oF [.i 1]else oF [.i 0]else oF [.i 0]else oF [.i 0]else oF [.i 0]else oF [.i 0]else oF [.i 0]else bif eqB a.n 3 then bif eqB g.n 0 then bif eqB h.n 0 then bif eqB y 0 then bif eqB x 0 then bif eqB w 0 then bif eqB a.n 4 then oF [.i 1]else bif eqB p.n 0 then oF [.i 1]else oF [.i 0]else oF [.i 0]else oF [.i 0]else oF [.i 0]else oF [.i 0]else oF [.i 0]else bif eqB e.n 0 then bif eqB f.n 0 then bif eqB g.n 0 then bif eqB h.n 0 then bif eqB y 0 then bif eqB x 0 then bif eqB w 0 then bif eqB l.n 0 then bif eqB m.n 0 then bif eqB u 0 then bif eqB v 0 then bif eqB a.n 4 then oF [.i 1]else bif eqB p.n 0 then oF [.i 1]else oF [.i 0]else oF [.i 0]else oF [.i 0]else oF [.i 0]else oF [.i 0]else oF [.i 0]else oF [.i 0]else oF [.i 0]else oF [.i 0]else oF [.i 0]else oF [.i 0]else oF [.i 0]
theorem ZE:dk N eg bV vN [a,b,c,d,e,f,g,h,i,j,k,l,m,n,o,p,q,s]=ZF N a b c d e f g h i j k l m n o p q s:=by kernel_rfl
def rg:dO:=⟨[x8],[],0,[Ak],false⟩
def qv:List Ct:=[]
def te:PL:=aa vo (aa YI (ai (aF [ao aw6 dU])) (ai (aF [aw6]))) (ai (aF [aw6]))
theorem QQ:fF qv rg f12 te=true:=by kernel_rfl
def ft:=dj qv rg te
def im:Ct:=dl qv QQ func12 call12 rfl
def SH(N:Nat)(a b c d e f g h i j k l m n o p q s:PD):Oo:=
 let t:=[]++[qi b]
 bif eqB a.n 6 then bif cY (if c.n=(-1)then(0:Int)else 1) 0 then oF [PD.l (t++[qi c])]else oF [PD.l t]else oF [PD.l t]
theorem V7:dk N qv rg te [a,b,c,d,e,f,g,h,i,j,k,l,m,n,o,p,q,s]=SH N a b c d e f g h i j k l m n o p q s:=by kernel_rfl
def vK:dO:=⟨[x8,uT,uT],[],0,kE,false⟩
def yx:List Ct:=[BK,Az]
def A8:PL:=aa vo (an 0 [iI,aIo] (aa ax_ QC (aa (ay eo W5) kW (aa (ay W15 eo) kW (aa YI (an 0 [iI,W5] (aa ax9 (ai (aF [gZ])) (an 1 [iI,eE,gm] (aa ala (ai (aF [gf])) (aa aIm JH (aa aIk JH dp)))))) (an 0 [iI,aJ] (aa ax9 (ai (aF [gZ])) (an 1 [iI,eE,W5] (aa ala (ai (aF [gf])) dp))))))))) (an 0 [iI,aJ] (aa ax_ QC (aa (ay eo W5) kW (aa (ay W15 eo) kW (an 1 [iI,eE,W5] (aa ak' (ai (aF [i7])) dp))))))
theorem ZD:fF yx vK f189 A8=true:=by kernel_rfl
def A9:=dj yx vK A8
def aeO:Ct:=dl yx ZD func189 call189 rfl
def SK(N:Nat)(a b c d e:PD):Oo:=bif cY (if e.n=0 then(0:Int)else 1) 0 then oF [qi e]else bif cY (if a.n=c.n then(0:Int)else 1) 0 then oF [.i 8]else bif cY (if b.n=d.n then(0:Int)else 1) 0 then oF [.i 8]else oF [.i 0]
def SJ:Oo:=bif cY (if h.n=0 then(0:Int)else 1) 0 then oF [qi h]else aB (jC [ql a,qi d,qi g]) 3 fun r=>SK N b c e f (gg r 2)
def alO(N:Nat)(a:PD):Oo:=bif cY (if a.n=0 then(0:Int)else 1) 0 then oF [qi a]else oF [.i 0]
def SI:Oo:=bif cY (if c.n=0 then(0:Int)else 1) 0 then oF [qi c]else aB (jC [ql a,qi b,.i 1]) 3 fun r=>alO N (gg r 2)
def FL:Oo:=bif cY (if j.n=0 then(0:Int)else 1) 0 then oF [qi j]else bif ltB c.n 1 then oF [.i 2]else bif ltB 4294967296 c.n then oF [.i 2]else bif cY (if a.n=(-1)then(0:Int)else 1) 0 then aB (g_ [ql b,.i 1]) 1 fun r=>SJ N b d e f g h i (gg r 0)else aB (g_ [ql b,.i 0]) 1 fun r=>SI N b f (gg r 0)
def alN(N:Nat)(a:PD):Oo:=bif cY (if a.n=0 then(0:Int)else 1) 0 then oF [qi a]else oF [.i 0]
def alM:Oo:=bif cY (if d.n=0 then(0:Int)else 1) 0 then oF [qi d]else bif ltB b.n 1 then oF [.i 2]else bif ltB 4294967296 b.n then oF [.i 2]else aB (jC [ql a,qi c,.i 1]) 3 fun r=>alN N (gg r 2)
def V_(N:Nat)(a b c d e f g h i j k l m n o p q s t u v w x y:PD):Oo:=bif eqB a.n 6 then aB (g_ [ql q,.i (if(if c.n=(-1)then(0:Int)else 1)=0 then(0:Int)else 1)]) 1 fun r=>FL N c q s t u v w x y (gg r 0)else aB (g_ [ql q,.i 0]) 1 fun r=>alM N q s v (gg r 0)
theorem KW:dk N yx vK A8 [a,b,c,d,e,f,g,h,i,j,k,l,m,n,o,p,q,s,t,u,v,w,x,y]=V_ N a b c d e f g h i j k l m n o p q s t u v w x y:=by kernel_rfl
def vO:dO:=⟨[x8,uT,uT],[],0,kE,false⟩
def yz:List Ct:=[PX,KP,Li,AD,aeO]
def Ba:PL:=aa pZ (an 0 aIt QC) (aa l9 (an 1 aIs QC) (aa CV (an 2 aIr QC) (aa vp (aa (ay fI W5) l5 (aa (ay W8 fI) l5 dp)) (aa uS (an 3 asV (aa ax' adw dp)) (an 4 RY QC)))))
theorem ZG:fF yz vO f131 Ba=true:=by kernel_rfl
def lc:=dj yz vO Ba
def ae3:Ct:=dl yz ZG func131 call131 rfl
def yA(N:Nat)(a:PD):Oo:=oF [qi a]
def SM(N:Nat)(a:PD):Oo:=bif eqB a.n 0 then oF [.i 11]else oF [.i 0]
def aiV:Oo:=bif eqB a.n 1 then aB (CR [qi v,qi g,qi h,ql i,qi l,qi s]) 1 fun r=>yA N (gg r 0)else bif eqB a.n 2 then aB (A4 [qi v,ql j,ql k,qi l,qi m,qi s]) 1 fun r=>yA N (gg r 0)else bif eqB a.n 3 then aB (Bg [qi t,qi u,qi v,ql n,ql o,qi l,qi m,qi s]) 1 fun r=>yA N (gg r 0)else bif eqB a.n 4 then bif ltB p.n 1 then oF [.i 9]else bif ltB 128 p.n then oF [.i 9]else oF [.i 0]else bif eqB a.n 5 then aB (rD [qi t,qi u,qi v]) 2 fun r=>SM N (gg r 1)else aB (A9 [qi a,qi b,qi c,.i (if d.n=0 then(0:Int)else 1),qi e,qi f,qi g,qi h,ql i,ql j,ql k,qi l,qi m,ql n,ql o,qi p,ql q,qi s,qi t,qi u,qi v,qi w,qi x,qi y]) 1 fun r=>yA N (gg r 0)
theorem ae2:dk N yz vO Ba [a,b,c,d,e,f,g,h,i,j,k,l,m,n,o,p,q,s,t,u,v,w,x,y]=aiV N a b c d e f g h i j k l m n o p q s t u v w x y:=by kernel_rfl
def eM:dO:=⟨[x8,uT,uT],[],0,[uT,W1],false⟩
def me:List Ct:=[HO,aeN,zW,ae3]
def alW:PL:=YH
def alV:PL:=asU
def alU:PL:=auR
def alT:PL:=ak8
def alS:PL:=aa vo auR ak8
def alR:PL:=auQ
def alQ:PL:=an 1 asV auQ
def alP:PL:=aA0
def SL:PL:=an 0 aon aA0
def V':PL:=SL
def Dn:List QG:=[]++[⟨127,bV,[(.sym 0),(.sym 1),(.sym 2),(.ind (.sym 3) (.lit 0) 3),(.sym 4),(.sym 5),(.sym 6),(.sym 7),(.ds 8),(.ds 9),(.ds 10),(.sym 11),(.sym 12),(.ds 13),(.ds 14),(.sym 15),(.ds 16),(.sym 17)],eM.ins.length⟩]
def aeY:List (Bm×Bool):=[]++[(bL iy aJ,true)]
theorem aeX:gl me eM f78 (eM.ins.length+kC bV) alW aeY Dn=true:=by kernel_rfl
def tf:List (Bm×Bool):=[]++[(bL iy aJ,false)]
def vL:List QG:=Dn++[⟨128,gT,[(.sym 18),(.sym 19),(.sym 20)],(eM.ins.length+kC bV)⟩]
def aeZ:List (Bm×Bool):=tf++[(bL gZ aJ,true)]
theorem aeW:gl me eM f78 ((eM.ins.length+kC bV)+kC gT) alV aeZ vL=true:=by kernel_rfl
def A_:List (Bm×Bool):=tf++[(bL gZ aJ,false)]
def ae1:List (Bm×Bool):=A_++[(bL W6 l8,true)]
theorem aeV:gl me eM f78 ((eM.ins.length+kC bV)+kC gT) alU ae1 vL=true:=by kernel_rfl
def ae0:List (Bm×Bool):=A_++[(bL W6 l8,false)]
theorem aeU:gl me eM f78 ((eM.ins.length+kC bV)+kC gT) alT ae0 vL=true:=by kernel_rfl
theorem aeT:gl me eM f78 ((eM.ins.length+kC bV)+kC gT) alS A_ vL=true:=fG (by kernel_rfl) aeV aeU
theorem aeS:gl me eM f78 ((eM.ins.length+kC bV)+kC gT) alR tf vL=true:=fG (by kernel_rfl) aeW aeT
theorem aeR:gl me eM f78 (eM.ins.length+kC bV) alQ tf Dn=true:=acS (g:=128) (σ:=gT) rfl (by kernel_rfl) (by kernel_rfl) aeS
theorem aeQ:gl me eM f78 (eM.ins.length+kC bV) alP [] Dn=true:=fG (by kernel_rfl) aeX aeR
theorem aeP:gl me eM f78 eM.ins.length SL [] []=true:=acS (g:=127) (σ:=bV) rfl (by kernel_rfl) (by kernel_rfl) aeQ
theorem apg:fF me eM f78 V'=true:=xS aeP (by kernel_rfl)
def nY:=dj me eM V'
def Wa:Ct:=dl me apg func78 call78 rfl
def aBo(N:Nat)(a b c d e f g h i:PD):Oo:=bif cY (if i.n=0 then(0:Int)else 1) 0 then oF [.i 0,.i 0,.i 0,qi i]else bif eqB a.n 3 then oF [.i (bH b.q 2),.i (bH c.q 2),qi e,.i 0]else bif eqB a.n 4 then oF [qi d,.i 1,.i (aH (f.n*g.n)),.i 0]else bif eqB a.n 5 then oF [qi f,qi g,.i (aH ((aH (h.n*f.n))*g.n)),.i 0]else oF [qi f,qi g,qi e,.i 0]
def apk:Oo:=bif eqB z.n 0 then oF [.i 0,.i 0,.i 0,.i 1]else aB (lc [qi a,qi b,qi c,.i (if d.n=0 then(0:Int)else 1),qi e,qi f,qi g,qi h,ql i,ql j,ql k,qi l,qi m,ql n,ql o,qi p,ql q,qi s,qi t,qi u,qi v,qi w,qi x,qi y]) 1 fun r=>aBo N a n o p s t u v (gg r 0)
def aBn(N:Nat)(a b c d:PD):Oo:=bif cY (if d.n=0 then(0:Int)else 1) 0 then oF [.i 0,.i 0,.i 0,qi d]else oF [.i (bH a.q 2),.i (bH b.q 2),qi c,.i 0]
def aBm:Oo:=bif eqB z.n 0 then oF [.i 0,.i 0,.i 0,.i 1]else aB (lc [qi a,qi b,qi c,.i (if d.n=0 then(0:Int)else 1),qi e,qi f,qi g,qi h,ql i,ql j,ql k,qi l,qi m,ql n,ql o,qi p,ql q,qi s,qi t,qi u,qi v,qi w,qi x,qi y]) 1 fun r=>aBn N n o s (gg r 0)
def apj(N:Nat)(a b c d e f g:PD):Oo:=bif cY (if g.n=0 then(0:Int)else 1) 0 then oF [.i 0,.i 0,.i 0,qi g]else bif eqB a.n 4 then oF [qi b,.i 1,.i (aH (d.n*e.n)),.i 0]else bif eqB a.n 5 then oF [qi d,qi e,.i (aH ((aH (f.n*d.n))*e.n)),.i 0]else oF [qi d,qi e,qi c,.i 0]
def api:Oo:=
 let A:=o8 [qi e,qi f,qi v]
 bif eqB z.n 0 then oF [.i 0,.i 0,.i 0,.i 2]else bif eqB a.n 1 then aB A 1 fun r=>apk N a b c d e f g h i j k l m n o p q s t u v w x y (gg r 0)else bif eqB a.n 2 then aB A 1 fun r=>apk N a b c d e f g h i j k l m n o p q s t u v w x y (gg r 0)else bif eqB a.n 3 then aB A 1 fun r=>aBm N a b c d e f g h i j k l m n o p q s t u v w x y (gg r 0)else aB (lc [qi a,qi b,qi c,.i (if d.n=0 then(0:Int)else 1),qi e,qi f,qi g,qi h,ql i,ql j,ql k,qi l,qi m,ql n,ql o,qi p,ql q,qi s,qi t,qi u,qi v,qi w,qi x,qi y]) 1 fun r=>apj N a p s t u v (gg r 0)
def aBl(N:Nat)(a b c d e f g h i:PD):Oo:=bif cY (if i.n=0 then(0:Int)else 1) 0 then oF [.i 0,.i 0,.i 0,qi i]else bif eqB a.n 3 then oF [.i (bH b.q 2),.i (bH c.q 2),qi e,.i 0]else bif eqB a.n 4 then oF [qi d,.i 1,.i (aH (f.n*g.n)),.i 0]else bif eqB a.n 5 then oF [qi f,qi g,.i (aH ((aH (h.n*f.n))*g.n)),.i 0]else oF [qi f,qi g,qi e,.i 0]
def FM:Oo:=bif eqB z.n 0 then oF [.i 0,.i 0,.i 0,.i 1]else aB (lc [qi a,qi b,qi c,.i (if d.n=0 then(0:Int)else 1),qi e,qi f,qi g,qi h,ql i,ql j,ql k,qi l,qi m,ql n,ql o,qi p,ql q,qi s,qi t,qi u,qi v,qi w,qi x,qi y]) 1 fun r=>aBl N a n o p s t u v (gg r 0)
def aph(N:Nat)(a b c d:PD):Oo:=bif cY (if d.n=0 then(0:Int)else 1) 0 then oF [.i 0,.i 0,.i 0,qi d]else oF [.i (bH a.q 2),.i (bH b.q 2),qi c,.i 0]
def Wb:Oo:=bif eqB z.n 0 then oF [.i 0,.i 0,.i 0,.i 1]else aB (lc [qi a,qi b,qi c,.i (if d.n=0 then(0:Int)else 1),qi e,qi f,qi g,qi h,ql i,ql j,ql k,qi l,qi m,ql n,ql o,qi p,ql q,qi s,qi t,qi u,qi v,qi w,qi x,qi y]) 1 fun r=>aph N n o s (gg r 0)
def Do(N:Nat)(a b c d e f g:PD):Oo:=bif cY (if g.n=0 then(0:Int)else 1) 0 then oF [.i 0,.i 0,.i 0,qi g]else bif eqB a.n 4 then oF [qi b,.i 1,.i (aH (d.n*e.n)),.i 0]else bif eqB a.n 5 then oF [qi d,qi e,.i (aH ((aH (f.n*d.n))*e.n)),.i 0]else oF [qi d,qi e,qi c,.i 0]
def aiU:Oo:=
 let A:=lc [qi a,qi b,qi c,.i (if d.n=0 then(0:Int)else 1),qi e,qi f,qi g,qi h,ql i,ql j,ql k,qi l,qi m,ql n,ql o,qi p,ql q,qi s,qi t,qi u,qi v,qi w,qi x,qi y]
 let B:=o8 [qi e,qi f,qi v]
 bif eqB z.n 0 then oF [.i 0,.i 0,.i 0,.i 2]else bif eqB a.n 6 then bif cY (if c.n=(-1)then(0:Int)else 1) 0 then aB (A7 [qi w,qi x,qi y]) 1 fun r=>api N a b c d e f g h i j k l m n o p q s t u v w x y (gg r 0)else bif eqB a.n 1 then aB B 1 fun r=>FM N a b c d e f g h i j k l m n o p q s t u v w x y (gg r 0)else bif eqB a.n 2 then aB B 1 fun r=>FM N a b c d e f g h i j k l m n o p q s t u v w x y (gg r 0)else bif eqB a.n 3 then aB B 1 fun r=>Wb N a b c d e f g h i j k l m n o p q s t u v w x y (gg r 0)else aB A 1 fun r=>Do N a p s t u v (gg r 0)else bif eqB a.n 1 then aB B 1 fun r=>FM N a b c d e f g h i j k l m n o p q s t u v w x y (gg r 0)else bif eqB a.n 2 then aB B 1 fun r=>FM N a b c d e f g h i j k l m n o p q s t u v w x y (gg r 0)else bif eqB a.n 3 then aB B 1 fun r=>Wb N a b c d e f g h i j k l m n o p q s t u v w x y (gg r 0)else aB A 1 fun r=>Do N a p s t u v (gg r 0)
def aiT:Oo:=bif eqB z.n 0 then oF [.i 0,.i 0,.i 0,.i 1]else aB (A7 [qi t,qi u,qi v]) 1 fun r=>aiU N a b c d e f g h i j k l m n o p q s t u v w x y (gg r 0)
def aFt:Oo:=aB (qw [qi a,qi b,qi c,.i (if d.n=0 then(0:Int)else 1),qi e,qi f,qi g,qi h,ql i,ql j,ql k,qi l,qi m,ql n,ql o,qi p,ql q,qi s]) 1 fun r=>aiT N a b c d e f g h i j k l m n o p q s t u v w x y (gg r 0)
theorem avn:dk N me eM V' [a,b,c,d,e,f,g,h,i,j,k,l,m,n,o,p,q,s,t,u,v,w,x,y]=aFt N a b c d e f g h i j k l m n o p q s t u v w x y:=by kernel_rfl
def uo:dO:=⟨[Hu],[],0,kE,false⟩
def uq:List Ct:=[]
def xv:PL:=aa (bL W80 aJ) RX (aa aEh RX (aa (ay Ao lk) RX (aa aEg RX (aa (ay Ao YR) RX (aa aia kW (aa (aD nR gK) kW dp))))))
theorem XZ:fF uq uo f75 xv=true:=by kernel_rfl
def IB:=dj uq uo xv
def acf:Ct:=dl uq XZ func75 call75 rfl
def acg(N:Nat)(a b c d:PD):Oo:=bif eqB (bH a.q 4) 0 then oF [.i 5]else bif eqB (bH b.q 18) 0 then oF [.i 5]else bif ltB 16 (aH ((bH a.q 4)+(bH b.q 18)))then oF [.i 5]else bif eqB (bH c.q 1) 0 then oF [.i 5]else bif ltB 16 (bH c.q 1)then oF [.i 5]else bif ltB d.n 0 then oF [.i 2]else bif bC 4 d.n then oF [.i 2]else oF [.i 0]
theorem ace:dk N uq uo xv [a,b,c,d]=acg N a b c d:=by kernel_rfl
def xu:dO:=⟨[Hu],[],0,kE,false⟩
def zD:List Ct:=[im]
def Cz:PL:=aT 3 6 ⟨aAZ,ah3,6⟩ Fk ⟨la,⟨(u1 (zY::(u1 (YG::axb)))),ah3,6⟩,0⟩ aAX (aa (ay et Ht) (am R5 (an 0 [aq dT et 18 0,ax6,asS,aY (aq dT et 18 3) aJ 3,aq dT et 18 4,aq dT et 18 5,aq dT et 18 6,aq dT et 18 7,aq dT et 18 8,aq dT et 18 9,aq dT et 18 10,aq dT et 18 11,aq dT et 18 12,aq dT et 18 13,aq dT et 18 14,aq dT et 18 15,aq dT et 18 16,aq dT et 18 17] (aT 6 8 ⟨(u1 (zY::(u1 (YG::(u8 (u4 (u2 (W62::(auP::(nB::(u4 (yg::((aV (aE (ax Ql)))::(p7::(iY W46))))))))))))))),[An,Vu,uQ,qh,(7,bZ true jQ gD)],8⟩ Fk ⟨qg,⟨aAZ,ah3,8⟩,0⟩ aAX (aa (ay fP Ql) (am aiq (aa (ay (aq gD fP 1 0) aJ) l7 (aa (aD lk (aq gD fP 1 0)) l7 aC2))) C1) ax5 l7))) C1) (aT 13 6 ⟨(u2 (u1 (YG::(iO (u4 (u1 ((aV (aE ah4))::((aV (aE (ax YR)))::(nB::W46))))))))),[qh],6⟩ Fk ⟨YF,⟨YQ,[],6⟩,0⟩ ⟨qT,⟨aAY,[],6⟩,0⟩ aH' dp ax3) ax3
theorem aca:fF zD xu f76 Cz=true:=by kernel_rfl
def Pu:=dj zD xu Cz
def agV:Ct:=dl zD aca func76 call76 rfl
def zG(N:Nat)(a b c d:PD):Oo:=
 let e:=(el c.q d.n 1 0).n
 bif ltB d.n (bH c.q 1)then aI (bC 0 d.n)<|bif ltB e 0 then oB 1 []else bif bC (aH ((bH a.q 4)+(bH b.q 18))) e then oB 1 []else oA [.i (aH (d.n+1))]else oB 0 []
def UZ(N:Nat)(a:PD):Oo:=oA [.i (aH (a.n+1))]
def anh(N:Nat):Oo:=oB 1 []
def UY:Oo:=bi (aO (fun S=>zG N a b d (gg S 0)) N [.i 0]) (fun X=>UZ N c) (fun X=>anh N)
def zF:Oo:=bif ltB c.n (bH b.q 18)then aI (bC 0 c.n)<|aB (ft [.i ((el b.q c.n 18 0).n),.i ((el b.q c.n 18 1).n),.i ((el b.q c.n 18 2).n),.i (if((el b.q c.n 18 3).n)=0 then(0:Int)else 1),.i ((el b.q c.n 18 4).n),.i ((el b.q c.n 18 5).n),.i ((el b.q c.n 18 6).n),.i ((el b.q c.n 18 7).n),PD.l ((el b.q c.n 18 8).q),PD.l ((el b.q c.n 18 9).q),PD.l ((el b.q c.n 18 10).q),.i ((el b.q c.n 18 11).n),.i ((el b.q c.n 18 12).n),PD.l ((el b.q c.n 18 13).q),PD.l ((el b.q c.n 18 14).q),.i ((el b.q c.n 18 15).n),PD.l ((el b.q c.n 18 16).q),.i ((el b.q c.n 18 17).n)]) 1 fun r=>UY N a b c (gg r 0)else oB 0 []
def zE(N:Nat)(a b c d:PD):Oo:=
 let e:=(el c.q d.n 1 0).n
 bif ltB d.n (bH c.q 1)then aI (bC 0 d.n)<|bif ltB e 0 then oB 1 []else bif bC (aH ((bH a.q 4)+(bH b.q 18))) e then oB 1 []else oA [.i (aH (d.n+1))]else oB 0 []
def ang(N:Nat):Oo:=oF [.i 0]
def UX(N:Nat):Oo:=oF [.i 6]
def UW:Oo:=bi (aO (fun S=>zE N a b c (gg S 0)) N [.i 0]) (fun X=>ang N) (fun X=>UX N)
def akn(N:Nat)(a b c d:PD):Oo:=bi (aO (fun S=>zF N a b (gg S 0)) N [.i 0]) (fun X=>UW N a b c) (fun X=>UX N)
theorem agU:dk N zD xu Cz [a,b,c,d]=akn N a b c d:=by kernel_rfl
def CA:dO:=⟨[Hu],[],0,[Ak],false⟩
def EJ:List Ct:=[im]
def GV:PL:=aT 4 8 ⟨(u1 (zY::(u1 (mW::(aoc::(u8 (Fu::(nB::(iY W95))))))))),[An,Vu,uQ,qh,(6,cG false 1 214 [.bool] gY ju),ak7],8⟩ ⟨[aJ,aJ,aAW],[]⟩ ⟨la,⟨(u1 (zY::(u1 (mW::(aoc::ah2))))),[An,Vu,uQ,qh,(6,cG false 1 214 [.bool] jp ju),ak7],8⟩,1⟩ dN (aa (ay et W80) (am R5 (am (ay et Ao) (am (ay et Jw) (ai (aL ⟨[JA,aJ,bW gY et 1 0 W5],[]⟩))))) aD4) (aT 10 8 ⟨(u1 (zY::(u1 (mW::(aoc::(u1 (auO::(auN::aCL)))))))),ad',9⟩ ⟨[jp,cn],[(8,none)]⟩ ⟨qT,⟨(u2 ((aV (aE (bQ 8 1 aJ Ql)))::(iO (u8 [])))),[(8,aoi)],10⟩,1⟩ dN (aT 12 9 ⟨(u1 (zY::(u1 (mW::(aoc::(u1 (auO::(auN::(aDq::(u8 (u4 (u2 (auP::(rN::Am)))))))))))))),ad',9⟩ Fk ⟨YF,⟨(u1 (zY::(u1 (mW::(aoc::(u1 (auO::(auN::(rN::aoj))))))))),ad',10⟩,1⟩ dN (aa (ay dq Ht) (am (aD aJ adl) (am (ay adl Ao) (am (ay adl Ql) (aa (aC (aq gD adl 1 0)) aAU (am axY (an 0 [aq dT dq 18 0,axX,asQ,aY (aq dT dq 18 3) aJ 3,aq dT dq 18 4,aq dT dq 18 5,aq dT dq 18 6,aq dT dq 18 7,aq dT dq 18 8,aq dT dq 18 9,aq dT dq 18 10,aq dT dq 18 11,aq dT dq 18 12,aq dT dq 18 13,aq dT dq 18 14,aq dT dq 18 15,aq dT dq 18 16,aq dT dq 18 17] (aT 127000004 10 ⟨(u1 (mW::(iY (Jp::((aV (aE (ax ah7)))::(lM::(u8 []))))))),[aAV,(9,bZ true jQ gR),An,Vu,uQ,qh,ak7,(8,axO)],10⟩ Fk ⟨la,⟨(iY W98),ad',10⟩,0⟩ ⟨qT,⟨(u4 (u1 (W44::(iY JG)))),ad',10⟩,0⟩ (aa (ay fb ah7) (am axN (am (aD aJ ak6) (am (ay ak6 Ao) (am (ay ak6 Ql) (aa (bL (aq gD ak6 1 0) aJ) l7 (ai (aL ⟨[aG fb W5],[]⟩))))))) C1) (ai (bE 0 ⟨[adl],[]⟩)) aAU))))))) aDf) (aa (ay dq aJ) aHi (am (ay dq Ao) (am (ay dq Ql) (am (aD (d8 Jw W5) f_) (ai (aL ⟨[bW gD dq 1 0 W5,cW gY (ao cn dq)],[(8,some 11)]⟩)))))) dL) (ai (aF [gD])) dL) dL
theorem agX:fF EJ CA f77 GV=true:=by kernel_rfl
def U0:=dj EJ CA GV
def anj:Ct:=dl EJ agX func77 call77 rfl
def EM(N:Nat)(a b c:PD):Oo:=bif ltB b.n (bH a.q 4)then aI (bC 0 b.n)<|aI (ltB b.n 16)<|aI (ltB b.n (bH c.q 1))<|oA [.i (aH (b.n+1)),.i 0,PD.l (cM c.q b.n 1 0 (PD.i 1))]else oB 0 [c]
def EL(N:Nat)(a b c:PD):Oo:=
 let d:=(el b.q c.n 1 0).n
 bif ltB c.n (bH b.q 1)then aI (bC 0 c.n)<|aI (bC 0 d)<|aI (ltB d 16)<|aI (ltB d (bH a.q 1))<|bif eqB ((el a.q d 1 0).n) 0 then oB 1 []else oA [.i (aH (c.n+1))]else oB 0 []
def acd(N:Nat)(a b:PD):Oo:=oB 0 [.i (aH ((bH a.q 4)+b.n))]
def arw(N:Nat)(a:PD):Oo:=oA [.i (aH (a.n+1))]
def acb:Oo:=bi (aO (fun S=>EL N b d (gg S 0)) N [.i 0]) (fun X=>acd N a c) (fun X=>arw N c)
def pN:Oo:=
 let e:=aH ((bH a.q 4)+d.n)
 bif ltB d.n (bH b.q 18)then aI (bC 0 e)<|aI (ltB e 16)<|aI (ltB e (bH c.q 1))<|bif cY ((el c.q e 1 0).n) 0 then oA [.i (aH (d.n+1))]else aI (bC 0 d.n)<|aB (ft [.i ((el b.q d.n 18 0).n),.i ((el b.q d.n 18 1).n),.i ((el b.q d.n 18 2).n),.i (if((el b.q d.n 18 3).n)=0 then(0:Int)else 1),.i ((el b.q d.n 18 4).n),.i ((el b.q d.n 18 5).n),.i ((el b.q d.n 18 6).n),.i ((el b.q d.n 18 7).n),PD.l ((el b.q d.n 18 8).q),PD.l ((el b.q d.n 18 9).q),PD.l ((el b.q d.n 18 10).q),.i ((el b.q d.n 18 11).n),.i ((el b.q d.n 18 12).n),PD.l ((el b.q d.n 18 13).q),PD.l ((el b.q d.n 18 14).q),.i ((el b.q d.n 18 15).n),PD.l ((el b.q d.n 18 16).q),.i ((el b.q d.n 18 17).n)]) 1 fun r=>acb N a c d (gg r 0)else oB 0 [.i (-1)]
def Pv(N:Nat)(a b c:PD):Oo:=bif ltB c.n 0 then oB 0 [b]else aI (ltB c.n 16)<|aI (ltB c.n (bH a.q 1))<|aI (bC ((bH b.q 1)+1) 1000000)<|oA [PD.l (cM a.q c.n 1 0 (PD.i 1)),PD.l (b.q++([]++[qi c]))]
def EK:Oo:=bi (aO (fun S=>pN N a b c (gg S 0)) N [.i 0]) (fun X=>Pv N c d (gg X 0)) (fun X=>none)
def arv(N:Nat)(a:PD):Oo:=oF [ql a]
def U1:Oo:=bi (aO (fun S=>EK N a b (gg S 0) (gg S 1)) N [c,PD.l []]) (fun X=>arv N (gg X 0)) (fun X=>none)
def arx(N:Nat)(a b c d:PD):Oo:=bi (aO (fun S=>EM N a (gg S 0) (gg S 2)) N [.i 0,.i 0,PD.l (((((((((((((((([]++[PD.i 0])++[PD.i 0])++[PD.i 0])++[PD.i 0])++[PD.i 0])++[PD.i 0])++[PD.i 0])++[PD.i 0])++[PD.i 0])++[PD.i 0])++[PD.i 0])++[PD.i 0])++[PD.i 0])++[PD.i 0])++[PD.i 0])++[PD.i 0])]) (fun X=>U1 N a b (gg X 0)) (fun X=>none)
theorem ani:dk N EJ CA GV [a,b,c,d]=arx N a b c d:=by kernel_rfl
def xr:dO:=⟨[Hu],[],0,adm,false⟩
def zC:List Ct:=[acf,agV,anj]
def Cw:PL:=an 0 Qm (aa (aC ax1) aH_ (an 1 Qm (aa adp aAT (an 2 Qm (aa (ay Jw Ht) aHY (ai (aF [gY,aJ])))))))
theorem ab_:fF zC xr f33 Cw=true:=by kernel_rfl
def un:=dj zC xr Cw
def Cy:Ct:=dl zC ab_ func33 call33 rfl
def UV(N:Nat)(a b:PD):Oo:=bif ltB (bH b.q 1) (bH a.q 18)then oF [PD.l [],.i 7]else oF [ql b,.i 0]
def UU:Oo:=bif cY (if e.n=0 then(0:Int)else 1) 0 then oF [PD.l [],qi e]else aB (U0 [ql a,ql b,ql c,qi d]) 1 fun r=>UV N b (gg r 0)
def UT:Oo:=bif cY (if e.n=0 then(0:Int)else 1) 0 then oF [PD.l [],qi e]else aB (Pu [ql a,ql b,ql c,qi d]) 1 fun r=>UU N a b c d (gg r 0)
def akm:Oo:=aB (IB [ql a,ql b,ql c,qi d]) 1 fun r=>UT N a b c d (gg r 0)
theorem agT:dk N zC xr Cw [a,b,c,d]=akm N a b c d:=by kernel_rfl
def ui:dO:=⟨[Hu],[],0,[kZ (ib Fm),W1,W1],false⟩
def uj:List Ct:=[Cy,hD,im,Wa]
def xp:PL:=an 0 Qm (aa adp aHX (am aEa (am aD' (aT 7 9 ⟨(u1 (zY::(u2 (u1 (Qk::(u1 (Fu::(ahW::(iY (u8 (u2 (u1 (Ju::(Fu::(rN::(u64 [])))))))))))))))),axU,9⟩ aHW ⟨la,⟨(u1 (zY::(u2 (u1 (Qk::(u1 (Fu::aAS))))))),axU,9⟩,1⟩ ⟨qT,⟨(u2 (Jy::(p7::(aD8::ah1)))),[],11⟩,1⟩ aHV (aT 14 9 ⟨(u1 (zY::(u4 (u1 (Fu::(ahW::(iO (iY (u1 (Qk::((aV (aE (ax asN)))::(Hq::W32)))))))))))),[An,Vu,uQ,qh,axT,asO],9⟩ ⟨[gY,aJ],[]⟩ ⟨qg,⟨(u8 aAS),[axT],9⟩,1⟩ ⟨qT,⟨(u2 (Jy::(rN::(Hq::ah1)))),[],18⟩,2⟩ (aa (ay lH asN) (am axS (am (aD aJ qf) (am (ay qf Ht) (am axQ (am aD3 (am aD2 (am aD1 (an 2 [axR,Jx,Hp,aD0,aDZ,aDY,aDX,aDW,aDV,aDU,aDT,aDS,aDR,aDQ,aDP,aDO,aDN,aDM] (aa (bL Fl fv) (am (aD aJ Hp) (am (ay Hp lk) (am (ay Hp aog) (an 3 aHU aAR)))) (an 3 aHS aAR)))))))))) aHQ) aHP aHO) aHN))))
theorem XX:fF uj ui f74 xp=true:=by kernel_rfl
def xq:=dj uj ui xp
def Iz:Ct:=dl uj XX func74 call74 rfl
def Pr(N:Nat)(a b c d e:PD):Oo:=
 let f:=aH ((bH a.q 4)+(bH b.q 18))
 bif eqB e.n 0 then oB 1 [qi d]else aI (bC f (bH c.q 3))<|aI (ltB d.n f)<|aI (ltB d.n (bH c.q 3))<|oA [PD.l (cM (cM (cM c.q d.n 3 0 (PD.i ((el a.q d.n 4 0).n))) d.n 3 1 (PD.i ((el a.q d.n 4 1).n))) d.n 3 2 (PD.i ((el a.q d.n 4 2).n))),.i (aH (d.n+1))]
def um:Oo:=bif ltB d.n (bH a.q 4)then aI (bC 0 d.n)<|aB (eD [.i ((el a.q d.n 4 0).n),.i ((el a.q d.n 4 1).n),.i ((el a.q d.n 4 2).n),PD.l ((el a.q d.n 4 3).q)]) 1 fun r=>Pr N a b c d (gg r 0)else oB 0 [c]
def ul(N:Nat)(a b c d e f g h i:PD):Oo:=
 let j:=(el c.q e.n 1 0).n
 bif cY (if i.n=0 then(0:Int)else 1) 0 then oB 1 [el c.q e.n 1 0,qi i]else aI (bC 0 j)<|aI (ltB j (aH ((bH a.q 4)+(bH b.q 18))))<|aI (ltB j (bH d.q 3))<|oA [PD.l (cM (cM (cM d.q j 3 0 (qi f)) j 3 1 (qi g)) j 3 2 (qi h)),.i (aH (e.n+1))]
def Cv:Oo:=
 let g:=aH (((el c.q e.n 1 0).n)-(bH a.q 4))
 let h:=(el b.q g 18 2).n
 let i:=(el b.q g 18 1).n
 let j:=if((el b.q g 18 3).n)=0 then(0:Int)else 1
 let k:=(el b.q g 18 10).q
 let l:=(el b.q g 18 11).n
 let m:=(el b.q g 18 12).n
 let n:=(el b.q g 18 13).q
 let o:=(el b.q g 18 14).q
 let p:=(el b.q g 18 15).n
 let q:=(el b.q g 18 16).q
 let s:=(el b.q g 18 17).n
 let t:=(el b.q g 18 0).n
 let u:=(el b.q g 18 4).n
 let v:=(el b.q g 18 5).n
 let w:=(el b.q g 18 6).n
 let x:=(el b.q g 18 7).n
 let y:=(el b.q g 18 8).q
 let z:=(el b.q g 18 9).q
 let A:=(el d.q i 3 0).n
 let B:=(el d.q i 3 1).n
 let C:=(el d.q i 3 2).n
 bif eqB (bH f.q 1) 2 then aI (bC 0 h)<|aI (ltB h (aH ((bH a.q 4)+(bH b.q 18))))<|aI (ltB h (bH d.q 3))<|aB (nY [.i t,.i i,.i h,.i j,.i u,.i v,.i w,.i x,PD.l y,PD.l z,PD.l k,.i l,.i m,PD.l n,PD.l o,.i p,PD.l q,.i s,.i A,.i B,.i C,.i ((el d.q h 3 0).n),.i ((el d.q h 3 1).n),.i ((el d.q h 3 2).n)]) 4 fun r=>ul N a b c d e (gg r 0) (gg r 1) (gg r 2) (gg r 3)else aB (nY [.i t,.i i,.i h,.i j,.i u,.i v,.i w,.i x,PD.l y,PD.l z,PD.l k,.i l,.i m,PD.l n,PD.l o,.i p,PD.l q,.i s,.i A,.i B,.i C,.i 0,.i 0,.i 0]) 4 fun r=>ul N a b c d e (gg r 0) (gg r 1) (gg r 2) (gg r 3)
def pM:Oo:=
 let f:=aH (((el c.q e.n 1 0).n)-(bH a.q 4))
 let g:=(el b.q f 18 1).n
 let h:=aH ((bH a.q 4)+(bH b.q 18))
 bif ltB e.n (bH c.q 1)then aI (bC 0 e.n)<|aI (bC 0 f)<|aI (ltB f (bH b.q 18))<|aI (bC h (bH d.q 3))<|aI (bC 0 g)<|aI (ltB g h)<|aI (ltB g (bH d.q 3))<|aB (ft [.i ((el b.q f 18 0).n),.i g,.i ((el b.q f 18 2).n),.i (if((el b.q f 18 3).n)=0 then(0:Int)else 1),.i ((el b.q f 18 4).n),.i ((el b.q f 18 5).n),.i ((el b.q f 18 6).n),.i ((el b.q f 18 7).n),PD.l ((el b.q f 18 8).q),PD.l ((el b.q f 18 9).q),PD.l ((el b.q f 18 10).q),.i ((el b.q f 18 11).n),.i ((el b.q f 18 12).n),PD.l ((el b.q f 18 13).q),PD.l ((el b.q f 18 14).q),.i ((el b.q f 18 15).n),PD.l ((el b.q f 18 16).q),.i ((el b.q f 18 17).n)]) 1 fun r=>Cv N a b c d e (gg r 0)else oB 0 [d]
def Pq(N:Nat)(a b c:PD):Oo:=
 let d:=aH ((bH a.q 4)+(bH b.q 18))
 aI (bC d (bH c.q 3))<|oF [PD.l (iv c.q 0 d 3),.i 0,.i 0]
def agS(N:Nat)(a b:PD):Oo:=oF [PD.l [],qi a,qi b]
def Pp:Oo:=bi (aO (fun S=>pM N a b c (gg S 0) (gg S 1)) N [d,.i 0]) (fun X=>Pq N a b (gg X 0)) (fun X=>agS N (gg X 0) (gg X 1))
def agR(N:Nat)(a:PD):Oo:=oF [PD.l [],qi a,.i 1]
def IA:Oo:=
 let e:=aH ((bH a.q 4)+(bH b.q 18))
 bif cY (if d.n=0 then(0:Int)else 1) 0 then oF [PD.l [],.i 0,qi d]else aI (bC 0 e)<|aI (bC e 1000000)<|bi (aO (fun S=>um N a b (gg S 0) (gg S 1)) N [PD.l ((List.replicate (Int.toNat e) ((([]++[PD.i 0])++[PD.i 0])++[PD.i 0])).flatten),.i 0]) (fun X=>Pp N a b c (gg X 0)) (fun X=>agR N (gg X 0))
def ab9:Oo:=aB (un [ql a,ql b,ql c,qi d]) 2 fun r=>IA N a b (gg r 0) (gg r 1)
theorem ab8:dk N uj ui xp [a,b,c,d]=ab9 N a b c d:=by kernel_rfl
def xw:dO:=⟨[Hu],[],0,Qs,false⟩
def zH:List Ct:=[Iz]
def CB:PL:=an 0 Qm (ai (aF [e7,fP]))
theorem aci:fF zH xw f32 CB=true:=by kernel_rfl
def Pw:=dj zH xw CB
def agZ:Ct:=dl zH aci func32 call32 rfl
def ank(N:Nat)(a b:PD):Oo:=oF [qi a,qi b]
def ako:Oo:=aB (xq [ql a,ql b,ql c,qi d]) 3 fun r=>ank N (gg r 1) (gg r 2)
theorem agY:dk N zH xw CB [a,b,c,d]=ako N a b c d:=by kernel_rfl
end
end Go.Proofs.YtlchkibailfldaaGreat.Ex
