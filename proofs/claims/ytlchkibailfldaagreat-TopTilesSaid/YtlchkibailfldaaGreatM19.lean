/-
  Part 19 of the proof that TopTiles returns true at every call and leaves what it was given as it was; no condition beyond the row's own.
-/
import Derived.Test.YtlchkibailfldaaGreatM01
import Derived.Test.YtlchkibailfldaaGreatM07
import Derived.Test.YtlchkibailfldaaGreatM09
import Derived.Test.YtlchkibailfldaaGreatM10
import Derived.Test.YtlchkibailfldaaGreatM12
import Derived.Test.YtlchkibailfldaaGreatM14
import Derived.Test.YtlchkibailfldaaGreatM18
import Derived.WalkKit
set_option linter.unusedVariables false
set_option linter.unusedSimpArgs false
set_option linter.unusedSectionVars false
namespace Go.Proofs.YtlchkibailfldaaGreat.Ex
open Go Go.RowKit
def Y4:dO:={args:=[],io:=[],ioT:=0,outs:=[.one (.bool)]}
def AU:List PD->Option (List PD):=fun _=>some [.i 1]
theorem aem:Aq Tryz.prog 16 Y4 AU:=by
 refine⟨Tryz.call16,fun _ w z xs ds bo oo arr rs h1 h2 h3 h4 h5=>?_,(fun h=>by cases h)⟩
 have h5:some [PD.i 1]=some rs:=h5;cases h5;have hx:xs=[]:=List.length_eq_zero_iff.1 h3.lx;subst hx;refine(apo w).mono ?_;rintro e w' ⟨rfl,hb⟩;refine⟨[.mk (.bool true) []],fun _=>False,rfl,?_⟩
 obtain⟨b1,b2,b3,b4,b5⟩:=hb;refine⟨⟨rfl,rfl,fun j t hj=>?_⟩,fun b hb=>hb.elim,fun h=>absurd rfl h,fun b hb _=>b5 b hb,b4,b1,b2,b3⟩
 cases j with
 |zero=>have hj:some Ty.bool=some t:=hj;cases hj;exact .bool true [] 1 rfl
 |succ j=>cases j<;>cases hj
noncomputable def aen:Ct:=⟨_,_,_,aem⟩
end Go.Proofs.YtlchkibailfldaaGreat.Ex
namespace Go.Proofs.YtlchkibailfldaaGreat.Ex
noncomputable section
open Go Go.RowKit Tryz
set_option maxRecDepth 100000
variable (N:Nat)(a b c d e f g h i j k l m n o p q s t u v w x y z A B C D E F G H I J K L M O P Q R T U9 V9 W Y Z:PD)
def sS:dO:=⟨adm,[],0,W4,false⟩
def sT:List Ct:=[kJ,av1,avM,aqB,ap5,im,V2,ao2,afs,aen]
def vu:PL:=an 1 [Vt,mb,aJ] (an 2 [ie,jd,jp,e7] (aa aE0 dp (aa (aC (aY akX (aG adC (bF jd 18)) 3)) dp (an 0 [Hv,mb,dq] (aa (ay atJ aJ) (an 3 [ie,jd,jp,e7,aG W5 fT,aG W5 (aG atJ Hv)] azj) (an 3 [ie,jd,jp,e7,aG W5 fT,aG W5 atJ] azj))))))
theorem VW:fF sT sS f3 vu=true:=by kernel_rfl
def Y1:=dj sT sS vu
def Y3:Ct:=dl sT VW func3 call3 rfl
def KB(N:Nat)(a b c d e f g:PD):Oo:=bif eqB g.n 0 then oB 1 []else aI (bC ((bH a.q 4)+1) 1000000)<|oA [PD.l (a.q++(((([]++[qi c])++[qi d])++[qi e])++[ql f])),.i (aH (b.n+1))]
def sU:Oo:=bif ltB c.n (bH a.q 4)then aI (bC 0 c.n)<|aB (aaV [.i ((el a.q c.n 4 0).n),.i ((el a.q c.n 4 1).n),.i ((el a.q c.n 4 2).n)]) 5 fun r=>KB N b c (gg r 0) (gg r 1) (gg r 2) (gg r 3) (gg r 4)else oB 0 [b]
def KA(N:Nat)(a b c d e f g h:PD):Oo:=
 let i:=(el a.q b.n 9 0).n
 bif cY (if h.n=0 then(0:Int)else 1) 0 then oB 1 []else oA [PD.l [],.i (aH (b.n+1)),PD.l (cM (cM (cM (cM c.q i 4 0 (qi d)) i 4 1 (qi e)) i 4 2 (qi f)) i 4 3 (ql g))]
def o_:Oo:=
 let g:=(el a.q c.n 9 0).n
 let h:=(el a.q c.n 9 1).n
 bif cY (if f.n=0 then(0:Int)else 1) 0 then oB 1 []else bif eqB h 1 then aI (bC ((bH b.q 1)+1) 1000000)<|oA [PD.l (b.q++([]++[ql e])),.i (aH (c.n+1)),d]else aB (KG [.i ((el d.q g 4 0).n),.i ((el d.q g 4 1).n),.i ((el d.q g 4 2).n),PD.l ((el d.q g 4 3).q),.i g,.i h,.i ((el a.q c.n 9 2).n),.i ((el a.q c.n 9 3).n),.i ((el a.q c.n 9 4).n),.i ((el a.q c.n 9 5).n),PD.l ((el a.q c.n 9 6).q),.i ((el a.q c.n 9 7).n),.i ((el a.q c.n 9 8).n),ql e]) 5 fun r=>KA N a c d (gg r 0) (gg r 1) (gg r 2) (gg r 3) (gg r 4)
def AT:Oo:=
 let h:=(el c.q e.n 9 0).n
 let i:=aH (h-(bH a.q 4))
 let j:=(el b.q i 18 1).n
 let k:=(el g.q 1 1 0).n
 let l:=if((el b.q i 18 3).n)=0 then(0:Int)else 1
 let m:=(el c.q e.n 9 1).n
 let n:=(el c.q e.n 9 2).n
 let o:=(el c.q e.n 9 3).n
 let p:=(el c.q e.n 9 4).n
 let q:=(el c.q e.n 9 5).n
 let s:=(el c.q e.n 9 6).q
 let t:=(el c.q e.n 9 7).n
 let u:=(el c.q e.n 9 8).n
 let v:=bH f.q 4
 let w:=(el b.q i 18 10).q
 let x:=(el b.q i 18 11).n
 let y:=(el b.q i 18 12).n
 let z:=(el b.q i 18 13).q
 let A:=(el b.q i 18 14).q
 let B:=(el b.q i 18 15).n
 let C:=(el b.q i 18 16).q
 let D:=(el b.q i 18 17).n
 let E:=(el b.q i 18 0).n
 let F:=(el b.q i 18 2).n
 let G:=(el b.q i 18 4).n
 let H:=(el b.q i 18 5).n
 let I:=(el b.q i 18 6).n
 let J:=(el b.q i 18 7).n
 let K:=(el b.q i 18 8).q
 let L:=(el b.q i 18 9).q
 let M:=(el f.q j 4 0).n
 let O:=(el f.q j 4 1).n
 let P:=(el f.q j 4 2).n
 let Q:=(el f.q j 4 3).q
 let R:=(el f.q h 4 0).n
 let T:=(el f.q h 4 1).n
 let U9:=(el f.q h 4 2).n
 let V9:=(el f.q h 4 3).q
 bif eqB (bH g.q 1) 2 then aI (ltB 1 (bH g.q 1))<|aI (bC 0 k)<|aI (ltB k v)<|aI (bC 0 j)<|aI (ltB j v)<|aI (bC 0 h)<|aB (gL [.i E,.i j,.i F,.i l,.i G,.i H,.i I,.i J,PD.l K,PD.l L,PD.l w,.i x,.i y,PD.l z,PD.l A,.i B,PD.l C,.i D,.i h,.i m,.i n,.i o,.i p,.i q,PD.l s,.i t,.i u,.i M,.i O,.i P,PD.l Q,.i ((el f.q k 4 0).n),.i ((el f.q k 4 1).n),.i ((el f.q k 4 2).n),PD.l ((el f.q k 4 3).q),.i R,.i T,.i U9,PD.l V9,ql d]) 2 fun r=>o_ N c d e f (gg r 0) (gg r 1)else aI (bC 0 j)<|aI (ltB j v)<|aI (bC 0 h)<|aB (gL [.i E,.i j,.i F,.i l,.i G,.i H,.i I,.i J,PD.l K,PD.l L,PD.l w,.i x,.i y,PD.l z,PD.l A,.i B,PD.l C,.i D,.i h,.i m,.i n,.i o,.i p,.i q,PD.l s,.i t,.i u,.i M,.i O,.i P,PD.l Q,.i 0,.i 0,.i 0,PD.l [],.i R,.i T,.i U9,PD.l V9,ql d]) 2 fun r=>o_ N c d e f (gg r 0) (gg r 1)
def jf:Oo:=
 let g:=(el c.q e.n 9 0).n
 let h:=aH (g-(bH a.q 4))
 bif ltB e.n (bH c.q 9)then aI (bC 0 e.n)<|bif ltB g (bH a.q 4)then oB 1 []else bif bC (bH f.q 4) g then oB 1 []else aI (bC 0 h)<|aI (ltB h (bH b.q 18))<|aB (ft [.i ((el b.q h 18 0).n),.i ((el b.q h 18 1).n),.i ((el b.q h 18 2).n),.i (if((el b.q h 18 3).n)=0 then(0:Int)else 1),.i ((el b.q h 18 4).n),.i ((el b.q h 18 5).n),.i ((el b.q h 18 6).n),.i ((el b.q h 18 7).n),PD.l ((el b.q h 18 8).q),PD.l ((el b.q h 18 9).q),PD.l ((el b.q h 18 10).q),.i ((el b.q h 18 11).n),.i ((el b.q h 18 12).n),PD.l ((el b.q h 18 13).q),PD.l ((el b.q h 18 14).q),.i ((el b.q h 18 15).n),PD.l ((el b.q h 18 16).q),.i ((el b.q h 18 17).n)]) 1 fun r=>AT N a b c d e f (gg r 0)else oB 0 [f]
def ael(N:Nat)(a:PD):Oo:=oF [.i (if a.n=0 then(0:Int)else 1)]
def Kz:Oo:=bif cY a.n 0 then aB (AU []) 1 fun r=>ael N (gg r 0)else oF [.i 0]
def Ky:Oo:=aB (Mg [ql b,ql a]) 1 fun r=>Kz N (gg r 0)
def HF(N:Nat):Oo:=oF [.i 0]
def HE:Oo:=bi (aO (fun S=>jf N a b d (gg S 0) (gg S 1) (gg S 2)) N [PD.l [],.i 0,e]) (fun X=>Ky N c (gg X 0)) (fun X=>HF N)
def qo:Oo:=bif cY (if e.n=0 then(0:Int)else 1) 0 then oF [.i 0]else aI (bC (0+(bH a.q 4)) 1000000)<|bi (aO (fun S=>sU N c (gg S 0) (gg S 1)) N [PD.l ([]++a.q),.i (bH a.q 4)]) (fun X=>HE N a b c d (gg X 0)) (fun X=>HF N)
def HD:Oo:=
 let h:=Int.tmod a.n 5
 bif ltB h 0 then aB (Eb [ql b,ql c,ql d,qi e,.i (aH (1+g.n)),.i (aH (1+(aH (h+5))))]) 2 fun r=>qo N b c f (gg r 0) (gg r 1)else aB (Eb [ql b,ql c,ql d,qi e,.i (aH (1+g.n)),.i (aH (1+h))]) 2 fun r=>qo N b c f (gg r 0) (gg r 1)
def HC:Oo:=bif cY (if i.n=0 then(0:Int)else 1) 0 then oF [.i 0]else bif cY (if(bH h.q 4)=(aH ((bH c.q 4)+(bH d.q 18)))then(0:Int)else 1) 0 then oF [.i 0]else aB (cU [.i 5,ql a,qi g]) 3 fun r=>HD N b c d e f h (gg r 0)
def vw:Oo:=aB (ajA [ql c,ql d,ql e,qi f]) 2 fun r=>HC N a b c d e f g (gg r 0) (gg r 1)
def topTiles:Oo:=aB (ajY [.i 3,ql a,.i 0]) 6 fun r=>vw N a b (gg r 0) (gg r 1) (gg r 2) (gg r 3) (gg r 5)
theorem Y2:dk N sT sS vu [a,b]=topTiles N a b:=by kernel_rfl
end
end Go.Proofs.YtlchkibailfldaaGreat.Ex
namespace Go.Proofs.YtlchkibailfldaaGreat
open Go.RowKit
def I64(x:Int):Prop:= -9223372036854775808<=x/\x<=9223372036854775807
theorem hid{p:Prop}(h:p):Hid p:=h
theorem UL{x:Int}(h:(Lit.int .i64 x).wf=true): -9223372036854775808<=x/\x<=9223372036854775807:=by have h1:IntKind.i64.min= -9223372036854775808:=rfl;have h2:IntKind.i64.max=9223372036854775807:=rfl;simp only[Lit.wf,ah,decide_eq_true_eq]at h;omega
theorem aJh(v n:Int)(hn:0<n): -n<v.tmod n:=by
 rcases Int.lt_or_le v 0 with h|h
 ·have h1:=Int.neg_tmod (a:= -v) (b:=n);rw[Int.neg_neg]at h1;rw[h1,fL (by omega)]
  have:=Int.emod_lt_of_pos (-v) hn;omega
 ·rw[fL h];have:=Int.emod_nonneg v (by omega:n≠0)
  omega
theorem vx(v n:Int)(hn:0<n)(hv:v<0):v.tmod n= -((-v)%n):=by have h1:=Int.neg_tmod (a:= -v) (b:=n);rw[Int.neg_neg]at h1;rw[h1,fL (by omega)]
theorem avf(v n:Int)(hn:0<n)(hv:v<0):v.tmod n<=0:=by
 rw[vx v n hn hv];have:=Int.emod_nonneg (-v) (by omega:n≠0)
 omega
theorem aoQ(v n:Int)(hn:0<n)(hv:v<0)(h:v.tmod n<0):v.tmod n+n=v%n:=by
 rw[vx v n hn hv]at h ⊢;have h2:=Int.emod_lt_of_pos (-v) hn;have h3:=Int.mul_ediv_add_emod (-v) n;generalize(-v)%n=r at *;generalize(-v)/n=q at *;have h4:v=(n-r)+n*(-q-1):=by rw[Int.mul_sub,Int.mul_neg,Int.mul_one];omega
 rw[h4,Int.add_mul_emod_self_left,Int.emod_eq_of_lt (by omega) (by omega)]
 omega
theorem aoR(v n:Int)(hn:0<n)(hv:v<0)(h:¬v.tmod n<0):v.tmod n=v%n:=by
 have h0:=avf v n hn hv;rw[vx v n hn hv]at h h0 ⊢;have h1:(-v)%n=0:=by omega
 have h2:n∣v:=by have:=Int.dvd_of_emod_eq_zero h1;exact(Int.dvd_neg.1 this)
 rw[Int.emod_eq_zero_of_dvd h2,h1];rfl
theorem aJj{k:IntKind}{a b:Int}(h:a=b):Ending.returned (.int k a)= .returned (.int k b):=by rw[h]
theorem aFu{a b:Bool}(h:a=b):Ending.returned (.bool a)= .returned (.bool b):=by rw[h]
theorem aJG{a b:Int}{p q:Bool}(h:a=b)(h':p=q):Ending.returned (.tuple #[.int .i64 a,.bool p])= .returned (.tuple #[.int .i64 b,.bool q]):=by rw[h,h']
end Go.Proofs.YtlchkibailfldaaGreat
namespace Go.Proofs.YtlchkibailfldaaGreat
def cB(W:Nat)(f:Nat->Nat->Int)(n:Nat):List Int:=(List.range n).map fun i=>f (i%W) (i/W)
theorem eJ(W:Nat)(f:Nat->Nat->Int)(n:Nat):(cB W f n).length=n:=by simp[cB]
theorem aBr(W:Nat)(f:Nat->Nat->Int):cB W f 0=[]:=rfl
theorem tZ{W x:Nat}(y:Nat)(h:x<W):(y*W+x)%W=x/\(y*W+x)/W=y:=by
 have hw:0<W:=by omega
 constructor
 ·rw[bU,gE,kq h]
 ·rw[bU,Nat.mul_add_div hw,Nat.div_eq_of_lt h];omega
theorem mw(W:Nat)(f:Nat->Nat->Int)(x y:Nat)(h:x<W):cB W f (y*W+x+1)=cB W f (y*W+x)++[f x y]:=by unfold cB;obtain⟨h1,h2⟩:=tZ y h;rw[ik,fR,List.map_singleton,h1,h2]
theorem lg{W H x y:Nat}(hx:x<W)(hy:y<H):y*W+x<W*H:=by have h1:(y+1)*W<=H*W:=bM W hy;rw[co,dd,bU H W]at h1;omega
theorem TX(W H:Nat)(f:Nat->Nat->Int)(x y:Nat)(hx:x<W)(hy:y<H):(cB W f (W*H))[y*W+x]?=some (f x y):=by have h:=lg hx hy;obtain⟨h1,h2⟩:=tZ y hx;unfold cB;rw[aM,cI h,de,h1,h2]
theorem aa0{W H:Nat}{f g:Nat->Nat->Int}(h:∀x y,x<W->y<H->f x y=g x y):cB W f (W*H)=cB W g (W*H):=by
 unfold cB;apply cg;intro i hi;rw[dv]at hi;have hw:0<W:=by
  rcases dR W with h0|h0
  ·subst h0;simp at hi
  ·exact h0
 exact h _ _ (eN _ hw) (by rw[fk hw];rw[bU];exact hi)
theorem ze{W H:Nat}{f:Nat->Nat->Int}{v:Int}(h:v∈cB W f (W*H)):∃x y,x<W/\y<H/\v=f x y:=by
 unfold cB at h;obtain⟨i,hi,rfl⟩:=eH.1 h;rw[dv]at hi;have hw:0<W:=by
  rcases dR W with h0|h0
  ·subst h0;simp at hi
  ·exact h0
 exact⟨_,_,eN _ hw,by rw[fk hw];rw[bU];exact hi,rfl⟩
theorem ap9(W H:Nat)(l:List Int)(h:l.length=W*H):l=cB W (fun x y=>l.getD (y*W+x) 0) (W*H):=by
 apply cF;intro i;rcases fJ i (W*H)with hi|hi
 ·have hw:0<W:=by
   rcases dR W with h0|h0
   ·subst h0;simp at hi
   ·exact h0
  have hx:i%W<W:=eN _ hw;have hy:i/W<H:=by rw[fk hw];rw[bU];exact hi
  have e:i/W*W+i%W=i:=by rw[bU];exact eP i W
  have:=TX W H (fun x y=>l.getD (y*W+x) 0) (i%W) (i/W) hx hy
  rw[e]at this;rw[this,ae,aj (by omega)]
  rfl
 ·rw[bp (by omega),bp (by rw[eJ];omega)]
def cE(a b:Nat):Nat:=(a+b-1)/b
theorem xU{a b x:Nat}(hb:0<b)(hx:x<a):x/b<cE a b:=by unfold cE;rw[fk hb];have:=eP (a+b-1) b;have:=eN (a+b-1) hb;rw[bU];omega
theorem wQ{a b k:Nat}(hb:0<b)(hk:k<cE a b):k*b<a:=by unfold cE at hk;have h:(k+1)*b<=a+b-1:=(Nat.le_div_iff_mul_le hb).1 hk;rw[co]at h;omega
def zZ(w tw th x y:Nat):Nat:=y/th*cE w tw+x/tw
theorem aiN{w h tw th x y:Nat}(htw:0<tw)(hth:0<th)(hx:x<w)(hy:y<h):zZ w tw th x y<cE w tw*cE h th:=
 lg (xU htw hx) (xU hth hy)
theorem pV{x b q:Nat}(hb:0<b):x/b=q↔q*b<=x/\x<q*b+b:=by
 constructor
 ·rintro rfl;have:=eP x b;have:=eN x hb;rw[bU];omega
 ·rintro⟨h1,h2⟩;have e:x=q*b+(x-q*b):=by omega
  rw[e];exact(tZ q (by omega)).2
theorem Zf{w h tw th k x y:Nat}(htw:0<tw)(hth:0<th)(hk:k<cE w tw*cE h th)(hx:x<w)(hy:y<h):
  zZ w tw th x y=k↔k%cE w tw*tw<=x/\x<min (k%cE w tw*tw+tw) w/\k/cE w tw*th<=y/\y<min (k/cE w tw*th+th) h:=by
 have hn:0<cE w tw:=by
  rcases dR (cE w tw)with h0|h0
  ·rw[h0]at hk;simp at hk
  ·exact h0
 have hxn:=xU htw hx;have e:zZ w tw th x y=k↔x/tw=k%cE w tw/\y/th=k/cE w tw:=by
  unfold zZ;constructor
  ·rintro rfl;obtain⟨h1,h2⟩:=tZ (y/th) hxn;exact⟨h1.symm,h2.symm⟩
  ·rintro⟨h1,h2⟩;rw[h1,h2,bU];exact eP _ _
 rw[e,pV htw,pV hth,Nat.lt_min,Nat.lt_min];constructor
 ·rintro⟨⟨a,b⟩,c,d⟩;exact⟨a,⟨b,hx⟩,c,d,hy⟩
 ·rintro⟨a,⟨b,_⟩,c,d,_⟩;exact⟨⟨a,b⟩,c,d⟩
theorem Zg{w h tw th k x y:Nat}(htw:0<tw)(hth:0<th)(hk:k<cE w tw*cE h th)(hx:x<w)
  (hb:y<k/cE w tw*th\/(y<k/cE w tw*th+th/\x<k%cE w tw*tw)):zZ w tw th x y<k:=by
 have hn:0<cE w tw:=by
  rcases dR (cE w tw)with h0|h0
  ·rw[h0]at hk;simp at hk
  ·exact h0
 have hxn:=xU htw hx;have hdm:=eP k (cE w tw);have up:y<k/cE w tw*th->zZ w tw th x y<k:=by intro h1;have h2:y/th<k/cE w tw:=(fk hth).2 h1;have h3:=lg hxn h2;unfold zZ;omega
 rcases hb with h1|⟨h1,h2⟩
 ·exact up h1
 ·rcases fJ y (k/cE w tw*th)with h3|h3
  ·exact up h3
  ·have h4:y/th=k/cE w tw:=(pV hth).2 ⟨h3,h1⟩;have h5:x/tw<k%cE w tw:=(fk htw).2 h2;unfold zZ;rw[h4,bU];omega
def rH(p:Nat->Nat->Int)(x:Nat):Nat->Int
 |0=>0
 |y+1=>rH p x y+p x y
def QP(p:Nat->Nat->Int)(y:Nat):Nat->Int
 |0=>0
 |x+1=>QP p y x+rH p x y
theorem KI(p:Nat->Nat->Int)(x:Nat):QP p 0 x=0:=by
 induction x with
 |zero=>rfl
 |succ x ih=>simp[QP,ih,rH]
theorem Yj{p:Nat->Nat->Int}{M:Int}{x:Nat}:∀ (y:Nat),(∀j,j<y->0<=p x j/\p x j<=M)->0<=rH p x y/\rH p x y<=M*y
 |0,_=>by simp[rH]
 |y+1,h=>by
  have ih:=Yj y fun j hj=>h j (by omega)
  have:=h y (by omega)
  simp only[rH];rw[Int.natCast_add,Int.mul_add];simp;omega
theorem aiO{p:Nat->Nat->Int}{M:Int}{y:Nat}:∀ (x:Nat),(∀i j,i<x->j<y->0<=p i j/\p i j<=M)->0<=QP p y x/\QP p y x<=M*y*x
 |0,_=>by simp[QP]
 |x+1,h=>by
  have ih:=aiO x fun i j hi hj=>h i j (by omega) hj
  have:=Yj (p:=p) (M:=M) (x:=x) y fun j hj=>h x j (by omega) hj
  simp only[QP];rw[Int.natCast_add,Int.mul_add];simp;omega
theorem aly{p:Nat->Nat->Int}{M:Int}{W H x y:Nat}(h:∀i j,i<W->j<H->0<=p i j/\p i j<=M)(hM:0<=M)(hx:x<=W)(hy:y<=H):0<=QP p y x/\QP p y x<=M*W*H:=by
 obtain⟨h1,h2⟩:=aiO (p:=p) (M:=M) (y:=y) x fun i j hi hj=>h i j (by omega) (by omega)
 refine⟨h1,Int.le_trans h2 ?_⟩;rw[Int.mul_assoc,Int.mul_assoc];apply Int.mul_le_mul_of_nonneg_left _ hM;rw[Int.mul_comm];exact iW (by omega) (by omega) (by omega) (by omega)
theorem E5{n:Nat}{p:Nat->Bool}:(List.range n).countP p<=n:=by have:=List.countP_le_length (p:=p) (l:=List.range n);simpa using this
theorem anF{n i:Nat}{p q:Nat->Bool}(hi:i<n)(hp:p i=false)(hq:q i=true)(h:∀j,j≠i->q j=p j):(List.range n).countP q=(List.range n).countP p+1:=by
 induction n with
 |zero=>omega
 |succ n ih=>
  rw[ik,jr,jr];simp only[List.countP_singleton];rcases fJ i n with h1|h1
  ·rw[ih h1,h n (by omega)];omega
  ·have e:i=n:=by omega
   subst e;have:(List.range i).countP q=(List.range i).countP p:=List.countP_congr fun x hx=>by
    rw[h x (by have:=dv.1 hx;omega)]
   rw[this,hp,hq];simp
theorem acN{n:Nat}(t:Nat->Nat)(q:Nat->Bool)(k:Nat):
  (List.range n).countP (fun i=>decide (t i<k+1)&&q i)=(List.range n).countP (fun i=>decide (t i<k)&&q i)+(List.range n).countP (fun i=>decide (t i=k)&&q i):=by
 induction n with
 |zero=>rfl
 |succ n ih=>
  rw[ik,jr,jr,jr,ih];simp only[List.countP_singleton]
  by_cases hq:q n=true
  ·simp only[hq,Bool.and_true,decide_eq_true_eq]
   by_cases h1:t n<k
   ·have h2:t n<k+1:=by omega
    have h3:¬t n=k:=by omega
    simp[h1,h2,h3];omega
   ·by_cases h3:t n=k
    ·simp[h3];omega
    ·have h2:¬t n<k+1:=by omega
     simp[h1,h2,h3]
  ·have:q n=false:=by simpa using hq
   simp[this]
end Go.Proofs.YtlchkibailfldaaGreat
namespace Go.Proofs.YtlchkibailfldaaGreat.Ex
open Go Go.RowKit
theorem aFy(x:Int):(PD.i x).n=x:=by cases x<;>rfl
theorem aJI(x:List PD):(PD.l x).q=x:=by cases x<;>rfl
theorem gd0(a d:PD)(l:List PD):(a::l).getD 0 d=a:=by cases a<;>rfl
theorem gdS(a d:PD)(l:List PD)(n:Nat):(a::l).getD (n+1) d=l.getD n d:=by cases a<;>rfl
def NN:Nat:=10000000
theorem cC{n:Nat}(h:n<=5000000):n<NN:=by unfold NN;omega
theorem az{x:Int}(h1: -9223372036854775808<=x)(h2:x<=9223372036854775807):aH x=x:=by
 show(if(true&&decide (x%18446744073709551616>=9223372036854775808))=true then x%18446744073709551616-18446744073709551616 else x%18446744073709551616)=x
 simp only[Bool.true_and,decide_eq_true_eq];split <;>omega
theorem ag{rs:List PD}{n:Nat}{k:List PD->Option iX}(h:rs.length=n):aB (some rs) n k=k rs:=by
 subst h
 show(bif Nat.beq rs.length rs.length then k rs else none)=k rs
 rw[show Nat.beq rs.length rs.length=true from ku _]
 rfl
theorem bI{o:Option iX}{rs:List PD}(h:o=some (.fin rs)):AH o=some rs:=by rw[h];rfl
theorem aB7{x:Int}:(decide (¬ (if x=0 then(0:Int)else 1)=0))=decide (¬x=0):=by by_cases h:x=0<;>simp[h]
theorem oo:((∀l,oF l=some (.fin l))/\(∀l,oA l=some (.again l))/\(∀k l,oB k l=some (.brk k l))):=⟨fun _=>rfl,fun _=>rfl,fun _ _=>rfl⟩
theorem sQ:((∀x:Int,(PD.i x).n=x)/\(∀x:Int,qi (.i x)= .i x))/\((∀l,oF l=some (.fin l))/\(∀l,oA l=some (.again l))/\(∀k l,oB k l=some (.brk k l))):=⟨⟨aFy,fun _=>rfl⟩,oo⟩
theorem pl2:((∀x,(PD.l x).q=x)/\(∀x,ql (.l x)= .l x))/\((∀l,oF l=some (.fin l))/\(∀l,oA l=some (.again l))/\(∀k l,oB k l=some (.brk k l))):=⟨⟨aJI,fun _=>rfl⟩,oo⟩
theorem nM:(∀ (a d:PD) l,(a::l).getD 0 d=a)/\(∀ (a:PD) l,gg (a::l) 0=a):=⟨fun a d l=>gd0 a d l,fun _ _=>rfl⟩
theorem lY:(∀ (a d:PD) l n,(a::l).getD (n+1) d=l.getD n d)/\(∀ (a:PD) l n,gg (a::l) (n+1)=gg l n):=⟨fun a d l n=>gdS a d l n,fun _ _ _=>rfl⟩
theorem qb:((∀x:Int,(PD.i x).n=x)/\(∀x:Int,qi (.i x)= .i x))/\((∀x,(PD.l x).q=x)/\(∀x,ql (.l x)= .l x))/\((∀l,oF l=some (.fin l))/\(∀l,oA l=some (.again l))/\(∀k l,oB k l=some (.brk k l))):=⟨sQ.1,pl2⟩
theorem aW:(((∀x:Int,(PD.i x).n=x)/\(∀x:Int,qi (.i x)= .i x))/\((∀x,(PD.l x).q=x)/\(∀x,ql (.l x)= .l x))/\((∀l,oF l=some (.fin l))/\(∀l,oA l=some (.again l))/\(∀k l,oB k l=some (.brk k l))))/\((∀ (a d:PD) l,(a::l).getD 0 d=a)/\(∀ (a:PD) l,gg (a::l) 0=a))/\((∀ (a d:PD) l n,(a::l).getD (n+1) d=l.getD n d)/\(∀ (a:PD) l n,gg (a::l) (n+1)=gg l n))/\
  (∀ (α:Type) (p:Prop) [Decidable p] (a b:α),(bif decide p then a else b)=if p then a else b)/\(∀b x,aI b x=bif b then x else none):=⟨qb,nM,lY,fun _ _ _ _ _=>Bool.cond_decide _ _ _,fun _ _=>rfl⟩
theorem bj:(∀a b,ltB a b=decide (a<b))/\(∀a b,bC a b=decide (a<=b))/\(∀a b,eqB a b=decide (a=b))/\(∀a b,cY a b=decide (¬a=b))/\(∀x:Int,(decide (¬ (if x=0 then(0:Int)else 1)=0))=decide (¬x=0))/\
  (∀ (α:Type) {h:Decidable True} (a b:α),@ite α True h a b=a)/\(∀ (α:Type) {h:Decidable False} (a b:α),@ite α False h a b=b)/\((¬True)=False)/\((¬False)=True):=
 ⟨fun _ _=>rfl,fun _ _=>rfl,fun _ _=>rfl,fun _ _=>rfl,fun _=>aB7,fun _ _ _ _=>gN ..,fun _ _ _ _=>iS ..,not_true_eq_false,not_false_eq_true⟩
theorem aKf{b:Bool}{x:Option iX}(h:b=true):aI b x=x:=by rw[h];rfl
theorem bJ{b:List PD->Option iX}(st:Nat->List PD){k:Nat}{X:List PD}:∀ (n N:Nat),n<N->(∀i,i<n->b (st i)=some (.again (st (i+1))))->b (st n)=some (.brk k X)->aO b N (st 0)=some (.brk k X)
 |0,0,h,_,_=>by omega
 |0,N+1,h,_,he=>by simp only[aO,he]
 |n+1,0,h,_,_=>by omega
 |n+1,N+1,h,hs,he=>by
  simp only[aO,hs 0 (by omega)]
  exact bJ (fun i=>st (i+1)) n N (by omega) (fun i hi=>hs (i+1) (by omega)) he
theorem cX{b:List PD->Option iX}(st:Nat->List PD->Prop)(Q:Nat->List PD->Prop)(n:Nat)(hs:∀i S,i<n->st i S->(∃S',b S=some (.again S')/\st (i+1) S')\/∃k X,b S=some (.brk k X)/\Q k X)(he:∀S,st n S->∃k X,b S=some (.brk k X)/\Q k X):
  ∀ (m i:Nat) (N:Nat) (S:List PD),i+m=n->m<N->st i S->∃k X,aO b N S=some (.brk k X)/\Q k X
 |0,i,0,S,_,h,_=>by omega
 |0,i,N+1,S,hi,h,hst=>by
  have hi:i=n:=by omega
  subst hi;obtain⟨k,X,h1,h2⟩:=he S hst;exact⟨k,X,by simp only[aO,h1],h2⟩
 |m+1,i,0,S,_,h,_=>by omega
 |m+1,i,N+1,S,hi,h,hst=>by
  rcases hs i S (by omega) hst with⟨S',h1,h2⟩|⟨k,X,h1,h2⟩
  ·obtain⟨k,X,h3,h4⟩:=cX st Q n hs he m (i+1) N S' (by omega) (by omega) h2
   exact⟨k,X,by simp only[aO,h1];exact h3,h4⟩
  ·exact⟨k,X,by simp only[aO,h1],h2⟩
@[reducible] def il(xs:List Int):List PD:=xs.map PD.i
theorem bm(xs:List Int):bH (il xs) 1=(xs.length:Int):=by simp[bH]
theorem dz(xs:List Int)(t:Int):(el (il xs) t 1 0).n=xs.getD t.toNat 0:=by unfold el;rw[ed,ch,ae,ae,aM];cases xs[t.toNat]? <;>rfl
theorem jI(xs ys:List Int):il xs++il ys=il (xs++ys):=(fR ..).symm
theorem gB(n:Nat)(x:Int):List.replicate n (PD.i x)=il (List.replicate n x):=by simp
theorem awP(xs:List Int)(n:Nat):el (il xs) (n:Int) 1 0=PD.i (xs.getD n 0):=by unfold el;rw[ed,ch,ae,ae,aM,au];cases xs[n]? <;>rfl
def recs{α:Type}(enc:α->List PD)(xs:List α):List PD:=xs.flatMap enc
section
variable {α:Type}{enc:α->List PD}{es:Nat}
theorem rZ(he:∀x,(enc x).length=es):∀ (xs:List α),(recs enc xs).length=xs.length*es
 | []=>by simp[recs]
 |x::r=>by
  have:=rZ he r;unfold recs at this ⊢;rw[fg,ba,this,he,cj,co,dd,kv]
theorem ti(he:∀x,(enc x).length=es)(hp:0<es)(xs:List α):bH (recs enc xs) es=(xs.length:Int):=by unfold bH;rw[rZ he,dQ _ hp]
theorem ZW(he:∀x,(enc x).length=es):∀ (xs:List α) (i j:Nat) (x:α),xs[i]?=some x->j<es->(recs enc xs).getD (i*es+j) (.i 0)=(enc x).getD j (.i 0)
 | [],i,j,x,h,_=>by simp at h
 |y::r,0,j,x,h,hj=>by
  simp only[bn,ad]at h;subst h;unfold recs;rw[fg,dc,bR,ae,bl (by rw[he];exact hj),ae]
 |y::r,i+1,j,x,h,hj=>by
  have:=ZW he r i j x (by simpa using h) hj
  unfold recs at this ⊢;rw[fg,ae,bA (by rw[he,co];omega),he,co,dd,show i*es+es+j-es=i*es+j by omega,<-ae,this]
theorem lO(he:∀x,(enc x).length=es){xs:List α}{i j:Nat}{x:α}(h:xs[i]?=some x)(hj:j<es):el (recs enc xs) (i:Int) es j=(enc x).getD j (.i 0):=by unfold el;rw[au];exact ZW he xs i j x h hj
theorem nd(xs ys:List α):recs enc xs++recs enc ys=recs enc (xs++ys):=(List.flatMap_append ..).symm
theorem vV(x:α):recs enc [x]=enc x:=by simp[recs]
end
end Go.Proofs.YtlchkibailfldaaGreat.Ex
namespace Go.Proofs.YtlchkibailfldaaGreat
def gO(v m:Int):Int:=if m<0\/v<0 then 0 else if m<v then m else v
def dW(a:Int):Prop:= -17592186044416<=a/\a<=17592186044416
instance (a:Int):Decidable (dW a):=by unfold dW;infer_instance
def eL(a s:Int):Int:=if ¬dW a\/s<0\/24<s then 0 else if s=0 then a else(a+2^ (s-1).toNat)/2^s.toNat
theorem aze{v m:Int}(h:m<0\/v<0):gO v m=0:=by unfold gO;rw[ab h]
theorem aCh{v m:Int}(h1:0<=m)(h:m<v):gO v m=m:=by unfold gO;rw[ak (by omega),ab h]
theorem azf{v m:Int}(h1:0<=v)(h:v<=m):gO v m=v:=by unfold gO;rw[ak (by omega),ak (by omega)]
theorem Gg{m n:Nat}(h:m<=n):(2:Int)^m<=2^n:=by
 have h1:2^m<=2^n:=Nat.pow_le_pow_right (by omega) h
 exact_mod_cast h1
theorem ap2(m:Nat):(1:Int)<=2^m:=by
 have:=Nat.one_le_two_pow (n:=m)
 exact_mod_cast this
theorem TS(s:Int)(h1:1<=s)(h2:s<=24):(1:Int)<=2^ (s.toNat-1)/\(2:Int)^ (s.toNat-1)<=8388608/\(2:Int)<=2^s.toNat/\(2:Int)^s.toNat<=16777216:=
 ⟨ap2 _,Gg (n:=23) (by omega),Gg (m:=1) (by omega),Gg (n:=24) (by omega)⟩
theorem jS{a s:Int}(h:¬dW a\/s<0\/24<s):eL a s=0:=by unfold eL;rw[ab h]
theorem HM{a:Int}(h:dW a):eL a 0=a:=by unfold eL;rw[ak (by simp[h]),ab rfl]
theorem KU{a s:Int}(h:dW a)(h1:1<=s)(h2:s<=24):eL a s=(a+2^ (s.toNat-1))/2^s.toNat:=by
 unfold eL;have e:(s-1).toNat=s.toNat-1:=by omega
 rw[ak (by simp[h];omega),ak (by omega),e]
theorem aJl(n d:Int)(hn:n<0)(hd:2<=d):n<=n.tdiv d/\n.tdiv d<=0/\n<=n.tdiv d*d/\n.tdiv d*d<=0/\(n<n.tdiv d*d->n.tdiv d-1=n/d)/\(¬n<n.tdiv d*d->n.tdiv d=n/d):=by
 have e:n.tdiv d= -((-n)/d):=by have h1:=Int.neg_tdiv (a:= -n) (b:=d);rw[Int.neg_neg]at h1;rw[h1,dn (by omega)]
 have h2:=Int.mul_ediv_add_emod (-n) d;have h3:=Int.emod_nonneg (-n) (by omega:d≠0)
 have h4:=Int.emod_lt_of_pos (-n) (by omega:0<d)
 have h5:0<=(-n)/d:=gF (by omega) (by omega)
 have h6:(-n)/d<= -n:=g8 _ (by omega)
 rw[e];generalize(-n)/d=q at *;generalize(-n)%d=r at *;have h7:0<=d*q:=gr (by omega) h5
 have e2: -q*d= -(d*q):=by rw[Int.neg_mul,Int.mul_comm]
 rw[e2];refine⟨by omega,by omega,by omega,by omega,fun h=>?_,fun h=>?_⟩
 ·have:n=(d-r)+d*(-q-1):=by rw[Int.mul_sub,Int.mul_neg,Int.mul_one];omega
  rw[this,Int.add_mul_ediv_left _ _ (by omega),Int.ediv_eq_zero_of_lt (by omega) (by omega)]
  omega
 ·have hr:r=0:=by omega
  have:n=0+d*(-q):=by rw[Int.mul_neg];omega
  rw[this,Int.add_mul_ediv_left _ _ (by omega),Int.zero_ediv]
  omega
theorem aJk(n d:Int)(hn:0<=n)(hd:2<=d):0<=n/d/\n/d<=n/\0<=n/d*d/\n/d*d<=n:=
 ⟨gF hn (by omega),g8 _ hn,gr (gF hn (by omega)) (by omega),Int.ediv_mul_le _ (by omega)⟩
def Rv:List Int->Bool
 | []=>true
 |v::r=>if -32767<=v/\v<=32767 then Rv r else false
theorem aJK{v:Int}{r:List Int}(h1: -32767<=v)(h2:v<=32767):Rv (v::r)=Rv r:=by rw[Rv,ab ⟨h1,h2⟩]
theorem aJn{v:Int}{r:List Int}(h:v< -32767\/32767<v):Rv (v::r)=false:=by rw[Rv,ak (by omega)]
theorem D9:∀ {xs:List Int},Rv xs=true->∀x∈xs,-32767<=x/\x<=32767
 | [],_,x,hx=>by cases hx
 |v::r,h,x,hx=>by
  rw[Rv]at h;split at h
  ·rename_i hv;rcases aS.1 hx with rfl|hx
   ·exact hv
   ·exact D9 h x hx
  ·cases h
def fm(xs:List Int):Int:=if xs.length=0\/81<xs.length then 9 else if Rv xs=true then 0 else 10
theorem C_{xs:List Int}(h:xs.length=0\/81<xs.length):fm xs=9:=by unfold fm;rw[ab h]
theorem HA{xs:List Int}(h:¬ (xs.length=0\/81<xs.length))(hk:Rv xs=true):fm xs=0:=by unfold fm;rw[ak h,ab hk]
theorem VV{xs:List Int}(h:¬ (xs.length=0\/81<xs.length))(hk:Rv xs=false):fm xs=10:=by unfold fm;rw[ak h,ak (by simp[hk])]
theorem m0{xs:List Int}(h:fm xs=0):1<=xs.length/\xs.length<=81/\∀x∈xs,-32767<=x/\x<=32767:=by
 unfold fm at h;split at h
 ·omega
 ·split at h
  ·rename_i h1 h2;exact⟨by omega,by omega,D9 h2⟩
  ·omega
theorem aoX(xs:List Int):0<=fm xs/\fm xs<=10:=by
 unfold fm;split
 ·omega
 ·split <;>omega
def gv(lo hi:Int):List Int->Int
 | []=>0
 |v::r=>min (v*lo) (v*hi)+gv lo hi r
def gJ(lo hi:Int):List Int->Int
 | []=>0
 |v::r=>max (v*lo) (v*hi)+gJ lo hi r
def du(xs:List Int)(lo hi:Int):Int×Int×Bool:=
 if fm xs≠0\/hi<lo\/lo< -68719476736\/68719476736<hi then(0,0,false)
 else if dW (gv lo hi xs)/\dW (gJ lo hi xs)then(gv lo hi xs,gJ lo hi xs,true)else(0,0,false)
theorem jc{xs:List Int}{lo hi:Int}(h:fm xs≠0\/hi<lo\/lo< -68719476736\/68719476736<hi):du xs lo hi=(0,0,false):=by unfold du;rw[ab h]
theorem P6{xs:List Int}{lo hi:Int}(h:fm xs=0)(h1:lo<=hi)(h2: -68719476736<=lo)(h3:hi<=68719476736)(h4:dW (gv lo hi xs))(h5:dW (gJ lo hi xs)):du xs lo hi=(gv lo hi xs,gJ lo hi xs,true):=by unfold du;rw[ak (by omega),ab ⟨h4,h5⟩]
theorem P7{xs:List Int}{lo hi:Int}(h:fm xs=0)(h1:lo<=hi)(h2: -68719476736<=lo)(h3:hi<=68719476736)(h4:¬ (dW (gv lo hi xs)/\dW (gJ lo hi xs))):du xs lo hi=(0,0,false):=by unfold du;rw[ak (by omega),ak h4]
theorem qE{v x:Int}(h1: -32767<=v)(h2:v<=32767)(h3: -68719476736<=x)(h4:x<=68719476736): -2251799813685248<=v*x/\v*x<=2251799813685248:=by
 have h5:v.natAbs<=32767:=by omega
 have h6:x.natAbs<=68719476736:=by omega
 have h7:(v*x).natAbs<=32767*68719476736:=by rw[Int.natAbs_mul];exact eu h5 h6
 omega
end Go.Proofs.YtlchkibailfldaaGreat
namespace Go.Proofs.YtlchkibailfldaaGreat.Ex
open Go Go.RowKit
theorem rO(a b c:Int)(ha:0<=a)(hb:0<=b)(hc:0<=c)(h1:c<=1000000000000)(h2:a*b<=9223372036854775807):sR [.i a,.i b,.i c]=some (if a*b<=c then[.i (a*b),.i 1]else[.i 0,.i 0]):=by
 refine aK (N:=NN) ?_;rw[avd];refine bI ?_;unfold aFq;simp only[aW,bj];rw[ak (by omega),ak (by omega),ak (by omega)]
 have hq:aH (c.tdiv b)=c/b:=by rw[dn hc];exact az (by have:=gF hc hb;omega) (by have:=g8 b hc;omega)
 have hm:0<=a*b:=gr ha hb
 by_cases hb0:0<b
 ·rw[ab hb0,ab (by omega),hq,az (by omega) h2]
  by_cases h:a*b<=c
  ·rw[ab h,ak (by have:=(fM hb0).2 h;omega)]
  ·rw[ak h,ab (by apply Int.not_le.1;intro h';exact h ((fM hb0).1 h'))]
 ·have:b=0:=by omega
  subst this;rw[ak hb0,Int.mul_zero,ab hc];rfl
theorem Bo(a b c d:Int)(h:¬ (a=0/\b=0/\c=0/\d=0)):gW [.i a,.i b,.i c,.i d]=some [.i 0]:=by
 refine aK (N:=NN) ?_;rw[al7];refine bI ?_;unfold apE;simp only[aW,bj]
 repeat(split <;>try rfl)
 exact absurd ⟨by assumption,by assumption,by assumption,by assumption⟩ h
theorem Fz(a b:Nat)(hb:1<=b)(ha:a<=1000000000)(hb2:b<=1000000000):C8 [.i a,.i b]=some [.i (cE a b:Nat)]:=by
 refine aK (N:=NN) ?_;rw[aoV];refine bI ?_;unfold ayV;simp only[aW,bj];have hd:(a:Int).tdiv b=((a/b:Nat):Int):=by rw[dn (by omega)];exact(Int.natCast_ediv a b).symm
 have hm:(a:Int).tmod b=((a%b:Nat):Int):=by rw[fL (by omega)];exact(Int.natCast_emod a b).symm
 have h1:=Nat.div_le_self a b;have h2:=eP a b;have h3:=eN a hb;rw[hd,hm];generalize hq:a/b=q at h1 h2;simp(disch:=omega) only[az];rw[ak (by omega),ak (by omega),ab (by omega)]
 by_cases h0:a%b=0
 ·rw[ak (by omega)]
  have:cE a b=q:=by unfold cE;rw[pV hb];rw[bU]at h2;omega
  rw[this]
 ·rw[ab (by omega)]
  have:cE a b=q+1:=by unfold cE;rw[pV hb,co,dd];rw[bU]at h2;omega
  rw[this];simp
structure p8 where
 (x0 y0 x1 y1:Nat)
structure p8.In(r:p8)(W H:Nat):Prop where
 x:r.x0<r.x1
 y:r.y0<r.y1
 w:r.x1<=W
 h:r.y1<=H
 W1:W<=128
 H1:H<=128
@[reducible] def p8.pd(r:p8):List PD:=[.i r.x0,.i r.y0,.i r.x1,.i r.y1]
theorem jA{r:p8}{W H:Nat}(h:r.In W H):gW [.i r.x0,.i r.y0,.i r.x1,.i r.y1]=some [.i 0]:=Bo _ _ _ _ (by have:=h.x;omega)
theorem Bk(a b c d:Int)(ha:0<=a)(hb:0<=b)(hc:a<c)(hd:b<d)(hc2:c<=1048576)(hd2:d<=1048576):yG [.i a,.i b,.i c,.i d]=some [.i 1]:=by
 refine aK (N:=NN) ?_;rw[al6];refine bI ?_;unfold apD;simp only[sQ];rw[Bo a b c d (by omega),ag (by rfl)]
 unfold ZX;simp only[aW,bj,Int.reduceNeg]
 repeat(first|rw[ab (by omega)]|rw[ak (by omega)])
theorem jg{r:p8}{W H:Nat}(h:r.In W H):iC [.i r.x0,.i r.y0,.i r.x1,.i r.y1,.i 0,.i 0,.i W,.i H]=some [.i 1]:=by
 obtain⟨h1,h2,h3,h4,h5,h6⟩:=h;refine aK (N:=NN) ?_;rw[afa];refine bI ?_;unfold ai8;simp only[sQ];rw[Bk _ _ _ _ (by omega) (by omega) (by omega) (by omega) (by omega) (by omega),ag (by rfl)]
 unfold Tc;simp only[aW,bj,Int.reduceEq];rw[Bk _ _ _ _ (by omega) (by omega) (by omega) (by omega) (by omega) (by omega),ag (by rfl)]
 unfold Td;simp only[aW,bj,Int.reduceEq];rw[Bo _ _ _ _ (by omega),ag (by rfl)]
 unfold Te;simp only[aW,bj]
 repeat(first|rw[ab (by omega)]|rw[ak (by omega)])
theorem apF{r:p8}{W H:Nat}(h:r.In W H):ZZ [.i r.x0,.i r.y0,.i r.x1,.i r.y1]=some [.i (((r.x1-r.x0)*(r.y1-r.y0):Nat):Int)]:=by
 obtain⟨h1,h2,h3,h4,h5,h6⟩:=h;refine aK (N:=NN) ?_;rw[apG];refine bI ?_;unfold ay1;simp only[sQ];rw[Bk _ _ _ _ (by omega) (by omega) (by omega) (by omega) (by omega) (by omega),ag (by rfl)]
 unfold ai9;simp only[aW,bj,Int.reduceEq];have e1:((r.x1-r.x0:Nat):Int)=(r.x1:Int)-r.x0:=by omega
 have e2:((r.y1-r.y0:Nat):Int)=(r.y1:Int)-r.y0:=by omega
 have h7:(r.x1-r.x0)*(r.y1-r.y0)<=128*128:=eu (by omega) (by omega)
 simp(disch:=omega) only[az];rw[<-e1,<-e2,<-aX];simp(disch:=omega) only[az]
theorem mT(x:Int)(n:Nat)(pol:Int)(hn:1<=n)(hn2:n<=128)(hx: -1000000000<=x)(hx2:x<=1000000000):∃i ok:Int,gw [.i x,.i n,.i pol]=some [.i i,.i ok]/\((ok=0/\i=0)\/ok=1/\0<=i/\i<n):=by
 have hm:∀m:Int,0<m->m<=1000-> -m<x.tmod m/\x.tmod m<m:=fun m h1 h2=>by
  rcases Int.lt_or_le x 0 with h|h
  ·have h3:=Int.neg_tmod (a:= -x) (b:=m);rw[Int.neg_neg]at h3;have h4:=Int.tmod_nonneg m (show 0<= -x by omega)
   have h5:=Int.tmod_lt_of_pos (-x) h1;omega
  ·have h4:=Int.tmod_nonneg m h;have h5:=Int.tmod_lt_of_pos x h1;omega
 suffices h:∃i ok:Int,ahx NN (.i x) (.i n) (.i pol)=some (.fin [.i i,.i ok])/\((ok=0/\i=0)\/ok=1/\0<=i/\i<n)by
  obtain⟨i,ok,h1,h2⟩:=h;refine⟨i,ok,?_,h2⟩;refine aK (N:=NN) ?_;rw[anP];exact bI h1
 unfold ahx;have hm1:=hm n (by omega) (by omega)
 have hm2:=hm (2*n) (by omega) (by omega)
 simp only[aW,bj];have e1:aH (2*(n:Int))=2*n:=az (by omega) (by omega)
 have e2:aH ((n:Int)-1)=n-1:=az (by omega) (by omega)
 rw[e1,e2];generalize x.tmod (n:Int)=q1 at hm1;generalize x.tmod (2*(n:Int))=q2 at hm2;rw[ak (by omega),ak (by omega)]
 split
 ·exact⟨_,_,rfl,.inr ⟨rfl,by unfold lU gI;split <;>split <;>omega,by unfold lU gI;split <;>split <;>omega⟩⟩
 ·split
  ·rw[ab (by omega)]
   split
   ·simp(disch:=omega) only[az];split
    ·exact⟨_,_,rfl,.inr ⟨rfl,by omega,by omega⟩⟩
    ·exact⟨_,_,rfl,.inr ⟨rfl,by omega,by omega⟩⟩
   ·simp(disch:=omega) only[az];split
    ·exact⟨_,_,rfl,.inr ⟨rfl,by omega,by omega⟩⟩
    ·exact⟨_,_,rfl,.inr ⟨rfl,by omega,by omega⟩⟩
  ·split
   ·rw[ab (by omega)]
    split
    ·simp(disch:=omega) only[az];exact⟨_,_,rfl,.inr ⟨rfl,by omega,by omega⟩⟩
    ·exact⟨_,_,rfl,.inr ⟨rfl,by omega,by omega⟩⟩
   ·split
    ·split
     ·split
      ·exact⟨_,_,rfl,.inr ⟨rfl,by omega,by omega⟩⟩
      ·exact⟨_,_,rfl,.inl ⟨rfl,rfl⟩⟩
     ·exact⟨_,_,rfl,.inl ⟨rfl,rfl⟩⟩
    ·exact⟨_,_,rfl,.inl ⟨rfl,rfl⟩⟩
def qa(pol fill m:Int):Prop:=(pol=0/\fill=0)\/(pol=1/\fill=0)\/(pol=2/\fill=0)\/(pol=3/\0<=fill/\fill<=m)
theorem mS{pol fill m:Int}(h:qa pol fill m):o8 [.i pol,.i fill,.i m]=some [.i 1]:=by
 refine aK (N:=NN) ?_;rw[anO];refine bI ?_;unfold ar5;simp only[aW,bj];rcases h with⟨rfl,rfl⟩|⟨rfl,rfl⟩|⟨rfl,rfl⟩|⟨rfl,h1,h2⟩
 ·simp
 ·simp
 ·simp
 ·simp[h1,h2]
theorem gC(a s:Int):gX [.i a,.i s]=some [.i (eL a s)]:=by
 refine aK (N:=NN) ?_;rw[ant];refine bI ?_;unfold arF;simp only[aW,bj,Int.reduceNeg]
 by_cases h1: -17592186044416<=a
 ·rw[ab h1]
  by_cases h2:17592186044416<a
  ·rw[ab h2,jS (by unfold dW;omega)]
  ·rw[ak h2];have ha:dW a:=⟨h1,by omega⟩
   by_cases h3:s<0
   ·rw[ab h3,jS (.inr (.inl h3))]
   ·rw[ak h3]
    by_cases h4:24<s
    ·rw[ab h4,jS (.inr (.inr h4))]
    ·rw[ak h4]
     by_cases h5:s=0
     ·subst h5;rw[ab rfl,HM ha]
     ·obtain⟨p1,p2,p3,p4⟩:=TS s (by omega) (by omega)
      rw[ak h5];simp(disch:=omega) only[az];have e1:(s-1).toNat=s.toNat-1:=by omega
      rw[ab (by omega),ab (by omega),ab (by omega),KU ha (by omega) (by omega)]
      unfold aFs FK;rw[Int.one_mul,e1];have e2:IntKind.wrap .i64 (2^ (s.toNat-1))=2^ (s.toNat-1):=az (by omega) (by omega)
      rw[e2];generalize(2:Int)^ (s.toNat-1)=q at p1 p2;simp(disch:=omega) only[az]
 ·rw[ak h1,jS (.inl (by unfold dW;omega))]
theorem sw(v:Int){m:Int}(h:0<=m):0<=gO v m/\gO v m<=m:=by
 unfold gO;split
 ·omega
 ·split <;>omega
theorem pU(v m:Int):o0 [.i v,.i m]=some [.i (gO v m)]:=by
 refine aK (N:=NN) ?_;rw[anu];refine bI ?_;unfold arG;simp only[aW,bj];unfold gO
 by_cases h1:m<0
 ·rw[ab h1,ab (.inl h1)]
 ·rw[ak h1]
  by_cases h2:v<0
  ·rw[ab h2,ab (.inr h2)]
  ·rw[ak h2,ak (show ¬ (m<0\/v<0)by omega)]
   by_cases h3:m<v
   ·simp[h3]
   ·simp[h3]
theorem oI{xs:List Int}(h:fm xs=0):nr [.l (il xs)]=some [.i 0]:=by
 obtain⟨h1,h2,h3⟩:=m0 h;refine aK (N:=NN) ?_;rw[acz];refine bI ?_;unfold acA;simp only[aW,bj,bm];rw[ak (by omega),ak (by omega)]
 have hl:aO (fun S=>uF NN (.l (il xs)) (gg S 0)) NN [.i 0]=some (.brk 0 []):=by
  refine bJ (fun i=>[.i (i:Int)]) xs.length NN (cC (by omega)) (fun i hi=>?_) ?_
  ·unfold uF;simp only[aW,bj,Int.reduceNeg,bm,dz,au];have hm:=h3 _ (ce hi);rw[ab (by omega),ab (by omega),ae,aj hi]
   simp only[dw];rw[ab (by omega),ak (by omega)]
   simp(disch:=omega) only[az];rfl
  ·unfold uF;simp only[aW,bj,Int.reduceNeg,bm];rw[ak (by omega)]
 rw[hl];rfl
theorem nu{xs:List Int}{lo hi a b:Int}(h:du xs lo hi=(a,b,true)):mN [.l (il xs),.i lo,.i hi]=some [.i a,.i b,.i 1]:=by
 have hw:fm xs=0:=by apply Classical.byContradiction;intro hc;rw[jc (.inl hc)]at h;cases h
 have hb:lo<=hi/\ -68719476736<=lo/\hi<=68719476736:=by
  apply Classical.byContradiction;intro hc;rw[jc (by omega)]at h
  cases h
 have ha:dW (gv lo hi xs)/\dW (gJ lo hi xs):=by apply Classical.byContradiction;intro hc;rw[P7 hw hb.1 hb.2.1 hb.2.2 hc]at h;cases h
 rw[P6 hw hb.1 hb.2.1 hb.2.2 ha.1 ha.2]at h;obtain⟨w1,w2,w3⟩:=m0 hw;obtain⟨b1,b2,b3⟩:=hb;have bd:∀ (ys:List Int),(∀x∈ys,-32767<=x/\x<=32767)-> -2251799813685248*(ys.length:Int)<=gv lo hi ys/\gv lo hi ys<=2251799813685248*ys.length/\ -2251799813685248*(ys.length:Int)<=gJ lo hi ys/\gJ lo hi ys<=2251799813685248*ys.length:=by
  intro ys
  induction ys with
  |nil=>intro _;simp[gv,gJ]
  |cons y r ih=>
   intro hy;have i1:=ih fun x hx=>hy x (aU _ hx)
   have i2:=hy y (bN ..);have p1:=qE i2.1 i2.2 b2 (show lo<=68719476736 by omega)
   have p2:=qE i2.1 i2.2 (show -68719476736<=hi by omega) b3
   simp only[gv,gJ,cj];omega
 have app:∀ (ys zs:List Int),gv lo hi (ys++zs)=gv lo hi ys+gv lo hi zs/\gJ lo hi (ys++zs)=gJ lo hi ys+gJ lo hi zs:=by
  intro ys zs
  induction ys with
  |nil=>simp[gv,gJ]
  |cons y r ih=>simp only[aZ,gv,gJ];omega
 refine aK (N:=NN) ?_;rw[aha];refine bI ?_;unfold akr;simp only[aW];rw[oI hw,ag (by rfl)]
 unfold U7;simp only[aW,bj,Int.reduceNeg];have hl:aO (fun S=>zQ NN (.l (il xs)) (.i lo) (.i hi) (gg S 0) (gg S 1) (gg S 2)) NN [.i 0,.i 0,.i 0]=some (.brk 0 [.i (gv lo hi xs),.i (gJ lo hi xs)]):=by
  refine bJ (fun i=>[.i (gv lo hi (xs.take i)),.i (gJ lo hi (xs.take i)),.i (i:Int)]) xs.length NN (cC (by omega)) (fun i hi'=>?_) ?_
  ·unfold zQ;simp only[aW,bj,bm,dz,au];have hm:=w3 _ (ce hi');have p1:=qE hm.1 hm.2 b2 (show lo<=68719476736 by omega)
   have p2:=qE hm.1 hm.2 (show -68719476736<=hi by omega) b3
   have q1:=bd (xs.take i) fun x hx=>w3 x (fD hx)
   have e1:=app (xs.take i) [xs[i]];rw[ab (by omega),ab (by omega),ae,aj hi',dy hi',e1.1,e1.2]
   simp only[dw,gv,gJ,Int.add_zero];have ql:((xs.take i).length:Int)<=81:=by rw[bu];omega
   have m1:lU (xs[i]*lo) (xs[i]*hi)=min (xs[i]*lo) (xs[i]*hi):=by unfold lU;split <;>omega
   have m2:gI (xs[i]*lo) (xs[i]*hi)=max (xs[i]*lo) (xs[i]*hi):=by unfold gI;split <;>omega
   simp(disch:=omega) only[az];rw[m1,m2];rfl
  ·unfold zQ;simp only[aW,bj,bm];rw[ak (by omega),ez]
 rw[ak (by omega),ab b2,ak (by omega),ab (by omega),ak (by omega),hl]
 obtain⟨⟨a1,a2⟩,a3,a4⟩:=ha;simp only[bi,U8,aW,bj,Int.reduceNeg];rw[ab a1,ak (by omega),ab a3,ak (by omega)]
 simp only[aA]at h;rw[h.1,h.2.1]
structure Pl where
 (W H:Nat) (M:Int) (pix:List Int)
@[reducible] def Pl.pd(p:Pl):List PD:=[.i p.W,.i p.H,.i p.M,.l (il p.pix)]
structure Pl.Ok(p:Pl):Prop where
 w1:1<=p.W
 w2:p.W<=128
 h1:1<=p.H
 h2:p.H<=128
 a:p.W*p.H<=4096
 m1:1<=p.M
 m2:p.M<=4294967296
 len:p.pix.length=p.W*p.H
 bd:∀v∈p.pix,0<=v/\v<=p.M
theorem Ob(W H:Nat)(M:Int)(w1:1<=W)(w2:W<=128)(h1:1<=H)(h2:H<=128)(a:W*H<=4096)(m1:1<=M)(m2:M<=4294967296):Gk [.i W,.i H,.i M]=some [.i ((W*H:Nat):Int),.i 1]:=by
 refine aK (N:=NN) ?_;rw[amC];refine bI ?_;unfold ap8;simp only[aW,bj]
 repeat(first|rw[ab (by omega)]|rw[ak (by omega)])
 rw[rO W H 4096 (by omega) (by omega) (by omega) (by omega) (by rw[<-aX];omega),ab (by rw[<-aX];omega),ag (by rfl)]
 unfold aaZ;simp only[aW,bj,Int.reduceEq,aX]
theorem dV{p:Pl}(h:p.Ok):eD p.pd=some [.i 1]:=by
 obtain⟨w1,w2,h1,h2,a,m1,m2,len,bd⟩:=h;refine aK (N:=NN) ?_;rw[afO];refine bI ?_;unfold ajp;simp only[sQ];rw[Ob _ _ _ w1 w2 h1 h2 a m1 m2,ag (by rfl)]
 unfold TU;simp only[aW,bj,Int.reduceEq,bm,len];have hl:aO (fun S=>za NN (.i p.M) (.l (il p.pix)) (gg S 0)) NN [.i 0]=some (.brk 0 []):=by
  refine bJ (fun i=>[.i (i:Int)]) p.pix.length NN (cC (by omega)) (fun i hi=>?_) ?_
  ·unfold za;simp only[aW,bj,bm,dz,au];have hm:=bd _ (ce hi);rw[ab (by omega),ab (by omega),ae,aj hi]
   simp only[dw];rw[ak (by omega),ak (by omega)]
   simp(disch:=omega) only[az];rfl
  ·unfold za;simp only[aW,bj,bm];rw[ak (by omega)]
 rw[hl];rfl
theorem amy(W H:Nat)(M:Int)(w1:1<=W)(w2:W<=128)(h1:1<=H)(h2:H<=128)(a:W*H<=4096)(m1:1<=M)(m2:M<=4294967296):aaV [.i W,.i H,.i M]=some [.i W,.i H,.i M,.l (il (List.replicate (W*H) 0)),.i 1]:=by
 refine aK (N:=NN) ?_;rw[ap4];refine bI ?_;unfold ay4;simp only[sQ];rw[Ob _ _ _ w1 w2 h1 h2 a m1 m2,ag (by rfl)]
 unfold ajr;simp only[aW,bj,Int.reduceEq,au,gB]
 repeat(first|rw[ab (by omega)]|rw[ak (by omega)])
theorem alI{xs:List Int}(h1:1<=xs.length)(h2:xs.length<=1000000):∃m,Zy [.l (il xs)]=some [.i m]/\m∈xs:=by
 have hx:∀i,i<xs.length->xs.getD i 0∈xs:=fun i hi=>by
  rw[ae,aj hi];exact ce hi
 obtain⟨k,X,e1,hk,m,hm,rfl⟩:=cX (b:=fun S=>Dl NN (.l (il xs)) (gg S 0) (gg S 1)) (fun i S=>∃m∈xs,S=[.i m,.i (i:Int)]) (fun k X=>k=0/\∃m∈xs,X=[.i m]) xs.length (fun i S hi ⟨m,hm,hS⟩=>by
  subst hS
  left
  refine⟨_,?_,gI m (xs.getD i 0),?_,rfl⟩
  ·unfold Dl;simp only[aW,bj,bm,dz,au]
   repeat(first|rw[ab (by omega)]|rw[ak (by omega)])
   simp(disch:=omega) only[az];rfl
  ·unfold gI;split
   ·exact hx i hi
   ·exact hm) (fun S ⟨m,hm,hS⟩=>by
  subst hS;refine⟨0,[.i m],?_,rfl,m,hm,rfl⟩;unfold Dl;simp only[aW,bj,bm]
  repeat(first|rw[ab (by omega)]|rw[ak (by omega)])) (xs.length-1) 1 NN [.i (xs.getD 0 0),.i ((1:Nat):Int)] (by omega) (cC (by omega)) ⟨_,hx 0 (by omega),rfl⟩
 subst hk;refine⟨m,?_,hm⟩;refine aK (N:=NN) ?_;rw[ape];refine bI ?_;unfold ayY;simp only[aW,bj,bm]
 repeat(first|rw[ab (by omega)]|rw[ak (by omega)])
 have e0:el (il xs) 0 1 0= .i (xs.getD 0 0):=awP xs 0;have e1':aO (fun S=>Dl NN (.l (il xs)) (gg S 0) (gg S 1)) NN [.i (xs.getD 0 0),.i 1]=some (.brk 0 [.i m]):=e1
 rw[e0,e1'];simp only[bi,aiQ,aW]
theorem ZA{xs:List Int}(h1:1<=xs.length)(h2:xs.length<=1000000):KT [.l (il xs)]=some [.l (il xs)]:=by
 refine aK (N:=NN) ?_;rw[aeJ];refine bI ?_;unfold aiR;simp only[aW,bj,bm]
 repeat(first|rw[ab (by omega)]|rw[ak (by omega)])
 rfl
def KL(a:List Int)(t:Nat)(b:List Int):List Int:=(a.take t++b++a.drop (t+b.length)).take a.length
theorem s_(a:List Int)(t:Int)(b:List Int):vg (il a) t (il b)=il (KL a t.toNat b):=by simp only[vg,KL,il,bO,List.map_take,fR,List.map_drop]
theorem oK(a:List Int)(lo hi:Int):iv (il a) lo hi 1=il ((a.take hi.toNat).drop lo.toNat):=by simp only[iv,il,ed,List.map_take,List.map_drop]
theorem KK{a b:List Int}{t:Nat}(h:t+b.length<=a.length)(i:Nat):(KL a t b)[i]?=if t<=i/\i<t+b.length then b[i-t]? else a[i]? :=by
 unfold KL;rw[bX]
 by_cases hi:i<a.length
 ·rw[ab hi]
  by_cases h1:i<t
  ·rw[dg,bl (by rw[bu];omega),bX,ab h1,ak (by omega)]
  ·by_cases h2:i<t+b.length
   ·rw[dg,bA (by rw[bu];omega),bl (by rw[bu];omega),bu,fQ (by omega),ab ⟨by omega,h2⟩]
   ·rw[bA (by rw[ba,bu];omega),b_,ba,bu,fQ (by omega),ak (by omega)]
    congr 1
    omega
 ·rw[ak hi,ak (by omega),bp (by omega)]
theorem Df{a b:List Int}{t:Nat}(h:t+b.length<=a.length):(KL a t b).length=a.length:=by unfold KL;rw[bu,ba,ba,bu,cJ];omega
def BR(f g:Nat->Nat->Int)(x y w j:Nat)(a b:Nat):Int:=if x<=a/\a<x+w/\y<=b/\b<y+j then g (a-x) (b-y)else f a b
theorem Oc(W:Nat)(f:Nat->Nat->Int)(n i:Nat):(cB W f n)[i]?=if i<n then some (f (i%W) (i/W))else none:=by
 unfold cB;rw[aM]
 by_cases h:i<n
 ·rw[cI h,ab h];rfl
 ·rw[bp (by simp;omega),ak h];rfl
theorem ao'{W H x y w h j:Nat}(f g:Nat->Nat->Int)(hx:x+w<=W)(hy:y+h<=H)(hj:j<h)(hw:0<w):
  KL (cB W (BR f g x y w j) (W*H)) ((y+j)*W+x) (((cB w g (w*h)).take ((j+1)*w)).drop (j*w))=cB W (BR f g x y w (j+1)) (W*H):=by
 have hW:0<W:=by omega
 have e1:(j+1)*w<=w*h:=by rw[bU w h];exact bM _ (by omega)
 have e2:(j+1)*w=j*w+w:=by rw[co,dd]
 have hlen:(((cB w g (w*h)).take ((j+1)*w)).drop (j*w)).length=w:=by rw[cJ,bu,eJ];omega
 have e3:(y+j+1)*W<=W*H:=by rw[bU W H];exact bM _ (by omega)
 have e4:(y+j+1)*W=(y+j)*W+W:=by rw[co,dd]
 apply cF;intro i;rw[KK (by rw[hlen,eJ];omega),hlen,Oc,Oc]
 by_cases hi:i<W*H
 ·rw[ab hi,ab hi];have hr:=eP i W;have hm:=eN i hW;rw[bU]at hr;generalize i/W=b at hr;generalize i%W=a at hr hm;have key:∀c,(c*W+x<=i/\i<c*W+x+w)↔(b=c/\x<=a/\a<x+w):=fun c=>by
   constructor
   ·rintro⟨k1,k2⟩;have:b=c:=by
     rcases Nat.lt_trichotomy b c with hlt|heq|hgt
     ·exfalso
      have:=bM W (show b+1<=c from hlt)
      rw[co,dd]at this;omega
     ·exact heq
     ·exfalso
      have:=bM W (show c+1<=b from hgt)
      rw[co,dd]at this;omega
    subst this;exact⟨rfl,by omega,by omega⟩
   ·rintro⟨rfl,k1,k2⟩;omega
  by_cases hin:(y+j)*W+x<=i/\i<(y+j)*W+x+w
  ·rw[ab hin];obtain⟨rfl,k1,k2⟩:=(key (y+j)).1 hin;rw[b_,bX,ab (by omega),Oc,ab (by omega)]
   have e5:j*w+(i-((y+j)*W+x))=j*w+(a-x):=by omega
   rw[e5,(tZ j (show a-x<w by omega)).1,(tZ j (show a-x<w by omega)).2]
   unfold BR;rw[ab ⟨k1,k2,by omega,by omega⟩]
   congr 2
   omega
  ·rw[ak hin];have hin:=fun h=>hin ((key (y+j)).2 h)
   unfold BR
   congr 1
   by_cases h5:x<=a/\a<x+w/\y<=b/\b<y+j
   ·rw[ab h5,ab ⟨h5.1,h5.2.1,h5.2.2.1,by omega⟩]
   ·rw[ak h5,ak (fun h6=>h5 ⟨h6.1,h6.2.1,h6.2.2.1,by
     rcases fJ b (y+j)with h7|h7
     ·exact h7
     ·exact absurd ⟨by omega,h6.1,h6.2.1⟩ hin⟩)]
 ·rw[ak hi,ak hi,ak];rintro⟨k1,k2⟩;omega
theorem afR{W H x y w h:Nat}{M Mq:Int}{f g:Nat->Nat->Int}(hp:Pl.Ok ⟨W,H,M,cB W f (W*H)⟩)(hq:Pl.Ok ⟨w,h,Mq,cB w g (w*h)⟩)(hx:x+w<=W)(hy:y+h<=H)(hm:∀v∈cB w g (w*h),v<=M):
  TV [.i W,.i H,.i M,.l (il (cB W f (W*H))),.i w,.i h,.i Mq,.l (il (cB w g (w*h))),.i x,.i y]=some [.i W,.i H,.i M,.l (il (cB W (BR f g x y w h) (W*H))),.i 1]:=by
 have v1:=dV hp;have v2:=dV hq;obtain⟨w1,w2,h1,h2,a,m1,m2,len,bd⟩:=hp;obtain⟨w1',w2',h1',h2',a',m1',m2',len',bd'⟩:=hq;simp only at w1 w2 h1 h2 a m1 m2 w1' w2' h1' h2' a' m1' m2';have hpos:1<=w*h:=je w1' h1';have hpos2:1<=W*H:=je w1 h1;obtain⟨m,s1,s2⟩:=alI (xs:=cB w g (w*h)) (by rw[eJ];exact hpos) (by rw[eJ];omega)
 have s3:=hm m s2;refine aK (N:=NN) ?_;rw[amA];refine bI ?_;unfold ap7;simp only[qb];rw[v1,ag (by rfl)]
 unfold aaW;simp only[aW,bj,Int.reduceEq];rw[v2,ag (by rfl)]
 unfold aaX;simp only[aW,bj,Int.reduceEq];simp(disch:=omega) only[az]
 repeat(first|rw[ab (by omega)]|rw[ak (by omega)])
 rw[s1,ag (by rfl)]
 unfold aaY;simp only[aW,bj,bm,eJ]
 repeat(first|rw[ab (by omega)]|rw[ak (by omega)])
 have hl:aO (fun S=>D6 NN (.i W) (.i w) (.i h) (.l (il (cB w g (w*h)))) (.i x) (.i y) (gg S 0) (gg S 1)) NN [.l ([]++il (cB W f (W*H))),.i 0]=some (.brk 0 [.l (il (cB W (BR f g x y w h) (W*H)))]):=by
  have e0:cB W f (W*H)=cB W (BR f g x y w 0) (W*H):=by
   congr 1
   funext a b
   unfold BR;rw[ak (by omega)]
  rw[bg,e0];refine bJ (fun j=>[.l (il (cB W (BR f g x y w j) (W*H))),.i (j:Int)]) h NN (cC (by omega)) (fun j hj=>?_) ?_
  ·unfold D6;have e1:(j+1)*w<=w*h:=by rw[bU w h];exact bM _ (by omega)
   have e2:(j+1)*w=j*w+w:=by rw[co,dd]
   have e3:(y+j+1)*W<=W*H:=by rw[bU W H];exact bM _ (by omega)
   have e4:(y+j+1)*W=(y+j)*W+W:=by rw[co,dd]
   have c1:((y:Int)+j)*W=(((y+j)*W:Nat):Int):=by rw[aX,Int.natCast_add]
   have c2:(j:Int)*w=((j*w:Nat):Int):=by rw[aX]
   have c3:((j:Int)+1)*w=(((j+1)*w:Nat):Int):=by rw[aX];rfl
   have w1:aH ((y:Int)+j)=y+j:=az (by omega) (by omega)
   have w2:aH ((j:Int)+1)=j+1:=az (by omega) (by omega)
   simp only[aW,bj,w1,w2,c1,c2,c3];have hrow:=ao' f g hx hy hj (show 0<w by omega)
   generalize(j+1)*w=r3 at e1 e2 hrow ⊢;generalize j*w=r2 at e2 hrow ⊢;generalize(y+j+1)*W=r4 at e3 e4;generalize(y+j)*W=r1 at e4 hrow ⊢;have w3:aH (r1:Int)=r1:=az (by omega) (by omega)
   have w4:aH ((r1:Int)+x)=r1+x:=az (by omega) (by omega)
   have w5:aH ((r1:Int)+x+w)=r1+x+w:=az (by omega) (by omega)
   have w6:aH (r2:Int)=r2:=az (by omega) (by omega)
   have w7:aH (r3:Int)=r3:=az (by omega) (by omega)
   simp only[w3,w4,w5,w6,w7];have q1:((r1:Int)+x).toNat=r1+x:=by omega
   simp only[oK,s_,bm,cJ,bu,eJ,au,q1]
   repeat(first|rw[ab (by omega)]|rw[ak (by omega)])
   rw[hrow];rfl
  ·unfold D6;simp only[aW,bj]
   repeat(first|rw[ab (by omega)]|rw[ak (by omega)])
 rw[hl];rfl
theorem uv{w h tw th:Nat}(w1:1<=w)(w2:w<=128)(h1:1<=h)(h2:h<=128)(t1:1<=tw)(t2:tw<=64)(u1:1<=th)(u2:th<=64):oY [.i w,.i h,.i tw,.i th]=some [.i (cE w tw:Nat),.i (cE h th:Nat)]:=by
 refine aK (N:=NN) ?_;rw[ano];refine bI ?_;unfold arA;simp only[aW,bj]
 repeat(first|rw[ab (by omega)]|rw[ak (by omega)])
 rw[Fz w tw t1 (by omega) (by omega),ag (by rfl)]
 unfold acn;simp only[aW];rw[Fz h th u1 (by omega) (by omega),ag (by rfl)]
 unfold aco;simp only[aW]
theorem kT{a b:Nat}(hb:0<b)(ha:1<=a):1<=cE a b/\cE a b<=a:=by
 have h1:=xU hb (show a-1<a by omega)
 refine⟨Nat.lt_of_le_of_lt (ec _) h1,?_⟩;apply Nat.not_lt.1;intro h;have:=wQ hb h;have h2:=Nat.le_mul_of_pos_right a hb;omega
def gH(w h tw th i:Nat):p8:=⟨i%cE w tw*tw,i/cE w tw*th,min (i%cE w tw*tw+tw) w,min (i/cE w tw*th+th) h⟩
theorem Db{w h tw th i:Nat}(w1:1<=w)(w2:w<=128)(h1:1<=h)(h2:h<=128)(t1:1<=tw)(u1:1<=th)(hi:i<cE w tw*cE h th):(gH w h tw th i).In w h:=by
 have c1:=kT t1 w1;have c2:=kT u1 h1;have k1:=wQ t1 (eN i c1.1);have k2:=wQ u1 (show i/cE w tw<cE h th from gp hi)
 refine⟨?_,?_,?_,?_,w2,h2⟩<;>simp only[gH]<;>omega
theorem anm{w h tw th i:Nat}(w1:1<=w)(w2:w<=128)(h1:1<=h)(h2:h<=128)(t1:1<=tw)(t2:tw<=64)(u1:1<=th)(u2:th<=64)(hi:i<cE w tw*cE h th):
  acm [.i w,.i h,.i tw,.i th,.i i]=some [.i (gH w h tw th i).x0,.i (gH w h tw th i).y0,.i (gH w h tw th i).x1,.i (gH w h tw th i).y1,.i 1]:=by
 have c1:=kT t1 w1;have c2:=kT u1 h1;have k1:=wQ t1 (eN i c1.1);have k2:=wQ u1 (show i/cE w tw<cE h th from gp hi)
 have hd:(i:Int).tdiv (cE w tw:Nat)=((i/cE w tw:Nat):Int):=by rw[dn (by omega)];exact(Int.natCast_ediv _ _).symm
 have hm:(i:Int).tmod (cE w tw:Nat)=((i%cE w tw:Nat):Int):=by rw[fL (by omega)];exact(Int.natCast_emod _ _).symm
 have hp:(cE w tw)*(cE h th)<=128*128:=eu (by omega) (by omega)
 have hdl:=Nat.div_le_self i (cE w tw);refine aK (N:=NN) ?_;rw[ary];refine bI ?_;unfold azd;simp only[sQ];rw[uv w1 w2 h1 h2 t1 t2 u1 u2,ag (by rfl)]
 unfold akp;simp only[aW,bj,hd,hm,<-aX];unfold gH;generalize i%cE w tw*tw=a at k1;generalize cE w tw*cE h th=n at hi hp;generalize i/cE w tw=q at k2 hdl;have w1':aH (q:Int)=q:=az (by omega) (by omega)
 rw[w1',<-aX];generalize q*th=b at k2;simp only;simp(disch:=omega) only[az];have m1:lU ((a:Int)+tw) w=((min (a+tw) w:Nat):Int):=by unfold lU;split <;>omega
 have m2:lU ((b:Int)+th) h=((min (b+th) h:Nat):Int):=by unfold lU;split <;>omega
 repeat(first|rw[ab (by omega)]|rw[ak (by omega)])
 rw[m1,m2]
def ip(F:Nat->Nat->Int)(r:p8):List Int:=cB (r.x1-r.x0) (fun a b=>F (r.x0+a) (r.y0+b)) ((r.x1-r.x0)*(r.y1-r.y0))
@[reducible] def hZ(F:Nat->Nat->Int)(out:Int)(r:p8):List PD:=[.i ((r.x1-r.x0:Nat):Int),.i ((r.y1-r.y0:Nat):Int),.i out,.l (il (ip F r)),.i 0]
theorem p8.In.sz{r:p8}{W H:Nat}(h:r.In W H):((r.x1-r.x0:Nat):Int)=r.x1-r.x0/\((r.y1-r.y0:Nat):Int)=r.y1-r.y0/\(r.x1-r.x0)*(r.y1-r.y0)<=128*128:=by obtain⟨h1,h2,h3,h4,h5,h6⟩:=h;exact⟨by omega,by omega,eu (by omega) (by omega)⟩
theorem WR{p:Pl}(h:p.Ok){x y:Int}(x0:0<=x)(x1:x<p.W)(y0:0<=y)(y1:y<p.H):∃n:Nat,n<p.pix.length/\aH (aH (y*p.W)+x)=n:=by
 obtain⟨a,rfl⟩:=aN x0;obtain⟨b,rfl⟩:=aN y0;have h1:=lg (W:=p.W) (H:=p.H) (x:=a) (y:=b) (by omega) (by omega)
 have h2:=h.len;have h3:=h.a;refine⟨b*p.W+a,by omega,?_⟩
 have e:(b:Int)*p.W=((b*p.W:Nat):Int):=(aX _ _).symm;rw[e];generalize b*p.W=q at h1;generalize p.W*p.H=m at h1 h3;simp(disch:=omega) only[az];omega
structure aoN(m:Int)(kw kh:Nat)(ws:List Int)(sh out:Int):Prop where
 k1:1<=kw
 k2:kw<=9
 l1:1<=kh
 l2:kh<=9
 len:ws.length=kw*kh
 w:fm ws=0
 s1:0<=sh
 s2:sh<=24
 m1:1<=m
 m2:m<=4294967296
 o1:1<=out
 o2:out<=4294967296
 b:(du ws 0 m).2.2=true
theorem IH{m:Int}{kw kh:Nat}{ws:List Int}{sh out:Int}(h:aoN m kw kh ws sh out):CR [.i m,.i kw,.i kh,.l (il ws),.i sh,.i out]=some [.i 0]:=by
 obtain⟨k1,k2,l1,l2,len,w,s1,s2,m1,m2,o1,o2,b⟩:=h;have hb:du ws 0 m=((du ws 0 m).1,(du ws 0 m).2.1,true):=by rw[<-b]
 have hk:kw*kh<=9*9:=eu k2 l2;refine aK (N:=NN) ?_;rw[ahm];refine bI ?_;unfold akx;simp only[aW,bj,bm,<-aX];simp(disch:=omega) only[az];rw[len]
 repeat(first|rw[ab (by omega)]|rw[ak (by omega)])
 rw[oI w,ag (by rfl)]
 unfold Vk;simp only[aW,bj]
 repeat(first|rw[ab (by omega)]|rw[ak (by omega)])
 rw[nu hb,ag (by rfl)]
 unfold Vl;simp only[aW,bj,Int.reduceEq]
theorem acK{p:Pl}(hp:p.Ok){pol fill:Int}(x y:Int)(hx: -1000<=x)(hx2:x<=1000)(hy: -1000<=y)(hy2:y<=1000):∃v,PW [.i p.W,.i p.H,.i p.M,.l (il p.pix),.i pol,.i fill,.i x,.i y]=some [.i v]:=by
 suffices h:∃v,Yi NN (.i p.W) (.i p.H) (.i p.M) (.l (il p.pix)) (.i pol) (.i fill) (.i x) (.i y)=some (.fin [.i v])by
  obtain⟨v,h1⟩:=h;refine⟨v,aK (N:=NN) ?_⟩;rw[ahk];exact bI h1
 have w1:=hp.w1;have w2:=hp.w2;have h1:=hp.h1;have h2:=hp.h2;obtain⟨i,oi,e1,e2⟩:=mT x p.W pol w1 w2 (by omega) (by omega)
 obtain⟨j,oj,e3,e4⟩:=mT y p.H pol h1 h2 (by omega) (by omega)
 have out:∃v,(aB (gw [.i x,.i p.W,.i pol]) 2 fun r=>o7 NN (.i p.W) (.i p.H) (.l (il p.pix)) (.i pol) (.i fill) (.i y) (gg r 0) (gg r 1))=some (.fin [.i v]):=by
  rw[e1,ag (by rfl)]
  unfold o7;simp only[aW];rw[e3,ag (by rfl)]
  unfold Vj;simp only[aW,bj,bm,dz];split
  ·exact⟨_,rfl⟩
  ·split
   ·exact⟨_,rfl⟩
   ·obtain⟨n,g1,g2⟩:=WR hp (x:=i) (y:=j) (by omega) (by omega) (by omega) (by omega)
    rw[g2]
    repeat(first|rw[ab (by omega)]|rw[ak (by omega)])
    exact⟨_,rfl⟩
 unfold Yi;simp only[aW,bj,bm,dz];split
 ·exact out
 ·split
  ·exact out
  ·split
   ·exact out
   ·split
    ·exact out
    ·obtain⟨n,g1,g2⟩:=WR hp (x:=x) (y:=y) (by omega) (by omega) (by omega) (by omega)
     rw[g2]
     repeat(first|rw[ab (by omega)]|rw[ak (by omega)])
     exact⟨_,rfl⟩
section
variable {p:Pl}{pol fill:Int}{kw kh:Nat}{ws:List Int}{sh out:Int}
theorem aFM(k:Nat):Int.tdiv (k:Int) 2=((k/2:Nat):Int):=by rw[dn (by omega)];rfl
theorem aCf(hp:p.Ok)(hc:aoN p.M kw kh ws sh out)(x y:Nat)(hx:x<p.W)(hy:y<p.H):
  ∃s,aO (fun S=>pW NN (.i p.W) (.i p.H) (.i p.M) (.l (il p.pix)) (.i pol) (.i fill) (.i kw) (.i kh) (.l (il ws)) (.i y) (.i x) (gg S 0) (gg S 1)) NN [.i 0,.i 0]=some (.brk 0 [.i s]):=by
 have hw2:=hp.w2;have hh2:=hp.h2;obtain⟨k1,k2,l1,l2,len,-⟩:=hc;have sk:∀j s,j<kh->∃s',aO (fun S=>xO NN (.i p.W) (.i p.H) (.i p.M) (.l (il p.pix)) (.i pol) (.i fill) (.i kw) (.i kh) (.l (il ws)) (.i y) (.i x) (.i (j:Int)) (gg S 0) (gg S 1)) NN [.i s,.i 0]=some (.brk 0 [.i s']):=fun j s hj=>by
  obtain⟨k,X,e,hk,s',rfl⟩:=cX (b:=fun S=>xO NN (.i p.W) (.i p.H) (.i p.M) (.l (il p.pix)) (.i pol) (.i fill) (.i kw) (.i kh) (.l (il ws)) (.i y) (.i x) (.i (j:Int)) (gg S 0) (gg S 1)) (fun i S=>∃s,S=[.i s,.i (i:Int)]) (fun k X=>k=0/\∃s,X=[.i s]) kw (fun i S hi ⟨s,hS⟩=>by
   subst hS
   left
   have e1:(j+1)*kw<=kw*kh:=by rw[bU kw kh];exact bM _ (by omega)
   have e2:(j+1)*kw=j*kw+kw:=by rw[co,dd]
   have e3:kw*kh<=9*9:=eu k2 l2;unfold xO;simp only[aW,bj,bm,aFM,len,<-aX];generalize j*kw=q at e2;generalize kw*kh=m at e1 e3;generalize(j+1)*kw=q2 at e1 e2;have a1:aH (q:Int)=q:=az (by omega) (by omega)
   have a2:aH ((q:Int)+i)=q+i:=az (by omega) (by omega)
   have a3:aH ((x:Int)+i)=x+i:=az (by omega) (by omega)
   have a4:aH ((y:Int)+j)=y+j:=az (by omega) (by omega)
   have a5:aH ((kw/2:Nat):Int)=(kw/2:Nat):=az (by omega) (by omega)
   have a6:aH ((kh/2:Nat):Int)=(kh/2:Nat):=az (by omega) (by omega)
   have a7:aH ((x:Int)+i-(kw/2:Nat))=x+i-(kw/2:Nat):=az (by omega) (by omega)
   have a8:aH ((y:Int)+j-(kh/2:Nat))=y+j-(kh/2:Nat):=az (by omega) (by omega)
   simp only[a1,a2,a3,a4,a5,a6,a7,a8];obtain⟨v,hv⟩:=acK hp (pol:=pol) (fill:=fill) (x+i-(kw/2:Nat)) (y+j-(kh/2:Nat)) (by omega) (by omega) (by omega) (by omega)
   repeat(first|rw[ab (by omega)]|rw[ak (by omega)])
   rw[hv,ag (by rfl)]
   unfold acJ;simp only[aW];have a9:aH ((i:Int)+1)=((i+1:Nat):Int):=az (by omega) (by omega)
   rw[a9];exact⟨_,rfl,_,rfl⟩) (fun S ⟨s,hS⟩=>by
   subst hS;unfold xO;simp only[aW,bj]
   repeat(first|rw[ab (by omega)]|rw[ak (by omega)])
   exact⟨_,_,rfl,rfl,_,rfl⟩) kw 0 NN [.i s,.i ((0:Nat):Int)] (by omega) (cC (by omega)) ⟨s,rfl⟩
  subst hk;exact⟨s',e⟩
 obtain⟨k,X,e,hk,s',rfl⟩:=cX (b:=fun S=>pW NN (.i p.W) (.i p.H) (.i p.M) (.l (il p.pix)) (.i pol) (.i fill) (.i kw) (.i kh) (.l (il ws)) (.i y) (.i x) (gg S 0) (gg S 1)) (fun j S=>∃s,S=[.i s,.i (j:Int)]) (fun k X=>k=0/\∃s,X=[.i s]) kh (fun j S hj ⟨s,hS⟩=>by
  subst hS
  left
  obtain⟨s2,h2⟩:=sk j s hj;unfold pW;simp only[aW,bj]
  repeat(first|rw[ab (by omega)]|rw[ak (by omega)])
  rw[h2];simp only[bi];unfold acI;simp only[aW];have a9:aH ((j:Int)+1)=((j+1:Nat):Int):=az (by omega) (by omega)
  rw[a9];exact⟨_,rfl,_,rfl⟩) (fun S ⟨s,hS⟩=>by
  subst hS;unfold pW;simp only[aW,bj]
  repeat(first|rw[ab (by omega)]|rw[ak (by omega)])
  exact⟨_,_,rfl,rfl,_,rfl⟩) kh 0 NN [.i 0,.i ((0:Nat):Int)] (by omega) (cC (by omega)) ⟨0,rfl⟩
 subst hk;exact⟨s',e⟩
theorem ahi(hp:p.Ok)(he:qa pol fill p.M)(hc:aoN p.M kw kh ws sh out):∃F:Nat->Nat->Int,(∀x y,0<=F x y/\F x y<=out)/\∀r:p8,r.In p.W p.H->
  zR [.i p.W,.i p.H,.i p.M,.l (il p.pix),.i pol,.i fill,.i kw,.i kh,.l (il ws),.i sh,.i out,.i r.x0,.i r.y0,.i r.x1,.i r.y1]=some (hZ F out r):=by
 have ho:0<=out:=by have:=hc.o1;omega
 have hs:∀x y:Nat,∃s:Int,x<p.W->y<p.H->aO (fun S=>pW NN (.i p.W) (.i p.H) (.i p.M) (.l (il p.pix)) (.i pol) (.i fill) (.i kw) (.i kh) (.l (il ws)) (.i y) (.i x) (gg S 0) (gg S 1)) NN [.i 0,.i 0]=some (.brk 0 [.i s]):=fun x y=>by
  by_cases h:x<p.W/\y<p.H
  ·obtain⟨s,hs⟩:=aCf (pol:=pol) (fill:=fill) hp hc x y h.1 h.2;exact⟨s,fun _ _=>hs⟩
  ·exact⟨0,fun h1 h2=>absurd ⟨h1,h2⟩ h⟩
 refine⟨fun x y=>gO (eL (hs x y).choose sh) out,fun x y=>sw _ ho,fun r hr=>?_⟩
 have hS:=fun x y=>(hs x y).choose_spec
 generalize(fun x y=>(hs x y).choose)=G at hS
 have hS:∀x y:Nat,x<p.W->y<p.H->aO (fun S=>pW NN (.i p.W) (.i p.H) (.i p.M) (.l (il p.pix)) (.i pol) (.i fill) (.i kw) (.i kh) (.l (il ws)) (.i y) (.i x) (gg S 0) (gg S 1)) NN [.i 0,.i 0]=some (.brk 0 [.i (hs x y).choose]):=fun x y=>(hs x y).choose_spec
 generalize hF:(fun x y=>gO (eL (hs x y).choose sh) out)=F
 obtain⟨z1,z2,z3⟩:=hr.sz;obtain⟨r1,r2,r3,r4,r5,r6⟩:=id hr;refine aK (N:=NN) ?_;rw[anE];refine bI ?_;unfold arU;simp only[qb];rw[dV hp,ag (by rfl)]
 unfold Vd;simp only[aW,bj,Int.reduceEq];rw[mS he,ag (by rfl)]
 unfold Ve;simp only[aW,bj,Int.reduceEq];rw[IH hc,ag (by rfl)]
 unfold Vf;simp only[aW,bj];rw[jA hr,ag (by rfl)]
 unfold Vg;simp only[aW,bj];rw[jg hr,ag (by rfl)]
 unfold Vh;simp only[aW,bj,Int.reduceEq];have a1:aH ((r.x1:Int)-r.x0)=((r.x1-r.x0:Nat):Int):=by rw[z1];exact az (by omega) (by omega)
 have a2:aH ((r.y1:Int)-r.y0)=((r.y1-r.y0:Nat):Int):=by rw[z2];exact az (by omega) (by omega)
 simp only[a1,a2,<-aX];have a3:aH (((r.x1-r.x0)*(r.y1-r.y0):Nat):Int)=((r.x1-r.x0)*(r.y1-r.y0):Nat):=az (by omega) (by omega)
 rw[a3]
 repeat(first|rw[ab (by omega)]|rw[ak (by omega)])
 generalize hw:r.x1-r.x0=w at *;generalize hh:r.y1-r.y0=h at *;have row:∀b,b<h->aO (fun S=>E4 NN (.i p.W) (.i p.H) (.i p.M) (.l (il p.pix)) (.i pol) (.i fill) (.i kw) (.i kh) (.l (il ws)) (.i sh) (.i out) (.i r.x1) (.i ((r.y0+b:Nat):Int)) (gg S 0) (gg S 1)) NN [.i r.x0,.l (il (cB w (fun a b=>F (r.x0+a) (r.y0+b)) (b*w)))]=some (.brk 0 [.l (il (cB w (fun a b=>F (r.x0+a) (r.y0+b)) ((b+1)*w)))]):=fun b hb=>by
  have hbw:(b+1)*w<=w*h:=by rw[bU w h];exact bM _ (by omega)
  have hbw2:(b+1)*w=b*w+w:=by rw[co,dd]
  refine bJ (fun a=>[.i ((r.x0+a:Nat):Int),.l (il (cB w (fun a b=>F (r.x0+a) (r.y0+b)) (b*w+a)))]) w NN (cC (by omega)) (fun a ha=>?_) ?_
  ·unfold E4;simp only[aW,bj]
   repeat(first|rw[ab (by omega)]|rw[ak (by omega)])
   rw[hS _ _ (by omega) (by omega)]
   simp only[bi];unfold acF;simp only[aW];rw[gC,ag (by rfl)]
   unfold acG;simp only[aW];rw[pU,ag (by rfl)]
   unfold acH;simp only[aW,bj,bm,eJ]
   repeat(first|rw[ab (by omega)]|rw[ak (by omega)])
   have a4:aH (((r.x0+a:Nat):Int)+1)=((r.x0+(a+1):Nat):Int):=az (by omega) (by omega)
   have a5:cB w (fun a b=>F (r.x0+a) (r.y0+b)) (b*w+(a+1))=cB w (fun a b=>F (r.x0+a) (r.y0+b)) (b*w+a)++[F (r.x0+a) (r.y0+b)]:=mw w _ a b ha
   rw[a4,a5,<-jI,<-hF];rfl
  ·unfold E4;simp only[aW,bj]
   repeat(first|rw[ab (by omega)]|rw[ak (by omega)])
   rw[hbw2]
 have hl:aO (fun S=>zS NN (.i p.W) (.i p.H) (.i p.M) (.l (il p.pix)) (.i pol) (.i fill) (.i kw) (.i kh) (.l (il ws)) (.i sh) (.i out) (.i r.x0) (.i r.x1) (.i r.y1) (gg S 0) (gg S 1)) NN [.i r.y0,.l (List.replicate (Int.toNat 0) (.i 0))]=some (.brk 0 [.l (il (cB w (fun a b=>F (r.x0+a) (r.y0+b)) (h*w)))]):=by
  have e0:List.replicate (Int.toNat 0) (PD.i 0)=il (cB w (fun a b=>F (r.x0+a) (r.y0+b)) (0*w)):=by rw[dc];rfl
  rw[e0];refine bJ (fun b=>[.i ((r.y0+b:Nat):Int),.l (il (cB w (fun a b=>F (r.x0+a) (r.y0+b)) (b*w)))]) h NN (cC (by omega)) (fun b hb=>?_) ?_
  ·unfold zS;simp only[aW,bj]
   repeat(first|rw[ab (by omega)]|rw[ak (by omega)])
   rw[row b hb];simp only[bi];unfold acE;simp only[aW];have a4:aH (((r.y0+b:Nat):Int)+1)=((r.y0+(b+1):Nat):Int):=az (by omega) (by omega)
   rw[a4]
  ·unfold zS;simp only[aW,bj]
   repeat(first|rw[ab (by omega)]|rw[ak (by omega)])
 rw[hl];simp only[bi];unfold Vi;simp only[aW,a1,a2];have hfin:ip F r=cB w (fun a b=>F (r.x0+a) (r.y0+b)) (h*w):=by unfold ip;rw[hw,hh,bU]
 unfold hZ;rw[hfin,hw,hh]
end
def jb{α:Type}(n:Nat)(f:Nat->α)(d:α)(k:Nat):List α:=(List.range n).map fun i=>if i<k then f i else d
theorem ge{α:Type}(n:Nat)(f:Nat->α)(d:α)(k:Nat):(jb n f d k).length=n:=by simp[jb]
theorem jZ{α:Type}(n:Nat)(f:Nat->α)(d:α):jb n f d 0=List.replicate n d:=by
 apply cF;intro i;unfold jb;rw[aM,dh]
 by_cases h:i<n
 ·rw[cI h,ab h];rfl
 ·rw[bp (by simp;omega),ak h];rfl
theorem oZ{α:Type}{n:Nat}(f:Nat->α)(d:α){k i:Nat}(h:i<n):(jb n f d k)[i]?=some (if i<k then f i else d):=by unfold jb;rw[aM,cI h];rfl
theorem gd{α:Type}{n:Nat}(f:Nat->α)(d:α){k:Nat}(h:k<n):(jb n f d k).set k (f k)=jb n f d (k+1):=by
 apply cF;intro i;rw[dF]
 by_cases hi:k=i
 ·subst hi;rw[ab rfl,ab (by rw[ge];exact h),oZ f d h,ab (by omega)]
 ·rw[ak hi]
  by_cases hn:i<n
  ·rw[oZ f d hn,oZ f d hn]
   by_cases h2:i<k
   ·rw[ab h2,ab (by omega)]
   ·rw[ak h2,ak (by omega)]
  ·rw[bp (by rw[ge];omega),bp (by rw[ge];omega)]
theorem zN{α:Type}(n:Nat)(f:Nat->α)(d:α):jb n f d n=(List.range n).map f:=by
 unfold jb;refine cg fun i hi=>?_
 rw[ab (dv.1 hi)]
theorem h_(xs:List Int)(k:Nat)(v:Int):cM (il xs) (k:Int) 1 0 (.i v)=il (xs.set k v):=by unfold cM;rw[au,ed,ch];simp[il,List.map_set]
theorem nZ(n:Nat)(f:Nat->Int){i:Nat}(h:i<n):((List.range n).map f).getD i 0=f i:=by rw[ae,aM,cI h];rfl
def ss(ws:List Int)(f:Nat->Int):Nat->Int
 |0=>0
 |i+1=>aH (ss ws f i+aH (ws.getD i 0*f i))
structure ais(m:Int)(row col:List Int)(s1 s2 out:Int):Prop where
 r2:row.length<=9
 c2:col.length<=9
 wr:fm row=0
 wc:fm col=0
 a1:0<=s1
 a2:s1<=24
 b1:0<=s2
 b2:s2<=24
 m1:1<=m
 m2:m<=4294967296
 o1:1<=out
 o2:out<=4294967296
 br:(du row 0 m).2.2=true
 bc:(du col (eL (du row 0 m).1 s1) (eL (du row 0 m).2.1 s1)).2.2=true
theorem ais.r1{m:Int}{row col:List Int}{s1 s2 out:Int}(h:ais m row col s1 s2 out):1<=row.length/\1<=col.length:=⟨(m0 h.wr).1,(m0 h.wc).1⟩
theorem HL{m:Int}{row col:List Int}{s1 s2 out:Int}(h:ais m row col s1 s2 out):A4 [.i m,.l (il row),.l (il col),.i s1,.i s2,.i out]=some [.i 0]:=by
 have h1:=h.r1;obtain⟨r2,c2,wr,wc,a1,a2,b1,b2,m1,m2,o1,o2,br,bc⟩:=h;have hb:du row 0 m=((du row 0 m).1,(du row 0 m).2.1,true):=by rw[<-br]
 have hc:du col (eL (du row 0 m).1 s1) (eL (du row 0 m).2.1 s1)=((du col (eL (du row 0 m).1 s1) (eL (du row 0 m).2.1 s1)).1,(du col (eL (du row 0 m).1 s1) (eL (du row 0 m).2.1 s1)).2.1,true):=by rw[<-bc]
 refine aK (N:=NN) ?_;rw[aeF];refine bI ?_;unfold aiP;simp only[aW,bj,bm]
 repeat(first|rw[ab (by omega)]|rw[ak (by omega)])
 rw[oI wr,ag (by rfl)]
 unfold Sw;simp only[aW,bj];rw[oI wc,ag (by rfl)]
 unfold Sx;simp only[aW,bj]
 repeat(first|rw[ab (by omega)]|rw[ak (by omega)])
 rw[nu hb,ag (by rfl)]
 unfold SA;simp only[aW,bj,Int.reduceEq];rw[gC,ag (by rfl)]
 unfold SD;simp only[aW];rw[gC,ag (by rfl)]
 unfold SE;simp only[aW];rw[nu hc,ag (by rfl)]
 unfold SF;simp only[aW,bj,Int.reduceEq]
theorem Vp(n:Nat)(pol:Int)(hn:1<=n)(hn2:n<=128):∃f g:Int->Int,∀x,-1000<=x->x<=1000->gw [.i x,.i n,.i pol]=some [.i (f x),.i (g x)]/\(g x=0\/g x=1/\0<=f x/\f x<n):=by
 have h:∀x:Int,∃p:Int×Int,-1000<=x->x<=1000->gw [.i x,.i n,.i pol]=some [.i p.1,.i p.2]/\(p.2=0\/p.2=1/\0<=p.1/\p.1<n):=fun x=>by
  by_cases hx: -1000<=x/\x<=1000
  ·obtain⟨i,ok,h1,h2⟩:=mT x n pol hn hn2 (by omega) (by omega)
   exact⟨(i,ok),fun _ _=>⟨h1,by simp only;omega⟩⟩
  ·exact⟨(0,0),fun h1 h2=>absurd ⟨h1,h2⟩ hx⟩
 obtain⟨F,hF⟩:=Classical.axiomOfChoice h;exact⟨fun x=>(F x).1,fun x=>(F x).2,fun x h1 h2=>hF x h1 h2⟩
theorem V5{p:Pl}(hp:p.Ok)(pol fill:Int):∃px:Int->Int->Int,∀ (x y:Int) (count:Nat),-500<=x->x<=500-> -1000<=y->y<=1000->count<=400->
  HK [.i p.W,.i p.H,.i p.M,.l (il p.pix),.i pol,.i fill,.i x,.i y,.i count]=some [.l (il ((List.range count).map fun k:Nat=>px (x+k) y))]:=by
 obtain⟨fx,gx,hx⟩:=Vp p.W pol hp.w1 hp.w2;obtain⟨fy,gy,hy⟩:=Vp p.H pol hp.h1 hp.h2;refine⟨fun X Y=>if gx X≠0/\gy Y≠0 then p.pix.getD (aH (aH (fy Y*p.W)+fx X)).toNat 0 else fill,fun x y count x1 x2 y1 y2 c2=>?_⟩
 obtain⟨hy1,hy2⟩:=hy y y1 y2;generalize hf:(fun k:Nat=>if gx (x+k)≠0/\gy y≠0 then p.pix.getD (aH (aH (fy y*p.W)+fx (x+k))).toNat 0 else fill)=f
 refine aK (N:=NN) ?_;rw[Zu];refine bI ?_;unfold Zw;simp only[aW,bj]
 repeat(first|rw[ab (by omega)]|rw[ak (by omega)])
 rw[hy1,ag (by rfl)]
 unfold KM;simp only[aW,au,gB];have hl:aO (fun S=>tc NN (.i p.W) (.l (il p.pix)) (.i pol) (.i fill) (.i x) (.i count) (.i (fy y)) (.i (gy y)) (gg S 0) (gg S 1)) NN [.l (il (List.replicate count 0)),.i 0]=some (.brk 0 [.l (il (jb count f 0 count))]):=by
  rw[<-jZ count f 0];refine bJ (fun k=>[.l (il (jb count f 0 k)),.i (k:Int)]) count NN (cC (by omega)) (fun k hk=>?_) ?_
  ·obtain⟨hx1,hx2⟩:=hx (x+k) (by omega) (by omega)
   unfold tc;simp only[aW,bj,au,gB,bm,cR];rw[ab (by omega),az (x:=x+k) (by omega) (by omega),hx1,ag (by rfl)]
   unfold KO;have w3:aH ((k:Int)+1)=((k+1:Nat):Int):=az (by omega) (by omega)
   simp only[aW,bj,bm,dz,ge,w3,h_];have hfk:f k=if gx (x+k)≠0/\gy y≠0 then p.pix.getD (aH (aH (fy y*p.W)+fx (x+k))).toNat 0 else fill:=by rw[<-hf]
   by_cases h1:gx (x+k)=0
   ·rw[ak (dP h1),ab (by omega),ab (by omega)]
    rw[ak (fun h=>h.1 h1)]at hfk
    rw[<-hfk,gd f 0 hk]
   ·rw[ab h1]
    by_cases h2:gy y=0
    ·rw[ak (dP h2),ab (by omega),ab (by omega)]
     rw[ak (fun h=>h.2 h2)]at hfk
     rw[<-hfk,gd f 0 hk]
    ·rw[ab h2];rw[ab ⟨h1,h2⟩]at hfk;obtain⟨n,g1,g2⟩:=WR hp (x:=fx (x+k)) (y:=fy y) (by omega) (by omega) (by omega) (by omega)
     rw[g2,au]at hfk;rw[g2,ab (by omega),ab (by omega),ab (by omega),ab (by omega),au,<-hfk,gd f 0 hk]
  ·unfold tc;simp only[aW,bj,au,gB,bm,cR];rw[ak (by omega)]
 rw[hl,zN];simp only[bi];unfold KN;simp only[aW]
@[reducible] def Is(xs:List (List Int)):List PD:=xs.map fun l=>PD.l (il l)
theorem Cn(xs:List (List Int)):bH (Is xs) 1=(xs.length:Int):=by simp[bH]
theorem arq(xs:List (List Int)){n:Nat}(h:n<xs.length):(el (Is xs) (n:Int) 1 0).q=il (xs.getD n []):=by unfold el;rw[au,ed,ch,ae,ae,aM,aj h];rfl
theorem apn(xs:List (List Int))(k:Nat)(v:List Int):cM (Is xs) (k:Int) 1 0 (.l (il v))=Is (xs.set k v):=by unfold cM;rw[au,ed,ch];simp[Is,List.map_set]
theorem awe(n:Nat):(List.replicate n ([]++[PD.l []])).flatten=Is (List.replicate n []):=by
 induction n with
 |zero=>rfl
 |succ n ih=>rw[List.replicate_succ,List.flatten_cons,ih,List.replicate_succ];rfl
theorem awU(xs:List Int){n:Nat}(h:xs.length=n):iv (il xs) 0 (n:Int) 1=il xs:=by
 rw[oK,au,cf (by omega)]
 rfl
section
variable {p:Pl}{pol fill:Int}{row col:List Int}{s1 s2 out:Int}
theorem aeD(hp:p.Ok)(he:qa pol fill p.M)(hc:ais p.M row col s1 s2 out):∃F:Nat->Nat->Int,(∀x y,0<=F x y/\F x y<=out)/\∀r:p8,r.In p.W p.H->
  yq [.i p.W,.i p.H,.i p.M,.l (il p.pix),.i pol,.i fill,.l (il row),.l (il col),.i s1,.i s2,.i out,.i r.x0,.i r.y0,.i r.x1,.i r.y1]=some (hZ F out r):=by
 have ho:=hc.o1;obtain⟨lr1,lc1⟩:=hc.r1;have lr2:=hc.r2;have lc2:=hc.c2;obtain⟨px,hpx⟩:=V5 hp pol fill;obtain⟨hm,hmid⟩:∃hm:Int->Int->Int,hm=fun X Y=>eL (ss row (fun i=>px (X-((row.length/2:Nat):Int)+i) Y) row.length) s1:=⟨_,rfl⟩
 refine⟨fun X Y=>gO (eL (ss col (fun j=>hm X ((Y:Int)-((col.length/2:Nat):Int)+j)) col.length) s2) out,fun x y=>sw _ (by omega),fun r hr=>?_⟩
 generalize hF:(fun X Y:Nat=>gO (eL (ss col (fun j=>hm X ((Y:Int)-((col.length/2:Nat):Int)+j)) col.length) s2) out)=F
 obtain⟨z1,z2,z3⟩:=hr.sz;obtain⟨r1,r2,r3,r4,r5,r6⟩:=id hr;refine aK (N:=NN) ?_;rw[alE];refine bI ?_;unfold apa;simp only[qb];rw[dV hp,ag (by rfl)]
 unfold Sm;simp only[aW,bj,Int.reduceEq];rw[mS he,ag (by rfl)]
 unfold Sn;simp only[aW,bj,Int.reduceEq];rw[HL hc,ag (by rfl)]
 unfold So;simp only[aW,bj];rw[jA hr,ag (by rfl)]
 unfold Sp;simp only[aW,bj];rw[jg hr,ag (by rfl)]
 unfold Sq;have a1:aH ((r.x1:Int)-r.x0)=((r.x1-r.x0:Nat):Int):=by rw[z1];exact az (by omega) (by omega)
 have a2:aH ((r.y1:Int)-r.y0)=((r.y1-r.y0:Nat):Int):=by rw[z2];exact az (by omega) (by omega)
 generalize hw:r.x1-r.x0=w at *;generalize hh:r.y1-r.y0=h at *;obtain⟨nm,hnm⟩:∃nm:Nat,nm=h+col.length-1:=⟨_,rfl⟩;have a3:aH (aH ((h:Int)+(col.length:Int))-1)=(nm:Int):=by rw[az (x:=(h:Int)+col.length) (by omega) (by omega),az (by omega) (by omega)];omega
 have a4:aH (aH ((w:Int)+(row.length:Int))-1)=((w+row.length-1:Nat):Int):=by rw[az (x:=(w:Int)+row.length) (by omega) (by omega),az (by omega) (by omega)];omega
 have a5:aH (((row.length/2:Nat):Int))=((row.length/2:Nat):Int):=az (by omega) (by omega)
 have a6:aH (((col.length/2:Nat):Int))=((col.length/2:Nat):Int):=az (by omega) (by omega)
 simp only[aW,bj,Int.reduceEq,bm,a2,a3,au,awe];rw[ab (by omega),ab (by omega)]
 obtain⟨mr,hmr⟩:∃mr:Nat->List Int,mr=fun k:Nat=>(List.range w).map fun x:Nat=>hm ((r.x0+x:Nat):Int) ((r.y0:Int)-((col.length/2:Nat):Int)+k):=⟨_,rfl⟩
 have mid:aO (fun S=>Di NN (.i p.W) (.i p.H) (.i p.M) (.l (il p.pix)) (.i pol) (.i fill) (.l (il row)) (.l (il col)) (.i s1) (.i r.x0) (.i r.y0) (.i r.x1) (.i r.y1) (gg S 0) (gg S 1)) NN [.l (Is (List.replicate nm [])),.i 0]=some (.brk 0 [.l (Is (jb nm mr [] nm))]):=by
  rw[<-jZ nm mr []];refine bJ (fun k=>[.l (Is (jb nm mr [] k)),.i (k:Int)]) nm NN (cC (by omega)) (fun k hk=>?_) ?_
  ·have b1:aH ((r.x0:Int)-((row.length/2:Nat):Int))=r.x0-((row.length/2:Nat):Int):=az (by omega) (by omega)
   have b2:aH ((r.y0:Int)-((col.length/2:Nat):Int))=r.y0-((col.length/2:Nat):Int):=az (by omega) (by omega)
   have b3:aH ((r.y0:Int)-((col.length/2:Nat):Int)+k)=r.y0-((col.length/2:Nat):Int)+k:=az (by omega) (by omega)
   unfold Di;simp only[aW,bj,bm,aFM,a1,a2,a3,a4,a5,a6,b1,b2,b3];rw[ab (by omega),hpx _ _ _ (by omega) (by omega) (by omega) (by omega) (by omega),ag (by rfl)]
   generalize hY:(r.y0:Int)-((col.length/2:Nat):Int)+k=Y;generalize hsrc:(List.range (w+row.length-1)).map (fun j:Nat=>px ((r.x0:Int)-((row.length/2:Nat):Int)+j) Y)=src
   have hsl:src.length=w+row.length-1:=by rw[<-hsrc];simp
   have hsg:∀j,j<w+row.length-1->src.getD j 0=px ((r.x0:Int)-((row.length/2:Nat):Int)+j) Y:=fun j hj=>by rw[<-hsrc];exact nZ _ _ hj
   have hmk:mr k=(List.range w).map fun x:Nat=>hm ((r.x0+x:Nat):Int) Y:=by rw[hmr,<-hY]
   unfold Zq;simp only[aW,bj,bm,Cn,ge,a1,a2,a3,au,gB];rw[ab (by omega),ab (by omega),ab (by omega),ab (by omega),ab (by omega)]
   have hrow:aO (fun S=>Dj NN (.l (il row)) (.i s1) (.i r.x0) (.i r.x1) (.l (il src)) (gg S 0) (gg S 1)) NN [.l (il (List.replicate w 0)),.i 0]=some (.brk 0 [.l (il (jb w (fun x=>hm ((r.x0+x:Nat):Int) Y) 0 w))]):=by
    rw[<-jZ w (fun x=>hm ((r.x0+x:Nat):Int) Y) 0]
    refine bJ (fun x=>[.l (il (jb w (fun x=>hm ((r.x0+x:Nat):Int) Y) 0 x)),.i (x:Int)]) w NN (cC (by omega)) (fun x hx=>?_) ?_
    ·unfold Dj;simp only[aW,bj,bm,a1,au,gB,cR];rw[ab (by omega)]
     have hdot:aO (fun S=>Dk NN (.l (il row)) (.i r.x0) (.i r.x1) (.l (il src)) (.l (il (jb w (fun x=>hm ((r.x0+x:Nat):Int) Y) 0 x))) (.i (x:Int)) (gg S 0) (gg S 1)) NN [.i 0,.i 0]=some (.brk 0 [.i (ss row (fun i=>px (((r.x0+x:Nat):Int)-((row.length/2:Nat):Int)+i) Y) row.length)]):=by
      refine bJ (fun i=>[.i (ss row (fun i=>px (((r.x0+x:Nat):Int)-((row.length/2:Nat):Int)+i) Y) i),.i (i:Int)]) row.length NN (cC (by omega)) (fun i hi=>?_) ?_
      ·have c1:aH ((x:Int)+i)=((x+i:Nat):Int):=az (by omega) (by omega)
       have c2:aH ((i:Int)+1)=((i+1:Nat):Int):=az (by omega) (by omega)
       unfold Dk;simp only[aW,bj,bm,dz,a1,c1,c2,au,gB,cR,ge];rw[ab (by omega),ab (by omega),ab (by omega),ab (by omega),ab (by omega),hsg _ (by omega)]
       have e:(r.x0:Int)-((row.length/2:Nat):Int)+((x+i:Nat):Int)=((r.x0+x:Nat):Int)-((row.length/2:Nat):Int)+i:=by omega
       rw[e];rfl
      ·unfold Dk;simp only[aW,bj,bm,a1,au,gB,cR,ge];rw[ak (by omega),ab (by omega)]
     rw[hdot];simp only[bi];unfold Zs;simp only[aW];rw[gC,ag (by rfl)]
     unfold Zt;have c2:aH ((x:Int)+1)=((x+1:Nat):Int):=az (by omega) (by omega)
     simp only[aW,bj,bm,a1,c2,au,gB,cR,ge,h_];rw[ab (by omega),ab (by omega),ab (by omega)]
     have hset:=gd (fun x:Nat=>hm ((r.x0+x:Nat):Int) Y) 0 hx
     rw[<-hset];simp only[hmid]
    ·unfold Dj;simp only[aW,bj,bm,a1,au,gB,cR,ge];rw[ak (by omega),ab (by omega)]
   rw[hrow];simp only[bi];unfold Zr;have c2:aH ((k:Int)+1)=((k+1:Nat):Int):=az (by omega) (by omega)
   simp only[aW,bj,bm,a1,c2,au,gB,cR,ge];rw[ab (by omega),awU _ (ge ..),zN,<-hmk,apn,gd mr [] hk]
  ·unfold Di;simp only[aW,bj,bm,a2,a3];rw[ak (by omega)]
 rw[mid];simp only[bi];unfold Sr;simp only[aW,bj,a1,a2,<-aX];have a8:aH ((w*h:Nat):Int)=(w*h:Nat):=az (by omega) (by omega)
 rw[a8,ab (by omega),ab (by omega),zN]
 generalize hmm:(List.range nm).map mr=mm;have hml:mm.length=nm:=by rw[<-hmm];simp
 have hmg:∀k,k<nm->mm.getD k []=mr k:=fun k hk=>by
  rw[<-hmm,ae,aM,cI hk];rfl
 have hmrl:∀k,(mr k).length=w:=fun k=>by rw[hmr];simp
 have rowP:∀b,b<h->aO (fun S=>yt NN (.l (il col)) (.i s2) (.i out) (.i r.x0) (.i r.y0) (.i r.x1) (.i r.y1) (.l (Is mm)) (.i (b:Int)) (gg S 0) (gg S 1)) NN [.i 0,.l (il (cB w (fun a b=>F (r.x0+a) (r.y0+b)) (b*w)))]=some (.brk 0 [.l (il (cB w (fun a b=>F (r.x0+a) (r.y0+b)) ((b+1)*w)))]):=fun b hb=>by
  have hbw:(b+1)*w<=w*h:=by rw[bU w h];exact bM _ (by omega)
  have hbw2:(b+1)*w=b*w+w:=by rw[co,dd]
  refine bJ (fun a=>[.i (a:Int),.l (il (cB w (fun a b=>F (r.x0+a) (r.y0+b)) (b*w+a)))]) w NN (cC (by omega)) (fun a ha=>?_) ?_
  ·unfold yt;simp only[aW,bj,a1];rw[ab (by omega)]
   have hdot:aO (fun S=>Dh NN (.l (il col)) (.i r.y0) (.i r.y1) (.l (Is mm)) (.i (b:Int)) (.i (a:Int)) (gg S 0) (gg S 1)) NN [.i 0,.i 0]=some (.brk 0 [.i (ss col (fun j=>hm ((r.x0+a:Nat):Int) (((r.y0+b:Nat):Int)-((col.length/2:Nat):Int)+j)) col.length)]):=by
    refine bJ (fun j=>[.i (ss col (fun j=>hm ((r.x0+a:Nat):Int) (((r.y0+b:Nat):Int)-((col.length/2:Nat):Int)+j)) j),.i (j:Int)]) col.length NN (cC (by omega)) (fun j hj=>?_) ?_
    ·have c1:aH ((b:Int)+j)=((b+j:Nat):Int):=az (by omega) (by omega)
     have c2:aH ((j:Int)+1)=((j+1:Nat):Int):=az (by omega) (by omega)
     unfold Dh;simp only[aW,bj,bm,dz,Cn,hml,a2,a3,c1,c2,au];rw[arq mm (by rw[hml];omega),hmg _ (by omega)]
     simp only[bm,dz,hmrl,au];rw[ab (by omega),ab (by omega),ab (by omega),ab (by omega),ab (by omega),ab (by omega),ab (by omega),ab (by omega)]
     have e1:(mr (b+j)).getD a 0=hm ((r.x0+a:Nat):Int) (((r.y0+b:Nat):Int)-((col.length/2:Nat):Int)+j):=by
      rw[hmr,nZ _ _ ha]
      congr 1
      omega
     rw[e1];rfl
    ·unfold Dh;simp only[aW,bj,bm];rw[ak (by omega)]
   rw[hdot];simp only[bi];unfold Su;simp only[aW];rw[gC,ag (by rfl)]
   unfold Sv;simp only[aW];rw[pU,ag (by rfl)]
   unfold Zo;have c2:aH ((a:Int)+1)=((a+1:Nat):Int):=az (by omega) (by omega)
   simp only[aW,bj,bm,eJ,c2];rw[ab (by omega)]
   have a5':cB w (fun a b=>F (r.x0+a) (r.y0+b)) (b*w+(a+1))=cB w (fun a b=>F (r.x0+a) (r.y0+b)) (b*w+a)++[F (r.x0+a) (r.y0+b)]:=mw w _ a b ha
   rw[a5',<-jI,<-hF];rfl
  ·unfold yt;simp only[aW,bj,a1];rw[ak (by omega),hbw2]
 have hl:aO (fun S=>yr NN (.l (il col)) (.i s2) (.i out) (.i r.x0) (.i r.y0) (.i r.x1) (.i r.y1) (.l (Is mm)) (gg S 0) (gg S 1)) NN [.i 0,.l (List.replicate (Int.toNat 0) (.i 0))]=some (.brk 0 [.l (il (cB w (fun a b=>F (r.x0+a) (r.y0+b)) (h*w)))]):=by
  have e0:List.replicate (Int.toNat 0) (PD.i 0)=il (cB w (fun a b=>F (r.x0+a) (r.y0+b)) (0*w)):=by rw[dc];rfl
  rw[e0];refine bJ (fun b=>[.i (b:Int),.l (il (cB w (fun a b=>F (r.x0+a) (r.y0+b)) (b*w)))]) h NN (cC (by omega)) (fun b hb=>?_) ?_
  ·unfold yr;simp only[aW,bj,a2];rw[ab (by omega),rowP b hb]
   simp only[bi];unfold St;have c2:aH ((b:Int)+1)=((b+1:Nat):Int):=az (by omega) (by omega)
   simp only[aW,c2]
  ·unfold yr;simp only[aW,bj,a2];rw[ak (by omega)]
 rw[hl];simp only[bi];unfold Ss;simp only[aW,a1,a2];have hfin:ip F r=cB w (fun a b=>F (r.x0+a) (r.y0+b)) (h*w):=by unfold ip;rw[hw,hh,bU]
 unfold hZ;rw[hfin,hw,hh]
end
section
variable {α:Type}{enc:α->List PD}{es:Nat}
theorem S9(he:∀x,(enc x).length=es):∀ (xs:List α) (n:Nat),(recs enc xs).take (n*es)=recs enc (xs.take n)
 | [],n=>by simp[recs]
 |x::r,0=>by simp[recs]
 |x::r,n+1=>by
  have ih:=S9 he r n;unfold recs at ih ⊢;rw[fg,List.take_succ_cons,fg,List.take_append,he,co,dd,Nat.add_sub_cancel,ih,cf (by rw[he];omega)]
theorem S_(he:∀x,(enc x).length=es):∀ (xs:List α) (n:Nat),(recs enc xs).drop (n*es)=recs enc (xs.drop n)
 | [],n=>by simp[recs]
 |x::r,0=>by simp[recs]
 |x::r,n+1=>by
  have ih:=S_ he r n;unfold recs at ih ⊢;rw[fg,List.drop_succ_cons,List.drop_append,he,co,dd,Nat.add_sub_cancel,ih,List.drop_of_length_le (by rw[he];omega),bg]
theorem Dx(he:∀x,(enc x).length=es)(xs:List α)(lo hi:Nat):iv (recs enc xs) (lo:Int) (hi:Int) es=recs enc ((xs.take hi).drop lo):=by unfold iv;rw[au,au,S9 he,S_ he]
end
structure Tp where
 (first:Int) (ws:List Int)
@[reducible] def Tp.pd(t:Tp):List PD:=[.i t.first,.l (il t.ws)]
@[reducible] def fh(ts:List Tp):List PD:=recs Tp.pd ts
structure Tp.Ok(t:Tp):Prop where
 l1:1<=t.ws.length
 l2:t.ws.length<=8
 w:∀v∈t.ws,-32767<=v/\v<=32767
 f1: -128<=t.first
 f2:t.first<=256
theorem e_(ts:List Tp):bH (fh ts) 2=(ts.length:Int):=ti (enc:=Tp.pd) (es:=2) (fun _=>rfl) (by omega) ts
theorem qZ{ts:List Tp}{k:Nat}{t:Tp}(h:ts[k]?=some t):(el (fh ts) (k:Int) 2 0).n=t.first/\(el (fh ts) (k:Int) 2 1).q=il t.ws:=by
 rw[lO (enc:=Tp.pd) (es:=2) (fun _=>rfl) h (by omega),lO (enc:=Tp.pd) (es:=2) (fun _=>rfl) h (by omega)]
 exact⟨rfl,rfl⟩
theorem HH{ts:List Tp}{n:Nat}(n1:1<=n)(n2:n<=128)(t1:1<=ts.length)(t2:ts.length<=128)(h:∀t∈ts,t.Ok):AZ [.l (fh ts),.i n]=some [.i 0]:=by
 refine aK (N:=NN) ?_;rw[aeu];refine bI ?_;unfold aiL;simp only[aW,bj,e_]
 repeat(first|rw[ab (by omega)]|rw[ak (by omega)])
 have hl:aO (fun S=>yo NN (.l (fh ts)) (gg S 0)) NN [.i 0]=some (.brk 0 []):=by
  refine bJ (fun k=>[.i (k:Int)]) ts.length NN (cC (by omega)) (fun k hk=>?_) ?_
  ·have hg:=aj (l:=ts) hk;obtain⟨e1,e2⟩:=qZ hg;obtain⟨l1,l2,w,f1,f2⟩:=h _ (ce hk);have w3:aH ((k:Int)+1)=((k+1:Nat):Int):=az (by omega) (by omega)
   unfold yo;simp only[aW,bj,e_,e2,bm]
   repeat(first|rw[ab (by omega)]|rw[ak (by omega)])
   have hi:aO (fun S=>yp NN (.l (fh ts)) (.i (k:Int)) (gg S 0)) NN [.i 0]=some (.brk 0 []):=by
    refine bJ (fun i=>[.i (i:Int)]) (ts[k]).ws.length NN (cC (by omega)) (fun i hi=>?_) ?_
    ·have w4:aH ((i:Int)+1)=((i+1:Nat):Int):=az (by omega) (by omega)
     have hm:=w _ (ce hi);unfold yp;simp only[aW,bj,Int.reduceNeg,e2,bm,dz,au,w4];rw[ab (by omega),ab (by omega),ae,aj hi]
     simp only[dw];rw[ak (by omega),ak (by omega)]
    ·unfold yp;simp only[aW,bj,Int.reduceNeg,e2,bm];rw[ak (by omega)]
   rw[hi];simp only[bi];unfold Se;simp only[aW,bj,Int.reduceNeg,e1,w3]
   repeat(first|rw[ab (by omega)]|rw[ak (by omega)])
  ·unfold yo;simp only[aW,bj,e_]
   repeat(first|rw[ab (by omega)]|rw[ak (by omega)])
 rw[hl];rfl
def Hl(M s:Int):List Tp->Nat->Int->Int->Option (Int×Int)
 | [],_,lo,hi=>some (lo,hi)
 |t::r,i,lo,hi=>if(du t.ws 0 M).2.2=true then
   (if i=0 then Hl M s r (i+1) (lU (eL (du t.ws 0 M).1 s) (eL (du t.ws 0 M).1 s)) (gI (eL (du t.ws 0 M).2.1 s) (eL (du t.ws 0 M).2.1 s))
    else Hl M s r (i+1) (lU lo (eL (du t.ws 0 M).1 s)) (gI hi (eL (du t.ws 0 M).2.1 s)))else none
def aCq(lo hi:Int)(ts:List Tp):Prop:=∀t∈ts,(du t.ws lo hi).2.2=true
theorem Vr{ys:List Tp}{M s:Int}{xs:List Tp}(hx:xs.length<=128){a b:Int}:∀ (n i N:Nat) (lo hi:Int),i+n=xs.length->n<N->Hl M s (xs.drop i) i lo hi=some (a,b)->
  aO (fun S=>tg NN (.l (fh xs)) (.i M) (.i s) (gg S 0) (gg S 1) (gg S 2)) N [.i lo,.i hi,.i (i:Int)]=some (.brk 0 [.i a,.i b])
 |_,i,0,lo,hi,_,hN,_=>by omega
 |0,i,N+1,lo,hi,hi',hN,h=>by
  rw[List.drop_of_length_le (by omega)]at h
  simp only[Hl,ad,aA]at h;have hb:tg NN (.l (fh xs)) (.i M) (.i s) (.i lo) (.i hi) (.i (i:Int))=some (.brk 0 [.i a,.i b]):=by unfold tg;simp only[aW,bj,e_];rw[ak (by omega),h.1,h.2]
  simp only[aO,aW,hb]
 |n+1,i,N+1,lo,hi,hi',hN,h=>by
  have hil:i<xs.length:=by omega
  have hg:=aj (l:=xs) hil;obtain⟨e1,e2⟩:=qZ hg;rw[eY hil]at h;simp only[Hl]at h;have w3:aH ((i:Int)+1)=((i+1:Nat):Int):=az (by omega) (by omega)
  split at h
  ·rename_i hb;have hbb:du xs[i].ws 0 M=((du xs[i].ws 0 M).1,(du xs[i].ws 0 M).2.1,true):=by rw[<-hb]
   have step:∃lo' hi',tg NN (.l (fh xs)) (.i M) (.i s) (.i lo) (.i hi) (.i (i:Int))=some (.again [.i lo',.i hi',.i ((i+1:Nat):Int)])/\Hl M s (xs.drop (i+1)) (i+1) lo' hi'=some (a,b):=by
    unfold tg;simp only[aW,bj,e_,e2];rw[ab (by omega),ab (by omega),nu hbb,ag (by rfl)]
    unfold ai2;simp only[aW,bj,Int.reduceEq];rw[gC,ag (by rfl)]
    unfold ai3;simp only[aW];rw[gC,ag (by rfl)]
    unfold ai4;simp only[aW,bj,w3];split at h
    ·rename_i h0;subst h0;simp only[bj,Int.natCast_zero];exact⟨_,_,rfl,h⟩
    ·rename_i h0;rw[ak (by omega)]
     exact⟨_,_,rfl,h⟩
   obtain⟨lo',hi'',h1,h2⟩:=step;simp only[aO,aW,h1];exact Vr (ys:=ys) hx n (i+1) N lo' hi'' (by omega) (by omega) h2
  ·cases h
theorem al1{xs ys:List Tp}{M s a b:Int}(hx:xs.length<=128)(hy:ys.length<=128)(h:Hl M s xs 0 0 0=some (a,b))(h2:aCq a b ys):ZR [.l (fh xs),.l (fh ys),.i M,.i s]=some [.i 0]:=by
 refine aK (N:=NN) ?_;rw[aps];refine bI ?_;unfold ay0;have h1:=Vr (ys:=ys) (M:=M) (s:=s) hx xs.length 0 NN 0 0 (by omega) (cC (by omega)) h
 have h1:aO (fun S=>tg NN (.l (fh xs)) (.i M) (.i s) (gg S 0) (gg S 1) (gg S 2)) NN [.i 0,.i 0,.i 0]=some (.brk 0 [.i a,.i b]):=h1
 rw[h1];simp only[bi];unfold aiZ;simp only[aW];have hl:aO (fun S=>JY NN (.l (fh ys)) (.i a) (.i b) (gg S 0)) NN [.i 0]=some (.brk 0 []):=by
  refine bJ (fun i=>[.i (i:Int)]) ys.length NN (cC (by omega)) (fun i hi=>?_) ?_
  ·have hg:=aj (l:=ys) hi;obtain⟨e1,e2⟩:=qZ hg;have hb:=h2 _ (ce hi);have hbb:du ys[i].ws a b=((du ys[i].ws a b).1,(du ys[i].ws a b).2.1,true):=by rw[<-hb]
   have w3:aH ((i:Int)+1)=((i+1:Nat):Int):=az (by omega) (by omega)
   unfold JY;simp only[aW,bj,e_,e2];rw[ab (by omega),ab (by omega),nu hbb,ag (by rfl)]
   unfold ai1;simp only[aW,bj,Int.reduceEq,w3]
  ·unfold JY;simp only[aW,bj,e_];rw[ak (by omega)]
 rw[hl];rfl
structure au3(W H:Nat)(M:Int)(X Y:List Tp)(s1 s2 out:Int):Prop where
 w1:1<=W
 w2:W<=128
 h1:1<=H
 h2:H<=128
 m1:1<=M
 m2:M<=4294967296
 x1:1<=X.length
 x2:X.length<=128
 y1:1<=Y.length
 y2:Y.length<=128
 xy:X.length*Y.length<=4096
 tx:∀t∈X,t.Ok
 ty:∀t∈Y,t.Ok
 a1:0<=s1
 a2:s1<=24
 b1:0<=s2
 b2:s2<=24
 o1:1<=out
 o2:out<=4294967296
 ac:∃a b,Hl M s1 X 0 0 0=some (a,b)/\aCq a b Y
theorem HR{W H:Nat}{M:Int}{X Y:List Tp}{s1 s2 out:Int}(h:au3 W H M X Y s1 s2 out):Bg [.i W,.i H,.i M,.l (fh X),.l (fh Y),.i s1,.i s2,.i out]=some [.i 0]:=by
 obtain⟨w1,w2,h1,h2,m1,m2,x1,x2,y1,y2,xy,tx,ty,a1,a2,b1,b2,o1,o2,a,b,ac1,ac2⟩:=h;refine aK (N:=NN) ?_;rw[ae8];refine bI ?_;unfold aiY;simp only[qb];rw[HH w1 w2 x1 x2 tx,ag (by rfl)]
 unfold S3;simp only[aW,bj];rw[HH h1 h2 y1 y2 ty,ag (by rfl)]
 unfold S5;simp only[aW,bj,e_];rw[rO _ _ 4096 (by omega) (by omega) (by omega) (by omega) (by rw[<-aX];omega),ab (by rw[<-aX];omega),ag (by rfl)]
 unfold S6;simp only[aW,bj,Int.reduceEq]
 repeat(first|rw[ab (by omega)]|rw[ak (by omega)])
 rw[al1 x2 y2 ac1 ac2,ag (by rfl)]
 unfold S7;simp only[aW]
theorem ZO{p:Pl}(hp:p.Ok)(pol fill:Int):∃px:Int->Int->Int,∀x y:Int,-1000<=x->x<=1000-> -1000<=y->y<=1000->Be [.i p.W,.i p.H,.i p.M,.l (il p.pix),.i pol,.i fill,.i x,.i y]=some [.i (px x y)]:=by
 have h:∀x y:Int,∃v:Int,-1000<=x->x<=1000-> -1000<=y->y<=1000->Be [.i p.W,.i p.H,.i p.M,.l (il p.pix),.i pol,.i fill,.i x,.i y]=some [.i v]:=fun x y=>by
  by_cases hh: -1000<=x/\x<=1000/\ -1000<=y/\y<=1000
  ·suffices h:∃v,We NN (.i p.W) (.i p.H) (.i p.M) (.l (il p.pix)) (.i pol) (.i fill) (.i x) (.i y)=some (.fin [.i v])by
    obtain⟨v,h1⟩:=h;refine⟨v,fun _ _ _ _=>aK (N:=NN) ?_⟩
    rw[ae6];exact bI h1
   obtain⟨i,oi,e1,e2⟩:=mT x p.W pol hp.w1 hp.w2 (by omega) (by omega)
   obtain⟨j,oj,e3,e4⟩:=mT y p.H pol hp.h1 hp.h2 (by omega) (by omega)
   unfold We;simp only[sQ];rw[e1,ag (by rfl)]
   unfold S1;simp only[aW];rw[e3,ag (by rfl)]
   unfold S2;simp only[aW,bj,bm,dz];split
   ·exact⟨_,rfl⟩
   ·split
    ·exact⟨_,rfl⟩
    ·obtain⟨n,g1,g2⟩:=WR hp (x:=i) (y:=j) (by omega) (by omega) (by omega) (by omega)
     rw[g2]
     repeat(first|rw[ab (by omega)]|rw[ak (by omega)])
     exact⟨_,rfl⟩
  ·exact⟨0,fun h1 h2 h3 h4=>absurd ⟨h1,h2,h3,h4⟩ hh⟩
 obtain⟨F,hF⟩:=Classical.axiomOfChoice fun x=>Classical.axiomOfChoice (h x)
 exact⟨F,hF⟩
@[reducible] def Gr(rowL:Int->List Int)(ks:List Int):List PD:=recs (fun k=>[.i k,.l (il (rowL k))]) ks
theorem Gq(rowL:Int->List Int)(k:Int):∀ks:List Int,lV (Gr rowL ks) k=if k∈ks then some (.l (il (rowL k)))else none
 | []=>by simp[recs,lV]
 |c::r=>by
  have ih:=Gq rowL k r;unfold Gr recs at ih ⊢;rw[fg]
  show(if(PD.i c).n=k then some (PD.l (il (rowL c)))else lV (r.flatMap _) k)=_
  rw[aFy]
  by_cases h:c=k
  ·subst h;rw[ab rfl,ab (bN ..)]
  ·rw[ak h,ih]
   by_cases h2:k∈r
   ·rw[ab h2,ab (aU _ h2)]
   ·rw[ak h2,ak (by simp only[aS,not_or];exact⟨fun e=>h e.symm,h2⟩)]
theorem aba(rowL:Int->List Int)(k:Int)(ks:List Int):ajC (Gr rowL ks) k=if k∈ks then 1 else 0:=by
 unfold ajC;rw[Gq]
 by_cases h:k∈ks<;>simp[h]
theorem wN(rowL:Int->List Int){k:Int}{ks:List Int}(h:k∈ks):aa9 (Gr rowL ks) k=il (rowL k):=by unfold aa9;rw[Gq,ab h];rfl
theorem Ea(rowL:Int->List Int)(k:Int)(ks:List Int):(Gr rowL ks++[PD.i k])++[PD.l (il (rowL k))]=Gr rowL (ks++[k]):=by unfold Gr recs;rw[List.flatMap_append,dg];rfl
def kQ(n:Nat)(f g:Nat->Int)(k:Nat):List Int:=(List.range n).map fun i=>if i<k then f i else g i
theorem sq(n:Nat)(f g:Nat->Int)(k:Nat):(kQ n f g k).length=n:=by simp[kQ]
theorem CH(n:Nat)(f g:Nat->Int):kQ n f g 0=(List.range n).map g:=by unfold kQ;exact cg fun i _=>ak (Nat.not_lt_zero i)
theorem Hc(n:Nat)(f g:Nat->Int):kQ n f g n=(List.range n).map f:=by unfold kQ;exact cg fun i hi=>ab (dv.1 hi)
theorem EW{n:Nat}(f g:Nat->Int){k i:Nat}(h:i<n):(kQ n f g k).getD i 0=if i<k then f i else g i:=by unfold kQ;exact nZ n _ h
theorem Hb{n:Nat}(f g:Nat->Int){k:Nat}(h:k<n):(kQ n f g k).set k (f k)=kQ n f g (k+1):=by
 apply cF;intro i;rw[dF,sq]
 by_cases hi:k=i
 ·subst hi;rw[ab rfl,ab h];unfold kQ;rw[aM,cI h];simp
 ·rw[ak hi];unfold kQ
  by_cases hn:i<n
  ·rw[aM,aM,cI hn];simp only[de]
   by_cases h2:i<k
   ·rw[ab h2,ab (by omega)]
   ·rw[ak h2,ak (by omega)]
  ·rw[bp (by simp;omega),bp (by simp;omega)]
def mc(ts:List Tp)(i:Nat):Tp:=ts.getD i ⟨0,[]⟩
theorem Y0{ts:List Tp}{i:Nat}(h:i<ts.length):ts[i]?=some (mc ts i):=by unfold mc;rw[ae,aj h];rfl
theorem aiC{ts:List Tp}(h:∀t∈ts,t.Ok){i:Nat}(hi:i<ts.length):(mc ts i).Ok:=h _ (bS (Y0 hi))
theorem YZ{ts:List Tp}{lo hi:Nat}(h1:lo<=hi)(h2:hi<=ts.length):bH (iv (fh ts) (lo:Int) (hi:Int) 2) 2=((hi-lo:Nat):Int)/\∀k,k<hi-lo->(el (iv (fh ts) (lo:Int) (hi:Int) 2) (k:Int) 2 0).n=(mc ts (lo+k)).first /\(el (iv (fh ts) (lo:Int) (hi:Int) 2) (k:Int) 2 1).q=il (mc ts (lo+k)).ws:=by
 have e:iv (fh ts) (lo:Int) (hi:Int) 2=fh ((ts.take hi).drop lo):=Dx (enc:=Tp.pd) (es:=2) (fun _=>rfl) ts lo hi
 rw[e,e_];refine⟨by rw[cJ,bu];omega,fun k hk=>?_⟩
 refine qZ ?_;rw[b_,bX,ab (by omega)]
 exact Y0 (by omega)
section
variable {p:Pl}{pol fill:Int}{X Y:List Tp}{s1 s2 out:Int}
theorem ae4(hp:p.Ok)(he:qa pol fill p.M)(hc:au3 p.W p.H p.M X Y s1 s2 out):∃F:Nat->Nat->Int,(∀x y,0<=F x y/\F x y<=out)/\∀r:p8,r.In X.length Y.length->
  yB [.i p.W,.i p.H,.i p.M,.l (il p.pix),.i pol,.i fill,.l (fh X),.l (fh Y),.i s1,.i s2,.i out,.i r.x0,.i r.y0,.i r.x1,.i r.y1]=some (hZ F out r):=by
 have ho:=hc.o1;have tx:=hc.tx;have ty:=hc.ty;obtain⟨px,hpx⟩:=ZO hp pol fill;obtain⟨g,hg⟩:∃g:Nat->Int->Int,g=fun x k=>eL (ss (mc X x).ws (fun i=>px ((mc X x).first +i) k) (mc X x).ws.length) s1:=⟨_,rfl⟩
 refine⟨fun x y=>gO (eL (ss (mc Y y).ws (fun j=>g x ((mc Y y).first +j)) (mc Y y).ws.length) s2) out,fun x y=>sw _ (by omega),fun r hr=>?_⟩
 generalize hF:(fun x y:Nat=>gO (eL (ss (mc Y y).ws (fun j=>g x ((mc Y y).first +j)) (mc Y y).ws.length) s2) out)=F
 obtain⟨z1,z2,z3⟩:=hr.sz;obtain⟨r1,r2,r3,r4,r5,r6⟩:=id hr;refine aK (N:=NN) ?_;rw[al0];refine bI ?_;unfold apr;simp only[qb];rw[dV hp,ag (by rfl)]
 unfold SO;simp only[aW,bj,Int.reduceEq];rw[mS he,ag (by rfl)]
 unfold SP;simp only[aW,bj,Int.reduceEq];rw[HR hc,ag (by rfl)]
 unfold SQ;simp only[aW,bj];rw[jA hr,ag (by rfl)]
 unfold SS;simp only[aW,bj,e_];rw[jg hr,ag (by rfl)]
 unfold ST;have a1:aH ((r.x1:Int)-r.x0)=((r.x1-r.x0:Nat):Int):=by rw[z1];exact az (by omega) (by omega)
 have a2:aH ((r.y1:Int)-r.y0)=((r.y1-r.y0:Nat):Int):=by rw[z2];exact az (by omega) (by omega)
 obtain⟨px1,px2⟩:=YZ (ts:=X) (show r.x0<=r.x1 by omega) r3
 obtain⟨py1,py2⟩:=YZ (ts:=Y) (show r.y0<=r.y1 by omega) r4
 generalize hw:r.x1-r.x0=w at *;generalize hh:r.y1-r.y0=h at *;simp only[aW,bj,Int.reduceEq,e_];rw[ab (by omega),ab (by omega),ab (by omega)]
 obtain⟨rowL,hrowL⟩:∃rowL:Int->List Int,rowL=fun k=>(List.range w).map fun a:Nat=>g (r.x0+a) k:=⟨_,rfl⟩
 have hrl:∀k,(rowL k).length=w:=fun k=>by rw[hrowL];simp
 have hrg:∀k a,a<w->(rowL k).getD a 0=g (r.x0+a) k:=fun k a ha=>by rw[hrowL];exact nZ _ _ ha
 have mk:∀ (b j:Nat) (k:Int),b<h->(mc Y (r.y0+b)).first +j=k-> -1000<=k->k<=1000->aO (fun S=>Ds NN (.i p.W) (.i p.H) (.i p.M) (.l (il p.pix)) (.i pol) (.i fill) (.l (fh X)) (.l (fh Y)) (.i s1) (.i r.x0) (.i r.y0) (.i r.x1) (.i r.y1) (.i (b:Int)) (.i (j:Int)) (gg S 0) (gg S 1)) NN [.l (List.replicate (Int.toNat 0) (.i 0)),.i 0]=some (.brk 0 [.l (il (rowL k))]):=fun b j k hb hk k1 k2=>by
  refine(bJ (fun a=>[.l (il ((rowL k).take a)),.i (a:Int)]) (X:=[.l (il (rowL k))]) (k:=0) w NN (cC (by omega)) (fun a ha=>?_) ?_)
  ·obtain⟨x1,x2⟩:=px2 a ha;obtain⟨y1,y2⟩:=py2 b hb;obtain⟨l1,l2,_,f1,f2⟩:=aiC tx (show r.x0+a<X.length by omega)
   have wk:aH k=k:=az (by omega) (by omega)
   unfold Ds;simp only[aW,bj,px1];rw[ab (by omega),ab (by omega)]
   have hd:aO (fun S=>Dt NN (.i p.W) (.i p.H) (.i p.M) (.l (il p.pix)) (.i pol) (.i fill) (.l (fh X)) (.l (fh Y)) (.i r.x0) (.i r.y0) (.i r.x1) (.i r.y1) (.i (b:Int)) (.i (j:Int)) (.i (a:Int)) (gg S 0) (gg S 1)) NN [.i 0,.i 0]=some (.brk 0 [.i (ss (mc X (r.x0+a)).ws (fun i=>px ((mc X (r.x0+a)).first +i) k) (mc X (r.x0+a)).ws.length)]):=by
    refine bJ (fun i=>[.i (ss (mc X (r.x0+a)).ws (fun i=>px ((mc X (r.x0+a)).first +i) k) i),.i (i:Int)]) (mc X (r.x0+a)).ws.length NN (cC (by omega)) (fun i hi=>?_) ?_
    ·have c1:aH ((mc X (r.x0+a)).first +i)=(mc X (r.x0+a)).first +i:=az (by omega) (by omega)
     have c2:aH ((i:Int)+1)=((i+1:Nat):Int):=az (by omega) (by omega)
     unfold Dt;simp only[aW,bj,x1,x2,y1,hk,wk,bm,c1];rw[ab (by omega),ab (by omega),hpx _ _ (by omega) (by omega) k1 k2,ag (by rfl)]
     unfold ZM;simp only[aW,x2,dz,au,c2];rfl
    ·unfold Dt;simp only[aW,bj,x2,bm];rw[ak (by omega)]
   rw[hd];simp only[bi];unfold ZK;simp only[aW];rw[gC,ag (by rfl)]
   unfold ZL;have c2:aH ((a:Int)+1)=((a+1:Nat):Int):=az (by omega) (by omega)
   simp only[aW,bj,bm,c2,bu,hrl];rw[ab (by omega)]
   have e1:(rowL k).take (a+1)=(rowL k).take a++[g (r.x0+a) k]:=by
    have h3:a<(rowL k).length:=by rw[hrl];exact ha
    rw[dy h3];have:=hrg k a ha;rw[ae,aj h3]at this;rw[<-this];rfl
   rw[e1,<-jI,hg];rfl
  ·unfold Ds;simp only[aW,bj,px1];rw[ak (by omega),cf (by rw[hrl];omega)]
 have sums:∀ (b:Nat) (ks:List Int),b<h->∃ks',aO (fun S=>rX NN (.i p.W) (.i p.H) (.i p.M) (.l (il p.pix)) (.i pol) (.i fill) (.l (fh X)) (.l (fh Y)) (.i s1) (.i r.x0) (.i r.y0) (.i r.x1) (.i r.y1) (.i (b:Int)) (gg S 0) (gg S 1) (gg S 2)) NN [.l (il (List.replicate w 0)),.l (Gr rowL ks),.i 0]=
   some (.brk 0 [.l (Gr rowL ks'),.l (il ((List.range w).map fun a:Nat=>ss (mc Y (r.y0+b)).ws (fun j=>g (r.x0+a) ((mc Y (r.y0+b)).first +j)) (mc Y (r.y0+b)).ws.length))]):=fun b ks hb=>by
  obtain⟨y1,y2⟩:=py2 b hb;obtain⟨l1,l2,_,f1,f2⟩:=aiC ty (show r.y0+b<Y.length by omega)
  generalize hT:mc Y (r.y0+b)=T at *;obtain⟨k,Z,e,hk,ks',rfl⟩:=cX (b:=fun S=>rX NN (.i p.W) (.i p.H) (.i p.M) (.l (il p.pix)) (.i pol) (.i fill) (.l (fh X)) (.l (fh Y)) (.i s1) (.i r.x0) (.i r.y0) (.i r.x1) (.i r.y1) (.i (b:Int)) (gg S 0) (gg S 1) (gg S 2))
   (fun j S=>∃ks,S=[.l (il ((List.range w).map fun a:Nat=>ss T.ws (fun j=>g (r.x0+a) (T.first+j)) j)),.l (Gr rowL ks),.i (j:Int)])
   (fun k Z=>k=0/\∃ks,Z=[.l (Gr rowL ks),.l (il ((List.range w).map fun a:Nat=>ss T.ws (fun j=>g (r.x0+a) (T.first+j)) T.ws.length))]) T.ws.length (fun j S hj ⟨ks,hS⟩=>by
   subst hS
   left
   obtain⟨K,hK⟩:∃K:Int,T.first+j=K:=⟨_,rfl⟩
   have wk:aH K=K:=az (by omega) (by omega)
   have c2:aH ((j:Int)+1)=((j+1:Nat):Int):=az (by omega) (by omega)
   unfold rX;simp only[aW,bj,y1,y2,hK,wk,bm,aba];rw[ab (by omega),ab (by omega)]
   have hU:∀ (body:List PD->Option iX),(∀ (s:List Int) (u:Nat),s.length=w->u<w->body [.l (il s),.i (u:Int)]=some (.again [.l (il (s.set u (aH (s.getD u 0+aH (T.ws.getD j 0*(rowL K).getD u 0))))),.i ((u+1:Nat):Int)]))->(∀ (s:List Int),s.length=w->body [.l (il s),.i (w:Int)]=some (.brk 0 [.l (il s)]))->
     aO body NN [.l (il ((List.range w).map fun a:Nat=>ss T.ws (fun j=>g (r.x0+a) (T.first+j)) j)),.i 0]=some (.brk 0 [.l (il ((List.range w).map fun a:Nat=>ss T.ws (fun j=>g (r.x0+a) (T.first+j)) (j+1)))]):=fun body h1 h2=>by
    obtain⟨fo,hfo⟩:∃fo:Nat->Int,fo=fun a:Nat=>ss T.ws (fun j=>g (r.x0+a) (T.first+j)) j:=⟨_,rfl⟩
    obtain⟨fn,hfn⟩:∃fn:Nat->Int,fn=fun a:Nat=>ss T.ws (fun j=>g (r.x0+a) (T.first+j)) (j+1):=⟨_,rfl⟩
    rw[<-hfo,<-hfn,<-CH w fn fo,<-Hc w fn fo];refine bJ (fun u=>[.l (il (kQ w fn fo u)),.i (u:Int)]) w NN (cC (by omega)) (fun u hu=>?_) (h2 _ (sq ..))
    rw[h1 _ u (sq ..) hu,EW fn fo hu,ak (by omega),hrg K u hu]
    have e1:aH (fo u+aH (T.ws.getD j 0*g (r.x0+u) K))=fn u:=by rw[hfo,hfn,<-hK];rfl
    rw[e1,Hb fn fo hu]
   by_cases hin:K∈ks
   ·rw[ab hin,ab (by omega),wN rowL hin]
    simp only[bm,hrl];rw[ab (by omega),hU _ (fun s u hs hu=>?_) (fun s hs=>?_)]
    ·simp only[bi];unfold ZN;simp only[aW,c2];exact⟨_,rfl,_,rfl⟩
    ·have c3:aH ((u:Int)+1)=((u+1:Nat):Int):=az (by omega) (by omega)
     simp only[nM,lY];unfold Lh;simp only[aW,bj,y1,y2,hK,wk,wN rowL hin,bm,dz,hrl,hs,au,c3,h_];rw[ab (by omega),ab (by omega),ab (by omega)]
    ·simp only[nM,lY];unfold Lh;simp only[aW,bj,y1,y2,hK,wk,wN rowL hin,bm,hrl];rw[ak (by omega)]
   ·rw[ak hin,ak (by omega),ab (by omega),ab (by omega)]
    simp only[e_];rw[ab (by omega),mk b j K hb (by rw[hT];exact hK) (by omega) (by omega)]
    simp only[bi];have hin2:K∈ks++[K]:=by simp
    unfold S0;simp only[aW,bj,y1,hK,wk,Ea,aba];rw[ab hin2,ab (by omega),hU _ (fun s u hs hu=>?_) (fun s hs=>?_)]
    ·simp only[bi];unfold ZJ;simp only[aW,y1,hK,wk,Ea,c2];exact⟨_,rfl,_,rfl⟩
    ·have c3:aH ((u:Int)+1)=((u+1:Nat):Int):=az (by omega) (by omega)
     simp only[nM,lY];unfold Lg;simp only[aW,bj,y1,y2,hK,wk,Ea,wN rowL hin2,bm,dz,hrl,hs,au,c3,h_];rw[ab (by omega),ab (by omega),ab (by omega)]
    ·simp only[nM,lY];unfold Lg;simp only[aW,bj,y1,y2,hK,wk,Ea,wN rowL hin2,bm,hrl];rw[ak (by omega)]) (fun S ⟨ks,hS⟩=>by
   subst hS;unfold rX;simp only[aW,bj,y2,bm];rw[ak (by omega)]
   exact⟨_,_,rfl,rfl,_,rfl⟩) T.ws.length 0 NN [.l (il (List.replicate w 0)),.l (Gr rowL ks),.i ((0:Nat):Int)] (by omega) (cC (by omega)) ⟨ks,by
   congr 3
   apply cF;intro i;rw[aM,dh]
   by_cases hi:i<w
   ·rw[cI hi,ab hi];rfl
   ·rw[bp (by simp;omega),ak hi];rfl⟩
  subst hk;exact⟨ks',e⟩
 obtain⟨k,Z,e,hk,rfl⟩:=cX (b:=fun S=>rW NN (.i p.W) (.i p.H) (.i p.M) (.l (il p.pix)) (.i pol) (.i fill) (.l (fh X)) (.l (fh Y)) (.i s1) (.i s2) (.i out) (.i r.x0) (.i r.y0) (.i r.x1) (.i r.y1) (gg S 0) (gg S 1) (gg S 2))
  (fun b S=>∃ks,S=[.l (Gr rowL ks),.i (b:Int),.l (il (cB w (fun a b=>F (r.x0+a) (r.y0+b)) (b*w)))])
  (fun k Z=>k=0/\Z=[.l (il (cB w (fun a b=>F (r.x0+a) (r.y0+b)) (h*w)))]) h (fun b S hb ⟨ks,hS⟩=>by
  subst hS
  left
  have hbw:(b+1)*w<=w*h:=by rw[bU w h];exact bM _ (by omega)
  have hbw2:(b+1)*w=b*w+w:=by rw[co,dd]
  obtain⟨ks',hs⟩:=sums b ks hb;unfold rW;simp only[aW,bj,py1,a1,au,gB];rw[ab (by omega),ab (by omega),ab (by omega),ab (by omega),hs]
  simp only[bi];unfold SW;have hl:∀sm:List Int,sm.length=w->(∀a,a<w->gO (eL (sm.getD a 0) s2) out=F (r.x0+a) (r.y0+b))->aO (fun S=>yC NN (.i s2) (.i out) (.l (il sm)) (gg S 0) (gg S 1)) NN [.i 0,.l (il (cB w (fun a b=>F (r.x0+a) (r.y0+b)) (b*w)))]=some (.brk 0 [.l (il (cB w (fun a b=>F (r.x0+a) (r.y0+b)) ((b+1)*w)))]):=fun sm sl sv=>by
   refine bJ (fun a=>[.i (a:Int),.l (il (cB w (fun a b=>F (r.x0+a) (r.y0+b)) (b*w+a)))]) w NN (cC (by omega)) (fun a ha=>?_) ?_
   ·unfold yC;simp only[aW,bj,bm,sl,dz,au];rw[ab (by omega),ab (by omega),gC,ag (by rfl)]
    unfold SY;simp only[aW];rw[pU,ag (by rfl)]
    unfold SZ;have c2:aH ((a:Int)+1)=((a+1:Nat):Int):=az (by omega) (by omega)
    simp only[aW,bj,bm,eJ,c2];rw[ab (by omega),sv a ha]
    have a5':cB w (fun a b=>F (r.x0+a) (r.y0+b)) (b*w+(a+1))=cB w (fun a b=>F (r.x0+a) (r.y0+b)) (b*w+a)++[F (r.x0+a) (r.y0+b)]:=mw w _ a b ha
    rw[a5',<-jI];rfl
   ·unfold yC;simp only[aW,bj,bm,sl];rw[ak (by omega),hbw2]
  simp only[nM,lY];rw[hl _ (by simp) (fun a ha=>by rw[nZ _ _ ha,<-hF])]
  simp only[bi];unfold SX;have c2:aH ((b:Int)+1)=((b+1:Nat):Int):=az (by omega) (by omega)
  simp only[aW,c2];exact⟨_,rfl,_,rfl⟩) (fun S ⟨ks,hS⟩=>by
  subst hS;unfold rW;simp only[aW,bj,py1];rw[ak (by omega)]
  exact⟨_,_,rfl,rfl,rfl⟩) h 0 NN [.l [],.i ((0:Nat):Int),.l []] (by omega) (cC (by omega)) ⟨[],by rw[dc];rfl⟩
 subst hk;have e':aO (fun S=>rW NN (.i p.W) (.i p.H) (.i p.M) (.l (il p.pix)) (.i pol) (.i fill) (.l (fh X)) (.l (fh Y)) (.i s1) (.i s2) (.i out) (.i r.x0) (.i r.y0) (.i r.x1) (.i r.y1) (gg S 0) (gg S 1) (gg S 2)) NN [.l [],.i 0,.l []]=some (.brk 0 [.l (il (cB w (fun a b=>F (r.x0+a) (r.y0+b)) (h*w)))]):=e
 rw[e'];simp only[bi];unfold SU;simp only[aW,a1,a2];have hfin:ip F r=cB w (fun a b=>F (r.x0+a) (r.y0+b)) (h*w):=by unfold ip;rw[hw,hh,bU]
 unfold hZ;rw[hfin,hw,hh]
end
def E9(M:Int)(bins:Nat)(v:Int):Nat:=v.toNat*bins/(M.toNat+1)
theorem Ys{M v:Int}{bins:Nat}(v1:0<=v)(v2:v<=M)(b1:1<=bins):E9 M bins v<bins:=by
 unfold E9;rw[fk (by omega),bU]
 exact Nat.mul_lt_mul_of_pos_left (by omega) b1
theorem anc{M v:Int}{bins:Nat}(v1:0<=v)(v2:v<=M)(m1:1<=M)(m2:M<=4294967296)(b1:1<=bins)(b2:bins<=128):ab0 [.i v,.i M,.i bins]=some [.i (E9 M bins v:Nat)]:=by
 obtain⟨n,rfl⟩:=aN v1;obtain⟨m,rfl⟩:=aN (show 0<=M by omega)
 have hb:=Ys v1 v2 b1;have hp:n*bins<=4294967296*128:=eu (by omega) b2
 refine aK (N:=NN) ?_;rw[art];refine bI ?_;unfold ay';simp only[aW,bj]
 repeat(first|rw[ab (by omega)]|rw[ak (by omega)])
 have w1:aH ((n:Int)*bins)=((n*bins:Nat):Int):=by rw[<-aX];exact az (by omega) (by omega)
 have w2:aH ((m:Int)+1)=((m+1:Nat):Int):=az (by omega) (by omega)
 rw[w1,w2,ab (by omega),dn (by omega),<-Int.natCast_ediv]
 unfold E9 at hb ⊢;simp only[au]at hb ⊢;generalize n*bins/(m+1)=q at hb;simp(disch:=omega) only[az]
section
variable (p:Pl)(bins:Nat)
def kS(P:Nat->Bool)(c:Nat):Nat:=(List.range (p.W*p.H)).countP fun i=>P i&&decide (E9 p.M bins (p.pix.getD i 0)=c)
def dZ(P:Nat->Bool):List Int:=(List.range bins).map fun c=>((kS p bins P c:Nat):Int)
end
theorem gb(p:Pl)(bins:Nat)(P:Nat->Bool):(dZ p bins P).length=bins:=by simp[dZ]
theorem xi(p:Pl){bins:Nat}(P:Nat->Bool){c:Nat}(h:c<bins):(dZ p bins P).getD c 0=((kS p bins P c:Nat):Int):=nZ _ _ h
theorem nk{p:Pl}{bins:Nat}{P Q:Nat->Bool}(h:∀i,i<p.W*p.H->P i=Q i):dZ p bins P=dZ p bins Q:=by
 unfold dZ kS;refine cg fun c _=>?_
 congr 1
 exact List.countP_congr fun i hi=>by rw[h i (dv.1 hi)]
theorem aFK{p:Pl}(hp:p.Ok){bins:Nat}(P:Nat->Bool):∀v∈dZ p bins P,0<=v/\v<=((p.W*p.H:Nat):Int):=fun v hv=>by
 obtain⟨c,_,rfl⟩:=eH.1 hv;have:kS p bins P c<=p.W*p.H:=E5;omega
theorem am'{p:Pl}(hp:p.Ok){bins:Nat}(b1:1<=bins){P Q:Nat->Bool}{i:Nat}(hi:i<p.W*p.H)(hP:P i=false)(hQ:Q i=true)(h:∀j,j<p.W*p.H->j≠i->Q j=P j):
  (dZ p bins P).set (E9 p.M bins (p.pix.getD i 0)) ((dZ p bins P).getD (E9 p.M bins (p.pix.getD i 0)) 0+1)=dZ p bins Q:=by
 have hm:=hp.bd (p.pix.getD i 0) (by
  rw[ae,aj (by rw[hp.len];exact hi)]
  exact ce _)
 have hb:=Ys hm.1 hm.2 b1;generalize hc0:E9 p.M bins (p.pix.getD i 0)=c0 at hb;rw[xi p P hb];apply cF;intro c;rw[dF,gb]
 by_cases hc:c<bins
 ·have hq:∀c',kS p bins Q c'=if c'=c0 then kS p bins P c'+1 else kS p bins P c':=fun c'=>by
   unfold kS
   by_cases he:c'=c0
   ·rw[ab he];have e1:(List.range (p.W*p.H)).countP (fun i=>Q i&&decide (E9 p.M bins (p.pix.getD i 0)=c'))=(List.range (p.W*p.H)).countP (fun j=>(if j=i then true else P j)&&decide (E9 p.M bins (p.pix.getD j 0)=c')):=List.countP_congr fun j hj=>by
     by_cases hji:j=i
     ·subst hji;simp[hQ]
     ·rw[ak hji,h j (dv.1 hj) hji]
    rw[e1];refine anF hi (by simp[hP]) (by show((if i=i then true else P i)&&decide (E9 p.M bins (p.pix.getD i 0)=c'))=true;rw[ab rfl,hc0,he];simp) fun j hj=>by rw[ak hj]
   ·rw[ak he];refine List.countP_congr fun j hj=>?_
    by_cases hji:j=i
    ·subst hji;have:decide (E9 p.M bins (p.pix.getD j 0)=c')=false:=by rw[hc0];exact decide_eq_false fun e=>he e.symm
     rw[this,Bool.and_false,Bool.and_false]
    ·rw[h j (dv.1 hj) hji]
  have g:∀R:Nat->Bool,(dZ p bins R)[c]?=some ((kS p bins R c:Nat):Int):=fun R=>by
   unfold dZ;rw[aM,cI hc];rfl
  rw[g P,g Q,hq c]
  by_cases he:c0=c
  ·subst he;rw[ab rfl,ab hc,ab rfl];simp
  ·rw[ak he,ak (fun e=>he e.symm)]
 ·rw[ak (by omega),bp (by rw[gb];omega),bp (by rw[gb];omega)]
def u3(W:Nat)(r:p8)(i:Nat):Bool:=decide (r.x0<=i%W/\i%W<r.x1/\r.y0<=i/W/\i/W<r.y1)
def kz(W:Nat)(r:p8)(b a:Nat)(i:Nat):Bool:=decide (r.x0<=i%W/\((r.y0<=i/W/\i/W<r.y0+b/\i%W<r.x1)\/(i/W=r.y0+b/\i%W<r.x0+a)))
theorem AF{p:Pl}(hp:p.Ok){bins:Nat}(b1:1<=bins)(b2:bins<=128){r:p8}(hr:r.In p.W p.H):ov [.i p.W,.i p.H,.i p.M,.l (il p.pix),.i bins,.i r.x0,.i r.y0,.i r.x1,.i r.y1]=some [.l (il (dZ p bins (u3 p.W r))),.i 0]:=by
 have hm1:=hp.m1;have hm2:=hp.m2;have hlen:=hp.len;have harea:=hp.a;have hW:=hp.w1;obtain⟨r1,r2,r3,r4,r5,r6⟩:=id hr;refine aK (N:=NN) ?_;rw[XU];refine bI ?_;unfold UN;simp only[qb];rw[dV hp,ag (by rfl)]
 unfold It;simp only[aW,bj,Int.reduceEq]
 repeat(first|rw[ab (by omega)]|rw[ak (by omega)])
 rw[jA hr,ag (by rfl)]
 unfold Iu;simp only[aW,bj];rw[jg hr,ag (by rfl)]
 unfold Iv;simp only[aW,bj,Int.reduceEq,au,gB]
 repeat(first|rw[ab (by omega)]|rw[ak (by omega)])
 have h0:List.replicate bins (0:Int)=dZ p bins (kz p.W r 0 0):=by
  apply cF;intro c;rw[dh]
  by_cases hc:c<bins
  ·rw[ab hc];unfold dZ;rw[aM,cI hc];have:kS p bins (kz p.W r 0 0) c=0:=by
    unfold kS;rw[List.countP_eq_zero];intro i _;have:kz p.W r 0 0 i=false:=by unfold kz;apply decide_eq_false;omega
    rw[this];simp
   simp[this]
  ·rw[ak hc,bp (by rw[gb];omega)]
 have row:∀b,b<r.y1-r.y0->aO (fun S=>qM NN (.i p.W) (.i p.M) (.l (il p.pix)) (.i bins) (.i r.x0) (.i r.x1) (.i ((r.y0+b:Nat):Int)) (gg S 0) (gg S 1)) NN [.l (il (dZ p bins (kz p.W r b 0))),.i 0]=some (.brk 0 [.l (il (dZ p bins (kz p.W r (b+1) 0)))]):=fun b hb=>by
  have hx1:(r.y0+b)*p.W+r.x1<=p.W*p.H:=by
   have:=lg (W:=p.W) (H:=p.H) (x:=r.x1-1) (y:=r.y0+b) (by omega) (by omega)
   omega
  have c1:aH (aH (((r.y0+b:Nat):Int)*p.W)+r.x0)=(((r.y0+b)*p.W+r.x0:Nat):Int):=by
   rw[<-aX];generalize(r.y0+b)*p.W=q1 at hx1;generalize p.W*p.H=q2 at hx1 harea;rw[az (x:=(q1:Int)) (by omega) (by omega),az (by omega) (by omega)]
   omega
  have c3:aH (aH (((r.y0+b:Nat):Int)*p.W)+r.x1)=(((r.y0+b)*p.W+r.x1:Nat):Int):=by
   rw[<-aX];generalize(r.y0+b)*p.W=q1 at hx1;generalize p.W*p.H=q2 at hx1 harea;rw[az (x:=(q1:Int)) (by omega) (by omega),az (by omega) (by omega)]
   omega
  have hcl:((p.pix.take ((r.y0+b)*p.W+r.x1)).drop ((r.y0+b)*p.W+r.x0)).length=r.x1-r.x0:=by rw[cJ,bu,hlen,fQ hx1];omega
  have e0:∀i,i<p.W*p.H->kz p.W r (b+1) 0 i=kz p.W r b (r.x1-r.x0) i:=fun i _=>by
   unfold kz;exact decide_eq_decide.2 (by omega)
  rw[nk e0];refine bJ (fun a=>[.l (il (dZ p bins (kz p.W r b a))),.i (a:Int)]) (r.x1-r.x0) NN (cC (by omega)) (fun a ha=>?_) ?_
  ·have hi:(r.y0+b)*p.W+(r.x0+a)<p.W*p.H:=lg (by omega) (by omega)
   have hg:((p.pix.take ((r.y0+b)*p.W+r.x1)).drop ((r.y0+b)*p.W+r.x0)).getD a 0=p.pix.getD ((r.y0+b)*p.W+(r.x0+a)) 0:=by rw[ae,b_,bX,ab (by omega),ae,cT]
   have hmem:0<=p.pix.getD ((r.y0+b)*p.W+(r.x0+a)) 0/\p.pix.getD ((r.y0+b)*p.W+(r.x0+a)) 0<=p.M:=hp.bd _ (by
    rw[ae,aj (by rw[hlen];exact hi)]
    exact ce _)
   have hb':=Ys hmem.1 hmem.2 b1;have w3:aH ((a:Int)+1)=((a+1:Nat):Int):=az (by omega) (by omega)
   unfold qM;simp only[aW,bj,c1,c3,oK,au,bm,dz,hcl,hg];rw[ab (by omega),ab (by omega),anc hmem.1 hmem.2 hm1 hm2 b1 b2,ag (by rfl)]
   unfold Iy;simp only[aW,bj,bm,dz,gb,au,w3,h_];rw[ab (by omega),ab (by omega)]
   have hmr:=tZ (W:=p.W) (x:=r.x0+a) (r.y0+b) (by omega)
   have hone:=am' hp b1 (P:=kz p.W r b a) (Q:=kz p.W r b (a+1)) hi (by unfold kz;rw[hmr.1,hmr.2];apply decide_eq_false;omega) (by unfold kz;rw[hmr.1,hmr.2];apply decide_eq_true;omega) (fun j hj hne=>by
    unfold kz;refine decide_eq_decide.2 ?_;have hjj:=eP j p.W;rw[bU]at hjj
    by_cases h2:j/p.W=r.y0+b/\j%p.W=r.x0+a
    ·rw[h2.1,h2.2]at hjj;exact absurd hjj.symm hne
    ·omega)
   have hcb:((kS p bins (kz p.W r b a) (E9 p.M bins (p.pix.getD ((r.y0+b)*p.W+(r.x0+a)) 0)):Nat):Int)<=((p.W*p.H:Nat):Int):=by have:kS p bins (kz p.W r b a) (E9 p.M bins (p.pix.getD ((r.y0+b)*p.W+(r.x0+a)) 0))<=p.W*p.H:=E5;omega
   rw[xi p _ hb']at hone ⊢;rw[az (by omega) (by omega),hone]
  ·unfold qM;simp only[aW,bj,c1,c3,oK,au,bm,hcl];rw[ak (by omega)]
 have hl:aO (fun S=>qL NN (.i p.W) (.i p.M) (.l (il p.pix)) (.i bins) (.i r.x0) (.i r.x1) (.i r.y1) (gg S 0) (gg S 1)) NN [.l (il (dZ p bins (kz p.W r 0 0))),.i r.y0]=some (.brk 0 [.l (il (dZ p bins (kz p.W r (r.y1-r.y0) 0)))]):=by
  refine bJ (fun b=>[.l (il (dZ p bins (kz p.W r b 0))),.i ((r.y0+b:Nat):Int)]) (r.y1-r.y0) NN (cC (by omega)) (fun b hb=>?_) ?_
  ·have hx1:(r.y0+b)*p.W+r.x1<=p.W*p.H:=by
    have:=lg (W:=p.W) (H:=p.H) (x:=r.x1-1) (y:=r.y0+b) (by omega) (by omega)
    omega
   have c1:aH (aH (((r.y0+b:Nat):Int)*p.W)+r.x0)=(((r.y0+b)*p.W+r.x0:Nat):Int):=by
    rw[<-aX];generalize(r.y0+b)*p.W=q1 at hx1;generalize p.W*p.H=q2 at hx1 harea;rw[az (x:=(q1:Int)) (by omega) (by omega),az (by omega) (by omega)]
    omega
   have c3:aH (aH (((r.y0+b:Nat):Int)*p.W)+r.x1)=(((r.y0+b)*p.W+r.x1:Nat):Int):=by
    rw[<-aX];generalize(r.y0+b)*p.W=q1 at hx1;generalize p.W*p.H=q2 at hx1 harea;rw[az (x:=(q1:Int)) (by omega) (by omega),az (by omega) (by omega)]
    omega
   unfold qL;simp only[aW,bj,c1,c3,bm,hlen];rw[ab (by omega),ab (by omega),ab (by omega),ab (by omega),row b hb]
   simp only[bi];unfold Ix;have w3:aH (((r.y0+b:Nat):Int)+1)=((r.y0+(b+1):Nat):Int):=az (by omega) (by omega)
   simp only[aW,w3]
  ·unfold qL;simp only[aW,bj];rw[ak (by omega)]
 rw[h0,hl];simp only[bi];unfold Iw;simp only[aW];rw[nk (P:=kz p.W r (r.y1-r.y0) 0) (Q:=u3 p.W r) fun i _=>by
  unfold kz u3;exact decide_eq_decide.2 (by omega)]
theorem abW{p:Pl}(hp:p.Ok){bins:Nat}(b1:1<=bins)(b2:bins<=128):Cp [.i p.W,.i p.H,.i p.M,.l (il p.pix),.i bins]=some [.i bins,.i 1,.i ((p.W*p.H:Nat):Int),.l (il (dZ p bins fun _=>true)),.i 0]:=by
 have hr:(⟨0,0,p.W,p.H⟩:p8).In p.W p.H:=⟨hp.w1,hp.h1,bD _,bD _,hp.w2,hp.h2⟩;have h:=AF hp b1 b2 hr;simp only[Int.natCast_zero]at h;have harea:=hp.a;have hW:=hp.w1;refine aK (N:=NN) ?_;rw[agG];refine bI ?_;unfold akj;simp only[qb];rw[h,ag (by rfl)]
 unfold UM;simp only[aW,bj,<-aX];rw[az (by omega) (by omega),nk (P:=u3 p.W ⟨0,0,p.W,p.H⟩) (Q:=fun _=>true) fun i hi=>by
  unfold u3;apply decide_eq_true;exact⟨ec _,eN _ hW,ec _,gp hi⟩]
theorem abY{p:Pl}(hp:p.Ok){bins:Nat}(b1:1<=bins)(b2:bins<=128)(t:Nat->Nat){m:Nat}(m1:1<=m)(m2:m<=4096):
  Ph [.l (Is ((List.range m).map fun k=>dZ p bins fun i=>decide (t i=k)))]=some [.l (il (dZ p bins fun i=>decide (t i<m))),.i 0]:=by
 have harea:=hp.a;generalize hps:(List.range m).map (fun k=>dZ p bins fun i=>decide (t i=k))=ps
 have hpl:ps.length=m:=by rw[<-hps];simp
 have hpg:∀k,k<m->ps.getD k []=dZ p bins fun i=>decide (t i=k):=fun k hk=>by
  rw[<-hps,ae,aM,cI hk];rfl
 have hel:∀k,k<m->(el (Is ps) (k:Int) 1 0).q=il (dZ p bins fun i=>decide (t i=k)):=fun k hk=>by
  rw[arq ps (by omega),hpg k hk]
 have hel0:(el (Is ps) 0 1 0).q=il (dZ p bins fun i=>decide (t i=0)):=hel 0 (by omega)
 refine aK (N:=NN) ?_;rw[agI];refine bI ?_;unfold akk;simp only[aW,bj,Cn,hpl,hel0,bm,gb]
 repeat(first|rw[ab (by omega)]|rw[ak (by omega)])
 have hl1:aO (fun S=>zA NN (.l (Is ps)) (gg S 0)) NN [.i 0]=some (.brk 0 []):=by
  refine bJ (fun k=>[.i (k:Int)]) m NN (cC (by omega)) (fun k hk=>?_) ?_
  ·have w3:aH ((k:Int)+1)=((k+1:Nat):Int):=az (by omega) (by omega)
   unfold zA;simp only[aW,bj,Cn,hpl,hel k hk,hel0,bm,gb,w3]
   repeat(first|rw[ab (by omega)]|rw[ak (by omega)])
  ·unfold zA;simp only[aW,bj,Cn,hpl]
   repeat(first|rw[ab (by omega)]|rw[ak (by omega)])
 rw[hl1];simp only[bi];unfold Pi;simp only[aW,bj,hel0,bm,gb,au,gB];rw[ab (by omega)]
 have h0:List.replicate bins (0:Int)=dZ p bins fun i=>decide (t i<0):=by
  apply cF;intro c;rw[dh]
  by_cases hc:c<bins
  ·rw[ab hc];unfold dZ;rw[aM,cI hc];have:kS p bins (fun i=>decide (t i<0)) c=0:=by
    unfold kS;rw[List.countP_eq_zero];intro i _;simp
   show some (0:Int)=some ((kS p bins (fun i=>decide (t i<0)) c:Nat):Int)
   rw[this];rfl
  ·rw[ak hc,bp (by rw[gb];omega)]
 have hsplit:∀k c,kS p bins (fun i=>decide (t i<k+1)) c=kS p bins (fun i=>decide (t i<k)) c+kS p bins (fun i=>decide (t i=k)) c:=fun k c=>acN t _ k
 have hcl:∀P c,kS p bins P c<=p.W*p.H:=fun P c=>E5
 have hl5:aO (fun S=>zy NN (.l (Is ps)) (gg S 0) (gg S 1)) NN [.l (il (dZ p bins fun i=>decide (t i<0))),.i 0]=some (.brk 0 [.l (il (dZ p bins fun i=>decide (t i<m)))]):=by
  refine bJ (fun k=>[.l (il (dZ p bins fun i=>decide (t i<k))),.i (k:Int)]) m NN (cC (by omega)) (fun k hk=>?_) ?_
  ·have w3:aH ((k:Int)+1)=((k+1:Nat):Int):=az (by omega) (by omega)
   unfold zy;simp only[aW,bj,Cn,hpl];rw[ab (by omega),ab (by omega)]
   have hin:aO (fun S=>zz NN (.l (Is ps)) (.i (k:Int)) (gg S 0) (gg S 1)) NN [.l (il (dZ p bins fun i=>decide (t i<k))),.i 0]=some (.brk 0 [.l (il (dZ p bins fun i=>decide (t i<k+1)))]):=by
    have f0:dZ p bins (fun i=>decide (t i<k))=kQ bins (fun c=>((kS p bins (fun i=>decide (t i<k+1)) c:Nat):Int)) (fun c=>((kS p bins (fun i=>decide (t i<k)) c:Nat):Int)) 0:=by rw[CH];rfl
    have f1:dZ p bins (fun i=>decide (t i<k+1))=kQ bins (fun c=>((kS p bins (fun i=>decide (t i<k+1)) c:Nat):Int)) (fun c=>((kS p bins (fun i=>decide (t i<k)) c:Nat):Int)) bins:=by rw[Hc];rfl
    rw[f0,f1];refine bJ (fun u=>[.l (il (kQ bins (fun c=>((kS p bins (fun i=>decide (t i<k+1)) c:Nat):Int)) (fun c=>((kS p bins (fun i=>decide (t i<k)) c:Nat):Int)) u)),.i (u:Int)]) bins NN (cC (by omega)) (fun u hu=>?_) ?_
    ·have w4:aH ((u:Int)+1)=((u+1:Nat):Int):=az (by omega) (by omega)
     have b3:=hcl (fun i=>decide (t i=k)) u
     have b4:=hcl (fun i=>decide (t i<k)) u
     unfold zz;simp only[aW,bj,hel k hk,bm,dz,gb,sq,au,w4,h_];rw[xi p _ hu,EW _ _ hu,ak (show ¬u<u by omega)]
     rw[ab (by omega),ab (by omega),ak (by omega),ak (by omega),ab (by omega),az (by omega) (by omega)]
     have e1:((kS p bins (fun i=>decide (t i<k)) u:Nat):Int)+((kS p bins (fun i=>decide (t i=k)) u:Nat):Int)=((kS p bins (fun i=>decide (t i<k+1)) u:Nat):Int):=by rw[hsplit];omega
     rw[e1,Hb (fun c=>((kS p bins (fun i=>decide (t i<k+1)) c:Nat):Int)) _ hu]
    ·unfold zz;simp only[aW,bj,hel k hk,bm,gb];rw[ak (by omega)]
   rw[hin];simp only[bi];unfold UQ;simp only[aW,w3]
  ·unfold zy;simp only[aW,bj,Cn,hpl];rw[ak (by omega)]
 rw[h0,hl5];simp only[bi];unfold UO;have hl6:aO (fun S=>zx NN (.l (il (dZ p bins fun i=>decide (t i<m)))) (gg S 0)) NN [.i 0]=some (.brk 0 []):=by
  refine bJ (fun k=>[.i (k:Int)]) bins NN (cC (by omega)) (fun k hk=>?_) ?_
  ·have w3:aH ((k:Int)+1)=((k+1:Nat):Int):=az (by omega) (by omega)
   have b4:=hcl (fun i=>decide (t i<m)) k
   unfold zx;simp only[aW,bj,bm,dz,gb,au,w3];rw[xi p _ hk,ab (by omega),ab (by omega),ak (by omega)]
  ·unfold zx;simp only[aW,bj,bm,gb];rw[ak (by omega)]
 simp only[nM];rw[hl6];simp only[bi];unfold UP;simp only[aW]
def jG(p:Pl)(x y:Nat):Int:=p.pix.getD (y*p.W+x) 0
theorem WS{p:Pl}(hp:p.Ok){x y:Nat}(hx:x<p.W)(hy:y<p.H):0<=jG p x y/\jG p x y<=p.M:=hp.bd _ (by
 unfold jG;rw[ae,aj (by rw[hp.len];exact lg hx hy)]
 exact ce _)
def JI(W H:Nat)(M:Int):Prop:=M*((W*H:Nat):Int)<=4294967296
theorem xg{W H:Nat}{M:Int}(w1:1<=W)(h1:1<=H)(a:W*H<=4096)(m1:1<=M)(h:JI W H M):rD [.i W,.i H,.i M]=some [.i (M*((W*H:Nat):Int)),.i 1]:=by
 unfold JI at h;have e:((W*H:Nat):Int)*M=M*((W*H:Nat):Int):=Int.mul_comm ..;have hp:1<=W*H:=je w1 h1;refine aK (N:=NN) ?_;rw[Rz];refine bI ?_;unfold Pf;simp only[aW,bj]
 repeat(first|rw[ab (by omega)]|rw[ak (by omega)])
 rw[rO _ _ 4294967296 (by omega) (by omega) (by omega) (by omega) (by rw[<-aX];omega),ab (by rw[<-aX];omega),ag (by rfl)]
 unfold EC;simp only[aW,bj,Int.reduceEq,<-aX];rw[rO _ _ 4294967296 (by omega) (by omega) (by omega) (by omega) (by rw[e];omega),ab (by rw[e];omega),ag (by rfl)]
 unfold ED;simp only[aW,bj,Int.reduceEq,e]
theorem AE{p:Pl}(hp:p.Ok)(h:JI p.W p.H p.M):ug [.i p.W,.i p.H,.i p.M,.l (il p.pix)]=some [.i (p.M*((p.W*p.H:Nat):Int)),.i 0]:=by
 refine aK (N:=NN) ?_;rw[XT];refine bI ?_;unfold UK;simp only[qb];rw[dV hp,ag (by rfl)]
 unfold Iq;simp only[aW,bj,Int.reduceEq];rw[xg hp.w1 hp.h1 hp.a hp.m1 h,ag (by rfl)]
 unfold Ir;simp only[aW,bj,Int.reduceEq]
theorem m7{most:Int}{xs:List Int}(hl:xs.length<=1000000)(h:∀v∈xs,0<=v/\v<=most):ki [.i most,.l (il xs)]=some [.i 0]:=by
 refine aK (N:=NN) ?_;rw[XR];refine bI ?_;unfold UJ;have hl:aO (fun S=>qI NN (.i most) (.l (il xs)) (gg S 0)) NN [.i 0]=some (.brk 0 []):=by
  refine bJ (fun k=>[.i (k:Int)]) xs.length NN (cC (by omega)) (fun k hk=>?_) ?_
  ·have w3:aH ((k:Int)+1)=((k+1:Nat):Int):=az (by omega) (by omega)
   have hm:=h _ (ce hk);unfold qI;simp only[aW,bj,bm,dz,au,w3];rw[ab (by omega),ab (by omega),ae,aj hk]
   simp only[dw];rw[ak (by omega),ak (by omega)]
  ·unfold qI;simp only[aW,bj,bm];rw[ak (by omega)]
 rw[hl];rfl
@[reducible] def S4(p:Pl)(x y:Nat):Int:=QP (jG p) y x
theorem aA9{p:Pl}(hp:p.Ok){x y:Nat}(hx:x<=p.W)(hy:y<=p.H):0<=S4 p x y/\S4 p x y<=p.M*((p.W*p.H:Nat):Int):=by
 have h:=aly (p:=jG p) (M:=p.M) (W:=p.W) (H:=p.H) (x:=x) (y:=y) (fun i j hi hj=>WS hp hi hj) (by have:=hp.m1;omega) hx hy
 rw[Int.mul_assoc,<-aX]at h;exact h
def Pg(p:Pl)(x y:Nat):Int:=S4 p (x+1) (y+1)
theorem ar1{p:Pl}(hp:p.Ok){x y:Nat}(hx:x<p.W)(hy:y<=p.H):0<=rH (jG p) x y/\rH (jG p) x y<=p.M*((p.W*p.H:Nat):Int):=by
 have h:=Yj (p:=jG p) (M:=p.M) (x:=x) y fun j hj=>WS hp hx (by omega)
 refine⟨h.1,Int.le_trans h.2 (Int.mul_le_mul_of_nonneg_left ?_ (by have:=hp.m1;omega))⟩
 have:1*y<=p.W*p.H:=eu hp.w1 hy;omega
theorem Pd{p:Pl}(hp:p.Ok)(hi:JI p.W p.H p.M){r:p8}(hr:r.In p.W p.H):
  lD [.i p.W,.i p.H,.i p.M,.l (il p.pix),.i r.x0,.i r.y0,.i r.x1,.i r.y1,.l (il ((List.range (r.y1-r.y0)).map fun b:Nat=>S4 p r.x0 (r.y0+b+1))),.l (il ((List.range (r.x1-r.x0)).map fun a:Nat=>S4 p (r.x0+a+1) r.y0)),.i (S4 p r.x0 r.y0)]=
   some (hZ (Pg p) (p.M*((p.W*p.H:Nat):Int)) r):=by
 have hck:=AE hp hi;have hlen:=hp.len;have harea:=hp.a;obtain⟨z1,z2,z3⟩:=hr.sz;obtain⟨r1,r2,r3,r4,r5,r6⟩:=id hr;unfold JI at hi;have sb:∀x y,x<=p.W->y<=p.H->0<=S4 p x y/\S4 p x y<=p.M*((p.W*p.H:Nat):Int):=fun x y hx hy=>aA9 hp hx hy
 have cb:∀x y,x<p.W->y<=p.H->0<=rH (jG p) x y/\rH (jG p) x y<=p.M*((p.W*p.H:Nat):Int):=fun x y hx hy=>ar1 hp hx hy
 generalize hmost:p.M*((p.W*p.H:Nat):Int)=most at *;refine aK (N:=NN) ?_;rw[am9];refine bI ?_;unfold arp;simp only[qb];rw[hck,ag (by rfl)]
 unfold UH;simp only[aW,bj];rw[jA hr,ag (by rfl)]
 unfold UI;simp only[aW,bj];rw[jg hr,ag (by rfl)]
 unfold abN;have a1:aH ((r.x1:Int)-r.x0)=((r.x1-r.x0:Nat):Int):=by rw[z1];exact az (by omega) (by omega)
 have a2:aH ((r.y1:Int)-r.y0)=((r.y1-r.y0:Nat):Int):=by rw[z2];exact az (by omega) (by omega)
 generalize hw:r.x1-r.x0=w at *;generalize hh:r.y1-r.y0=h at *;simp only[aW,bj,Int.reduceEq,bm,bO,List.length_range,a1,a2];have ho1:ki [.i most,.l ([]++[.i (S4 p r.x0 r.y0)])]=some [.i 0]:=m7 (xs:=[S4 p r.x0 r.y0]) (by simp) (fun v hv=>by rw[ck]at hv;subst hv;exact sb _ _ (by omega) (by omega))
 rw[ho1,ag (by rfl)]
 unfold abO;simp only[aW,bj];rw[m7 (by simp;omega) (fun v hv=>by
  obtain⟨b,hb,rfl⟩:=eH.1 hv;have:=dv.1 hb;exact sb _ _ (by omega) (by omega)),ag (by rfl)]
 unfold abP;simp only[aW,bj];rw[m7 (by simp;omega) (fun v hv=>by
  obtain⟨b,hb,rfl⟩:=eH.1 hv;have:=dv.1 hb;exact sb _ _ (by omega) (by omega)),ag (by rfl)]
 unfold abQ;simp only[aW,bj,a1,a2,<-aX,au,gB];rw[az (x:=((w*h:Nat):Int)) (by omega) (by omega),ab (by omega),ab (by omega),ab (by omega),ab (by omega)]
 obtain⟨C,hC⟩:∃C:Nat->Nat->Int,C=fun b a=>rH (jG p) (r.x0+a) (r.y0+b)-rH (jG p) (r.x0+a) r.y0:=⟨_,rfl⟩
 obtain⟨left,hleft⟩:∃left:List Int,left=(List.range h).map fun b:Nat=>S4 p r.x0 (r.y0+b+1):=⟨_,rfl⟩
 obtain⟨top,htop⟩:∃top:List Int,top=(List.range w).map fun a:Nat=>S4 p (r.x0+a+1) r.y0:=⟨_,rfl⟩
 rw[<-hleft,<-htop];have hll:left.length=h:=by rw[hleft];simp
 have htl:top.length=w:=by rw[htop];simp
 have hlg:∀b,b<h->left.getD b 0=S4 p r.x0 (r.y0+b+1):=fun b hb=>by rw[hleft];exact nZ _ _ hb
 have htg:∀a,a<w->top.getD a 0=S4 p (r.x0+a+1) r.y0:=fun a ha=>by rw[htop];exact nZ _ _ ha
 have row:∀b,b<h->aO (fun S=>EA NN (.i p.W) (.l (il p.pix)) (.i r.x0) (.i r.y0) (.i r.x1) (.l (il left)) (.l (il top)) (.i (S4 p r.x0 r.y0)) (.i (b:Int)) (gg S 0) (gg S 1) (gg S 2) (gg S 3)) NN [.l (il (kQ w (C (b+1)) (C b) 0)),.i 0,.i 0,.l (il (cB w (fun a b=>Pg p (r.x0+a) (r.y0+b)) (b*w)))]=
   some (.brk 0 [.l (il (cB w (fun a b=>Pg p (r.x0+a) (r.y0+b)) ((b+1)*w))),.l (il (kQ w (C (b+1)) (C b) w))]):=fun b hb=>by
  have hbw:(b+1)*w<=w*h:=by rw[bU w h];exact bM _ (by omega)
  have hbw2:(b+1)*w=b*w+w:=by rw[co,dd]
  obtain⟨R,hR⟩:∃R:Nat->Int,R=fun a=>S4 p (r.x0+a) (r.y0+b+1)-S4 p r.x0 (r.y0+b+1)-S4 p (r.x0+a) r.y0+S4 p r.x0 r.y0:=⟨_,rfl⟩
  have hR0:R 0=0:=by rw[hR];show S4 p (r.x0+0) _-_-S4 p (r.x0+0) _+_=_;rw[ch];omega
  have st0:[PD.l (il (kQ w (C (b+1)) (C b) 0)),PD.i 0,PD.i 0,PD.l (il (cB w (fun a b=>Pg p (r.x0+a) (r.y0+b)) (b*w)))]=[PD.l (il (kQ w (C (b+1)) (C b) 0)),PD.i (R 0),PD.i ((0:Nat):Int),PD.l (il (cB w (fun a b=>Pg p (r.x0+a) (r.y0+b)) (b*w+0)))]:=by rw[hR0];rfl
  rw[st0];refine bJ (fun a=>[.l (il (kQ w (C (b+1)) (C b) a)),.i (R a),.i (a:Int),.l (il (cB w (fun a b=>Pg p (r.x0+a) (r.y0+b)) (b*w+a)))]) w NN (cC (by omega)) (fun a ha=>?_) ?_
  ·have hidx:(r.y0+b)*p.W+(r.x0+a)<p.W*p.H:=lg (by omega) (by omega)
   have c1:aH ((r.y0:Int)+b)=((r.y0+b:Nat):Int):=az (by omega) (by omega)
   have c2:aH (aH (aH (((r.y0+b:Nat):Int)*p.W)+r.x0)+a)=(((r.y0+b)*p.W+(r.x0+a):Nat):Int):=by
    rw[<-aX];generalize(r.y0+b)*p.W=q1 at hidx;generalize p.W*p.H=q2 at hidx harea;rw[az (x:=(q1:Int)) (by omega) (by omega),az (x:=(q1:Int)+r.x0) (by omega) (by omega),az (by omega) (by omega)]
    omega
   have w3:aH ((a:Int)+1)=((a+1:Nat):Int):=az (by omega) (by omega)
   have hpx:p.pix.getD ((r.y0+b)*p.W+(r.x0+a)) 0=jG p (r.x0+a) (r.y0+b):=rfl;have hpb:=WS hp (x:=r.x0+a) (y:=r.y0+b) (by omega) (by omega)
   have k1:=cb (r.x0+a) (r.y0+b) (by omega) (by omega)
   have k2:=cb (r.x0+a) r.y0 (by omega) (by omega)
   have k3:=cb (r.x0+a) (r.y0+b+1) (by omega) (by omega)
   have k4:=sb (r.x0+a) (r.y0+b+1) (by omega) (by omega)
   have k5:=sb r.x0 (r.y0+b+1) (by omega) (by omega)
   have k6:=sb (r.x0+a) r.y0 (by omega) (by omega)
   have k7:=sb r.x0 r.y0 (by omega) (by omega)
   have k8:=sb (r.x0+a+1) (r.y0+b+1) (by omega) (by omega)
   have k9:=sb (r.x0+a+1) r.y0 (by omega) (by omega)
   have e1:rH (jG p) (r.x0+a) (r.y0+b+1)=rH (jG p) (r.x0+a) (r.y0+b)+jG p (r.x0+a) (r.y0+b):=rfl;have e2:S4 p (r.x0+a+1) (r.y0+b+1)=S4 p (r.x0+a) (r.y0+b+1)+rH (jG p) (r.x0+a) (r.y0+b+1):=rfl;have e3:S4 p (r.x0+a+1) r.y0=S4 p (r.x0+a) r.y0+rH (jG p) (r.x0+a) r.y0:=rfl;have hCb:C b a=rH (jG p) (r.x0+a) (r.y0+b)-rH (jG p) (r.x0+a) r.y0:=by rw[hC]
   have hCb1:C (b+1) a=rH (jG p) (r.x0+a) (r.y0+b+1)-rH (jG p) (r.x0+a) r.y0:=by rw[hC];rfl
   have hRa:R a=S4 p (r.x0+a) (r.y0+b+1)-S4 p r.x0 (r.y0+b+1)-S4 p (r.x0+a) r.y0+S4 p r.x0 r.y0:=by rw[hR]
   have hRa1:R (a+1)=S4 p (r.x0+a+1) (r.y0+b+1)-S4 p r.x0 (r.y0+b+1)-S4 p (r.x0+a+1) r.y0+S4 p r.x0 r.y0:=by rw[hR];rfl
   have hM:=hp.m2;have q1:aH (C b a+jG p (r.x0+a) (r.y0+b))=C (b+1) a:=by rw[hCb,hCb1,e1,az (by omega) (by omega)];omega
   have q2:aH (R a+C (b+1) a)=R (a+1):=by rw[hRa,hRa1,hCb1,e2,e3,az (by omega) (by omega)];omega
   have q3:aH (aH (aH (S4 p r.x0 (r.y0+b+1)+S4 p (r.x0+a+1) r.y0)-S4 p r.x0 r.y0)+R (a+1))=Pg p (r.x0+a) (r.y0+b):=by
    rw[hRa1,az (x:=S4 p r.x0 (r.y0+b+1)+S4 p (r.x0+a+1) r.y0) (by omega) (by omega),az (x:=S4 p r.x0 (r.y0+b+1)+S4 p (r.x0+a+1) r.y0-S4 p r.x0 r.y0) (by omega) (by omega),az (by omega) (by omega)]
    show _=S4 p (r.x0+a+1) (r.y0+b+1)
    omega
   unfold EA;simp only[aW,bj,a1,c1,c2,w3,bm,dz,sq,hlen,hll,htl,eJ,au,hpx,hlg b hb,htg a ha,EW (C (b+1)) (C b) ha,h_];rw[ak (show ¬a<a by omega),q1]
   have hset:=Hb (C (b+1)) (C b) ha;rw[hset];simp only[EW (C (b+1)) (C b) ha];rw[ab (show a<a+1 by omega),q2,q3]
   have a5:cB w (fun a b=>Pg p (r.x0+a) (r.y0+b)) (b*w+(a+1))=cB w (fun a b=>Pg p (r.x0+a) (r.y0+b)) (b*w+a)++[Pg p (r.x0+a) (r.y0+b)]:=mw w _ a b ha
   have i1:(0:Int)<=((r.y0+b)*p.W+(r.x0+a):Nat):=js _;have i2:(((r.y0+b)*p.W+(r.x0+a):Nat):Int)<((p.W*p.H:Nat):Int):=Int.ofNat_lt.2 hidx;have i3:((b*w+a:Nat):Int)+1<=1000000:=by clear hlg htg hll htl;omega
   have i4:(a:Int)<w:=Int.ofNat_lt.2 ha;have i5:(b:Int)<h:=Int.ofNat_lt.2 hb;rw[ab i4,ab (js a),ab i4,ab i1,ab i2,ab (js b),ab i5,ab i4,ab i3,a5,<-jI];rfl
  ·unfold EA;simp only[aW,bj,a1];rw[ak (by omega),hbw2]
 have hl:aO (fun S=>Ez NN (.i p.W) (.l (il p.pix)) (.i r.x0) (.i r.y0) (.i r.x1) (.i r.y1) (.l (il left)) (.l (il top)) (.i (S4 p r.x0 r.y0)) (gg S 0) (gg S 1) (gg S 2)) NN [.l (il (List.replicate w 0)),.i 0,.l (il (List.replicate (Int.toNat 0) 0))]=some (.brk 0 [.l (il (cB w (fun a b=>Pg p (r.x0+a) (r.y0+b)) (h*w)))]):=by
  have e0:il (List.replicate (Int.toNat 0) 0)=il (cB w (fun a b=>Pg p (r.x0+a) (r.y0+b)) (0*w)):=by rw[dc];rfl
  have e1:List.replicate w (0:Int)=(List.range w).map (C 0):=by
   apply cF;intro i;rw[aM,dh]
   by_cases hi:i<w
   ·rw[cI hi,ab hi,hC];simp
   ·rw[bp (by simp;omega),ak hi];rfl
  rw[e0,e1];refine bJ (fun b=>[.l (il ((List.range w).map (C b))),.i (b:Int),.l (il (cB w (fun a b=>Pg p (r.x0+a) (r.y0+b)) (b*w)))]) h NN (cC (by omega)) (fun b hb=>?_) ?_
  ·have w3:aH ((b:Int)+1)=((b+1:Nat):Int):=az (by omega) (by omega)
   have hrow:=row b hb;rw[CH,Hc]at hrow;unfold Ez;simp only[aW,bj,a2];rw[ab (by omega),hrow]
   simp only[bi];unfold abT;simp only[aW,w3]
  ·unfold Ez;simp only[aW,bj,a2];rw[ak (by omega)]
 rw[hl];simp only[bi];unfold abR;have hfin:ip (Pg p) r=cB w (fun a b=>Pg p (r.x0+a) (r.y0+b)) (h*w):=by unfold ip;rw[hw,hh,bU]
 simp only[aW];rw[bU h w,m7 (by rw[eJ];omega) (fun v hv=>by
  obtain⟨a,b,ha,hb,rfl⟩:=ze hv;exact sb _ _ (by omega) (by omega)),ag (by rfl)]
 unfold abS;simp only[aW,bj,a1,a2];unfold hZ;rw[hfin,hw,hh,bU h w]
theorem abL{p:Pl}(hp:p.Ok)(hi:JI p.W p.H p.M):Cl [.i p.W,.i p.H,.i p.M,.l (il p.pix)]=some [.i p.W,.i p.H,.i (p.M*((p.W*p.H:Nat):Int)),.l (il (cB p.W (Pg p) (p.W*p.H))),.i 0]:=by
 have hr:(⟨0,0,p.W,p.H⟩:p8).In p.W p.H:=⟨hp.w1,hp.h1,bD _,bD _,hp.w2,hp.h2⟩;have hw2:=hp.w2;have hh2:=hp.h2;have h:=Pd hp hi hr;have z:∀n:Nat,(List.range n).map (fun _:Nat=>(0:Int))=List.replicate n 0:=fun n=>by
  apply cF;intro i;rw[aM,dh]
  by_cases hi:i<n
  ·rw[cI hi,ab hi];rfl
  ·rw[bp (by simp;omega),ak hi];rfl
 have e1:(List.range (p.H-0)).map (fun b:Nat=>S4 p 0 (0+b+1))=List.replicate p.H 0:=by rw[dX,<-z];exact cg fun b _=>rfl
 have e2:(List.range (p.W-0)).map (fun a:Nat=>S4 p (0+a+1) 0)=List.replicate p.W 0:=by rw[dX,<-z];exact cg fun a _=>KI _ _
 have e3:S4 p 0 0=0:=rfl;simp only[e1,e2,e3,Int.natCast_zero]at h;refine aK (N:=NN) ?_;rw[agD];refine bI ?_;unfold aki;simp only[qb];rw[AE hp hi,ag (by rfl)]
 unfold UE;simp only[aW,bj,au,gB];rw[ab (by omega),ab (by omega),ab (by omega),ab (by omega),h,ag (by rfl)]
 unfold UF;simp only[aW,ip,dX,bR]
structure nC where
 (code arg:Int)
@[reducible] def nC.pd(o:nC):List PD:=[.i o.code,.i o.arg]
@[reducible] def iK(os:List nC):List PD:=recs nC.pd os
def dI(c:Int):Int:=if c<=2 then 0 else if 10<=c then 1 else 2
def nC.Ok(o:nC):Prop:=0<=o.code/\o.code<=11/\((o.code=2/\ -4294967296<=o.arg/\o.arg<=4294967296)\/(o.code=10/\0<=o.arg/\o.arg<=24)\/(o.code≠2/\o.code≠10/\o.arg=0))
def dep(l:List nC):Int:=l.foldl (fun d o=>d+1-dI o.code) 0
theorem arT(l:List nC)(o:nC):dep (l++[o])=dep l+1-dI o.code:=by unfold dep;rw[List.foldl_append];rfl
theorem oT(c:Int):0<=dI c/\dI c<=2:=by
 unfold dI;split
 ·omega
 ·split <;>omega
structure p9(os:List nC)(two:Bool):Prop where
 l1:1<=os.length
 l2:os.length<=32
 d:dep os=1
 op:∀k o,os[k]?=some o->o.Ok/\(o.code=1->two=true)/\dI o.code<=dep (os.take k)
theorem xN{os:List nC}{k:Nat}{o:nC}(h:os[k]?=some o):dep (os.take (k+1))=dep (os.take k)+1-dI o.code:=by rw[jP,h];exact arT _ _
theorem PY{c:Int}(h1:0<=c)(h2:c<=11):c=0\/c=1\/c=2\/c=3\/c=4\/c=5\/c=6\/c=7\/c=8\/c=9\/c=10\/c=11:=by omega
theorem PU{os:List nC}{two:Bool}(h:p9 os two):∀k,k<=os.length->0<=dep (os.take k)/\dep (os.take k)<=k
 |0,_=>by simp[dep]
 |k+1,hk=>by
  have ih:=PU h k (by omega)
  have hg:=aj (l:=os) (show k<os.length by omega)
  have h1:=(h.op k _ hg).2.2;rw[xN hg];have:=oT os[k].code;omega
theorem wB{c:Int}(h1:0<=c)(h2:c<=11):tW [.i c]=some [.i (dI c),.i 1]:=by refine aK (N:=NN) ?_;rw[afH];refine bI ?_;unfold aji;rcases PY h1 h2 with rfl|rfl|rfl|rfl|rfl|rfl|rfl|rfl|rfl|rfl|rfl|rfl<;>simp only[aW,bj,Int.reduceEq]<;>rfl
theorem jX(os:List nC):bH (iK os) 2=(os.length:Int):=ti (enc:=nC.pd) (es:=2) (fun _=>rfl) (by omega) os
theorem aa3{os:List nC}{k:Nat}{o:nC}(h:os[k]?=some o):(el (iK os) (k:Int) 2 0).n=o.code/\(el (iK os) (k:Int) 2 1).n=o.arg:=by
 rw[lO (enc:=nC.pd) (es:=2) (fun _=>rfl) h (by omega),lO (enc:=nC.pd) (es:=2) (fun _=>rfl) h (by omega)]
 exact⟨rfl,rfl⟩
theorem ng{os:List nC}{two:Bool}(h:p9 os two):g_ [.l (iK os),.i (if two=true then 1 else 0)]=some [.i 0]:=by
 have hl1:=h.l1;have hl2:=h.l2;refine aK (N:=NN) ?_;rw[afC];refine bI ?_;unfold ajg;simp only[aW,bj,jX];have hl:aO (fun S=>yY NN (.l (iK os)) (.i (if two=true then 1 else 0)) (gg S 0) (gg S 1)) NN [.i 0,.i 0]=some (.brk 0 [.i 1]):=by
  refine bJ (fun k=>[.i (dep (os.take k)),.i (k:Int)]) os.length NN (cC (by omega)) (fun k hk=>?_) ?_
  ·have hg:=aj (l:=os) hk;obtain⟨⟨o1,o2,o3⟩,o4,o5⟩:=h.op k _ hg;obtain⟨c1,c2⟩:=aa3 hg;have hd:=PU h k (by omega)
   rw[xN hg];generalize os[k].code=c at o1 o2 o3 o4 o5 c1;generalize os[k].arg=a at o3 c2;unfold yY;simp only[aW,bj,jX,c1]
   repeat(first|rw[ab (by omega)]|rw[ak (by omega)])
   rw[wB o1 o2,ag (by rfl)]
   unfold Tv;simp only[aW,bj,Int.reduceEq,Int.reduceNeg,c1,c2];have ht:=oT c;have w1:aH (1-dI c)=1-dI c:=az (by omega) (by omega)
   have w2:aH (dep (os.take k)+(1-dI c))=dep (os.take k)+1-dI c:=by rw[az (by omega) (by omega)];omega
   have w3:aH ((k:Int)+1)=((k+1:Nat):Int):=az (by omega) (by omega)
   simp only[w1,w2,w3]
   by_cases hc1:c=1
   ·subst hc1;rw[o4 rfl];have o6:a=0:=by omega
    subst o6;simp only[bj,Int.reduceEq,Int.reduceLT,Int.reduceLE,Int.reduceNeg]
    repeat(first|rw[ab (by omega)]|rw[ak (by omega)])
   ·rw[ak hc1];rcases o3 with⟨rfl,b1,b2⟩|⟨rfl,b1,b2⟩|⟨b1,b2,rfl⟩
    ·simp only[bj,Int.reduceEq,Int.reduceNeg]
     repeat(first|rw[ab (by omega)]|rw[ak (by omega)])
    ·simp only[bj,Int.reduceEq,Int.reduceNeg]
     repeat(first|rw[ab (by omega)]|rw[ak (by omega)])
    ·simp only[bj,Int.reduceLT,Int.reduceLE,Int.reduceNeg]
     repeat(first|rw[ab (by omega)]|rw[ak (by omega)])
  ·unfold yY;simp only[aW,bj,jX];rw[ak (by omega),ez,h.d]
 rw[ak (by omega),ak (by omega),hl]
 rfl
theorem af0{y:Int}(h:dW y):gI y (aH (0-y))=if y<0 then -y else y:=by
 obtain⟨h1,h2⟩:=h;rw[az (by omega) (by omega)]
 unfold gI;split <;>split <;>omega
theorem ahD{x y:Int}(hy:y≠0):(if x<0 then -x else x)<=17592186044416/(if y<0 then -y else y)↔dW (x*y):=by
 have hp:0<(if y<0 then -y else y):=by split <;>omega
 rw[fM hp];unfold dW;have e1: -x* -y=x*y:=Int.neg_mul_neg ..;have e2: -x*y= -(x*y):=Int.neg_mul ..;have e3:x* -y= -(x*y):=Int.mul_neg ..;have s1:∀a b:Int,0<=a->0<=b->0<=a*b:=fun a b=>gr
 by_cases hx:x<0
 ·rw[ab hx]
  by_cases hy':y<0
  ·rw[ab hy',e1];have:=s1 (-x) (-y) (by omega) (by omega)
   rw[e1]at this;omega
  ·rw[ak hy',e2];have:=s1 (-x) y (by omega) (by omega)
   rw[e2]at this;omega
 ·rw[ak hx]
  by_cases hy':y<0
  ·rw[ab hy',e3];have:=s1 x (-y) (by omega) (by omega)
   rw[e3]at this;omega
  ·rw[ak hy'];have:=s1 x y (by omega) (by omega)
   omega
theorem kH{x y:Int}(hx:dW x)(hy:dW y):ke [.i x,.i y]=some (if dW (x*y)then[.i (x*y),.i 1]else[.i 0,.i 0]):=by
 have hx':=hx;have hy':=hy;obtain⟨x1,x2⟩:=hx;obtain⟨y1,y2⟩:=hy;refine aK (N:=NN) ?_;rw[WO];refine bI ?_;unfold TO;simp only[aW,bj]
 by_cases h0:y=0
 ·subst h0;rw[ak (by omega),Int.mul_zero,ab (by unfold dW;omega)]
  rfl
 ·have hp:0<(if y<0 then -y else y):=by split <;>omega
  rw[ab h0,af0 hx',af0 hy'];have hdiv:Int.tdiv 17592186044416 (if y<0 then -y else y)=17592186044416/(if y<0 then -y else y):=dn (by omega)
  have hd1:=gF (a:=17592186044416) (by omega) (Int.le_of_lt hp)
  have hd2:=g8 (a:=17592186044416) (if y<0 then -y else y) (by omega)
  rw[hdiv];have key:=ahD (x:=x) h0;generalize hq:17592186044416/(if y<0 then -y else y)=q at hd1 hd2 key
  rw[az (x:=q) (by omega) (by omega),ab (by omega)]
  by_cases ha:dW (x*y)
  ·rw[ak (by have:=key.2 ha;omega),ab ha]
   obtain⟨a1,a2⟩:=ha;rw[az (by omega) (by omega)]
  ·rw[ab (by apply Int.not_le.1;intro h;exact ha (key.1 h)),ak ha]
def nX(o:Option iX):Prop:=∃v ok:Int,o=some (.fin [.i v,.i ok])/\(ok≠0->dW v)
theorem kj{α:Type}{P:α->Prop}{b:Bool}{x y:α}(h1:b=true->P x)(h2:b=false->P y):P (bif b then x else y):=by
 cases b with
 |true=>exact h1 rfl
 |false=>exact h2 rfl
theorem nX.last(u:Int):nX (bif bC (-17592186044416) u then some (.fin [.i u,.i (if u<=17592186044416 then(1:Int)else 0)])else some (.fin [.i u,.i 0])):=by
 refine kj (P:=nX) (fun h=>⟨_,_,rfl,fun h2=>⟨of_decide_eq_true h,?_⟩⟩) (fun _=>⟨_,_,rfl,fun h=>absurd rfl h⟩)
 split at h2
 ·assumption
 ·exact absurd rfl h2
theorem M6(x y:Int):∃q,Ay [.i x,.i y]=some [.i q]:=by
 suffices h:∃q,BP NN (.i x) (.i y)=some (.fin [.i q])by
  obtain⟨q,h⟩:=h;refine⟨q,aK (N:=NN) ?_⟩;rw[Rp];exact bI h
 unfold BP;refine kj (P:=fun o:Option iX=>∃q:Int,o=some (iX.fin [PD.i q])) (fun _=>⟨_,rfl⟩) (fun _=>?_)
 refine kj (P:=fun o:Option iX=>∃q:Int,o=some (iX.fin [PD.i q])) (fun _=>?_) (fun _=>⟨_,rfl⟩)
 exact kj (P:=fun o:Option iX=>∃q:Int,o=some (iX.fin [PD.i q])) (fun _=>⟨_,rfl⟩) (fun _=>⟨_,rfl⟩)
theorem aax(c a:Int){x y:Int}(hx:dW x)(hy:dW y):∃v ok:Int,M3 [.i c,.i a,.i x,.i y]=some [.i v,.i ok]/\(ok≠0->dW v):=by
 suffices h:nX (WN NN (.i c) (.i a) (.i x) (.i y))by
  obtain⟨v,ok,h1,h2⟩:=h;refine⟨v,ok,aK (N:=NN) ?_,h2⟩;rw[afA];exact bI h1
 unfold WN;refine kj (P:=nX) (fun _=> .last _) (fun _=>?_)
 refine kj (P:=nX) (fun _=> .last _) (fun _=>?_)
 refine kj (P:=nX) (fun _=>?_) (fun _=>?_)
 ·simp only[sQ];rw[kH hx hy];split
  ·rw[ag (by rfl)]
   exact nX.last _
  ·rw[ag (by rfl)]
   exact⟨_,_,rfl,fun h=>absurd rfl h⟩
 refine kj (P:=nX) (fun _=> .last _) (fun _=>?_)
 refine kj (P:=nX) (fun _=> .last _) (fun _=>?_)
 refine kj (P:=nX) (fun _=> .last _) (fun _=>?_)
 refine kj (P:=nX) (fun _=>?_) (fun _=>?_)
 ·simp only[sQ];obtain⟨q,hq⟩:=M6 x y;rw[hq,ag (by rfl)]
  exact nX.last _
 refine kj (P:=nX) (fun _=>?_) (fun _=>?_)
 ·simp only[sQ];rw[gC,ag (by rfl)]
  exact nX.last _
 refine kj (P:=nX) (fun _=> .last _) (fun _=>?_)
 exact⟨0,1,rfl,fun _=>by unfold dW;omega⟩
theorem TN{os:List nC}{two:Bool}(h:p9 os two){a b:Int}(ha:dW a)(hb:dW b):∃v c,wC [.l (iK os),.i a,.i b]=some [.i v,.i c]:=by
 have hl2:=h.l2
 suffices hh:∃v c,apY NN (.l (iK os)) (.i a) (.i b)=some (.fin [.i v,.i c])by
  obtain⟨v,c,h1⟩:=hh;refine⟨v,c,aK (N:=NN) ?_⟩;rw[apW];exact bI h1
 have push:∀ (stk:List Int) (v:Int),il stk++([]++[PD.i v])=il (stk++[v]):=fun stk v=>by simp
 obtain⟨k,X,e,hk⟩:=cX (b:=fun S=>DY NN (.l (iK os)) (.i a) (.i b) (gg S 0) (gg S 1)) (fun k S=>∃stk:List Int,S=[.l (il stk),.i (k:Int)]/\(stk.length:Int)=dep (os.take k)/\∀v∈stk,dW v) (fun k X=>k=1\/(k=0/\∃stk:List Int,X=[.l (il stk)]/\stk.length=1)) os.length (fun k S hk ⟨stk,hS,hlen,hac⟩=>by
  subst hS;have hg:=aj (l:=os) hk;obtain⟨⟨o1,o2,o3⟩,o4,o5⟩:=h.op k _ hg;obtain⟨c1,c2⟩:=aa3 hg;have hd:=PU h k (by omega)
  have hdt:=xN hg;generalize os[k].code=c at o1 o2 o3 o4 o5 c1 hdt;generalize os[k].arg=ar at o3 c2;have w3:aH ((k:Int)+1)=((k+1:Nat):Int):=az (by omega) (by omega)
  unfold DY;simp only[aW,bj,jX,bm,c1,c2,w3,push];rw[ab (by omega),ab (by omega)]
  split
  ·rename_i hc;subst hc
   left
   rw[ab (by omega)]
   refine⟨_,rfl,_,rfl,?_,fun v hv=>?_⟩
   ·rw[hdt,ba];simp[dI];omega
   ·rcases cw.1 hv with hv|hv
    ·exact hac v hv
    ·rw[ck]at hv;subst hv;exact ha
  ·split
   ·rename_i hc;subst hc
    left
    rw[ab (by omega)]
    refine⟨_,rfl,_,rfl,?_,fun v hv=>?_⟩
    ·rw[hdt,ba];simp[dI];omega
    ·rcases cw.1 hv with hv|hv
     ·exact hac v hv
     ·rw[ck]at hv;subst hv;exact hb
   ·split
    ·rename_i hc;subst hc
     left
     rw[ab (by omega)]
     refine⟨_,rfl,_,rfl,?_,fun v hv=>?_⟩
     ·rw[hdt,ba];simp[dI];omega
     ·rcases cw.1 hv with hv|hv
      ·exact hac v hv
      ·rw[ck]at hv;subst hv;unfold dW;omega
    ·have ht:=oT c;have ht1:1<=dI c:=by
      unfold dI;split
      ·omega
      ·split <;>omega
     rw[wB o1 o2,ag (by rfl)]
     unfold ajk;have w1:aH ((stk.length:Int)-dI c)=stk.length-dI c:=az (by omega) (by omega)
     have w2:aH ((stk.length:Int)-1)=stk.length-1:=az (by omega) (by omega)
     simp only[aW,bj,bm,dz,c1,c2,w1,w2];rw[ab (by omega),ab (by omega),ab (by omega),ab (by omega)]
     have hmem:∀i,i<stk.length->dW (stk.getD i 0):=fun i hi=>by
      rw[ae,aj hi];exact hac _ (ce hi)
     obtain⟨v,ok,e1,e2⟩:=aax c ar (hmem ((stk.length:Int)-dI c).toNat (by omega)) (hmem ((stk.length:Int)-1).toNat (by omega))
     rw[e1,ag (by rfl)]
     unfold ajl;simp only[aW,bj,bm,w1,w3,oK,push];split
     ·exact .inr ⟨_,_,rfl,.inl rfl⟩
     ·rename_i hok
      left
      rw[ab (by omega),ab (by omega)]
      refine⟨_,rfl,_,rfl,?_,fun u hu=>?_⟩
      ·rw[hdt,ba,cJ,bu];simp only[List.length_singleton];omega
      ·rcases cw.1 hu with hu|hu
       ·exact hac u (fD (List.mem_of_mem_drop hu))
       ·rw[ck]at hu;subst hu;exact e2 hok) (fun S ⟨stk,hS,hlen,hac⟩=>by
  subst hS;unfold DY;simp only[aW,bj,jX];rw[ak (by omega)]
  rw[ez,h.d]at hlen;exact⟨_,_,rfl,.inr ⟨rfl,stk,rfl,by omega⟩⟩) os.length 0 NN [.l (il []),.i ((0:Nat):Int)] (by omega) (cC (by omega)) ⟨[],rfl,by simp[dep],by simp⟩
 unfold apY;have e':aO (fun S=>DY NN (.l (iK os)) (.i a) (.i b) (gg S 0) (gg S 1)) NN [.l (List.replicate (Int.toNat 0) (.i 0)),.i 0]=some (.brk k X):=e
 rw[e'];rcases hk with rfl|⟨rfl,stk,rfl,h1⟩
 ·exact⟨_,_,rfl⟩
 ·simp only[bi];unfold ajj;simp only[aW,bj,bm];rw[ab (by omega)]
  exact⟨_,_,rfl⟩
theorem oO{α:Type}{b:Bool}{x y:α}(h:b=true):(bif b then x else y)=x:=by rw[h];rfl
theorem dH{α:Type}{b:Bool}{x y:α}(h:b=false):(bif b then x else y)=y:=by rw[h];rfl
def Jo(x:Int):Int:=if x<0 then -x else x
def se(a b:Int):Int:=gI (Jo a) (Jo b)
def ud(x y:Int×Int):Option (Int×Int):=
 if dW (x.1*y.1)/\dW (x.1*y.2)/\dW (x.2*y.1)/\dW (x.2*y.2)then
  some (lU (lU (lU (lU (x.1*y.1) (x.1*y.1)) (x.1*y.2)) (x.2*y.1)) (x.2*y.2),gI (gI (gI (gI (x.1*y.1) (x.1*y.1)) (x.1*y.2)) (x.2*y.1)) (x.2*y.2))else none
def wZ(c arg:Int)(x y:Int×Int):Option (Int×Int):=
 if c=3 then some (x.1+y.1,x.2+y.2)else if c=4 then some (x.1-y.2,x.2-y.1)else if c=5 then ud x y
 else if c=6 then some (lU x.1 y.1,lU x.2 y.2)else if c=7 then some (gI x.1 y.1,gI x.2 y.2)
 else if c=8 then some (0,gI (x.2-y.1) (y.2-x.1))else if c=9 then some (-(se x.1 x.2),se x.1 x.2)
 else if c=10 then some (eL x.1 arg,eL x.2 arg)else some (0,se x.1 x.2)
def arj:Option (Int×Int)->Option (Int×Int)
 |none=>none
 |some r=>if dW r.1/\dW r.2 then some r else none
def w_(c arg:Int)(x y:Int×Int):Option (Int×Int):=arj (wZ c arg x y)
theorem abH{s:Option (Int×Int)}{r:Int×Int}(h:arj s=some r):s=some r/\dW r.1/\dW r.2:=by
 cases s with
 |none=>cases h
 |some q=>
  unfold arj at h;simp only at h;split at h
  ·injection h with h
   subst h;exact⟨rfl,by assumption⟩
  ·cases h
def vk(p:Int×Int):Prop:=dW p.1/\dW p.2
theorem aaA{x y r:Int×Int}(hx:vk x)(hy:vk y)(h:ud x y=some r):M4 [.i x.1,.i x.2,.i y.1,.i y.2]=some [.i r.1,.i r.2,.i 1]:=by
 unfold ud at h;split at h
 ·rename_i ha;obtain⟨a1,a2,a3,a4⟩:=ha;injection h with h
  subst h;refine aK (N:=NN) ?_;rw[afD];refine bI ?_;unfold ajh;simp only[sQ];rw[kH hx.1 hy.1,ab a1,ag (by rfl)]
  unfold Tw;simp only[aW,bj,Int.reduceEq];rw[kH hx.1 hy.2,ab a2,ag (by rfl)]
  unfold Tx;simp only[aW,bj,Int.reduceEq];rw[kH hx.2 hy.1,ab a3,ag (by rfl)]
  unfold Tz;simp only[aW,bj,Int.reduceEq];rw[kH hx.2 hy.2,ab a4,ag (by rfl)]
  unfold TA;simp only[aW,bj,Int.reduceEq]
 ·cases h
theorem J'{y:Int}(h:dW y):gI y (aH (0-y))=Jo y:=af0 h
theorem akz{y:Int}(h:dW y):0<=Jo y/\Jo y<=17592186044416:=by obtain⟨h1,h2⟩:=h;unfold Jo;split <;>omega
theorem avP{x y:Int}(hx:dW x)(hy:dW y):0<=se x y/\se x y<=17592186044416:=by have h1:=akz hx;have h2:=akz hy;unfold se gI;split <;>omega
theorem aaM{c arg:Int}{x y r:Int×Int}(h1:3<=c)(h2:c<=11)(hx:vk x)(hy:vk y)(h:w_ c arg x y=some r):M_ [.i c,.i arg,.i x.1,.i x.2,.i y.1,.i y.2]=some [.i r.1,.i r.2,.i 1]:=by
 obtain⟨hr,⟨r1,r2⟩,r3,r4⟩:=abH h;have hx':=hx;have hy':=hy;obtain⟨⟨x1,x2⟩,x3,x4⟩:=hx;obtain⟨⟨y1,y2⟩,y3,y4⟩:=hy;obtain⟨xl,xh⟩:=x;obtain⟨yl,yh⟩:=y;obtain⟨rl,rh⟩:=r;simp only at x1 x2 x3 x4 y1 y2 y3 y4 r1 r2 r3 r4;refine aK (N:=NN) ?_;rw[afI];refine bI ?_;unfold ajm;have hc:c=3\/c=4\/c=5\/c=6\/c=7\/c=8\/c=9\/c=10\/c=11:=by omega
 rcases hc with rfl|rfl|rfl|rfl|rfl|rfl|rfl|rfl|rfl
 ·rw[oO (by decide)]
  simp only[wZ,bj,Int.reduceEq,ad,aA]at hr;obtain⟨e1,e2⟩:=hr;simp only[sQ];rw[az (x:=xl+yl) (by omega) (by omega),az (x:=xh+yh) (by omega) (by omega),e1,e2]
  simp only[aW,bj,Int.reduceNeg]
  repeat(first|rw[ab (by omega)]|rw[ak (by omega)])
 ·rw[dH (by decide),oO (by decide)]
  simp only[wZ,bj,Int.reduceEq,ad,aA]at hr;obtain⟨e1,e2⟩:=hr;simp only[sQ];rw[az (x:=xl-yh) (by omega) (by omega),az (x:=xh-yl) (by omega) (by omega),e1,e2]
  simp only[aW,bj,Int.reduceNeg]
  repeat(first|rw[ab (by omega)]|rw[ak (by omega)])
 ·rw[dH (by decide),dH (by decide),oO (by decide)]
  simp only[wZ,bj,Int.reduceEq]at hr;simp only[sQ];have ht:=aaA hx' hy' hr;simp only at ht;rw[ht,ag (by rfl)]
  unfold TR;simp only[aW,bj,Int.reduceEq,Int.reduceNeg]
  repeat(first|rw[ab (by omega)]|rw[ak (by omega)])
 ·rw[dH (by decide),dH (by decide),dH (by decide),oO (by decide)]
  simp only[wZ,bj,Int.reduceEq,ad,aA]at hr;obtain⟨e1,e2⟩:=hr;simp only[sQ];rw[e1,e2];simp only[aW,bj,Int.reduceNeg]
  repeat(first|rw[ab (by omega)]|rw[ak (by omega)])
 ·rw[dH (by decide),dH (by decide),dH (by decide),dH (by decide),oO (by decide)]
  simp only[wZ,bj,Int.reduceEq,ad,aA]at hr;obtain⟨e1,e2⟩:=hr;simp only[sQ];rw[e1,e2];simp only[aW,bj,Int.reduceNeg]
  repeat(first|rw[ab (by omega)]|rw[ak (by omega)])
 ·rw[dH (by decide),dH (by decide),dH (by decide),dH (by decide),dH (by decide),oO (by decide)]
  simp only[wZ,bj,Int.reduceEq,ad,aA]at hr;obtain⟨e1,e2⟩:=hr;simp only[sQ];rw[az (x:=xh-yl) (by omega) (by omega),az (x:=yh-xl) (by omega) (by omega),e2,<-e1]
  simp only[aW,bj,Int.reduceNeg]
  repeat(first|rw[ab (by omega)]|rw[ak (by omega)])
 ·rw[dH (by decide),dH (by decide),dH (by decide),dH (by decide),dH (by decide),dH (by decide),oO (by decide)]
  simp only[wZ,bj,Int.reduceEq,ad,aA]at hr;obtain⟨e1,e2⟩:=hr;have hm:=avP (x:=xl) (y:=xh) ⟨x1,x2⟩ ⟨x3,x4⟩;simp only[sQ];rw[J' (y:=xl) ⟨x1,x2⟩,J' (y:=xh) ⟨x3,x4⟩];have em:gI (Jo xl) (Jo xh)=se xl xh:=rfl;rw[em,az (x:=0-se xl xh) (by omega) (by omega),e2]
  have e3:0-rh=rl:=by rw[<-e1,<-e2];omega
  rw[e3];simp only[aW,bj,Int.reduceNeg]
  repeat(first|rw[ab (by omega)]|rw[ak (by omega)])
 ·rw[dH (by decide),dH (by decide),dH (by decide),dH (by decide),dH (by decide),dH (by decide),dH (by decide),oO (by decide)]
  simp only[wZ,bj,Int.reduceEq,ad,aA]at hr;obtain⟨e1,e2⟩:=hr;simp only[sQ];rw[gC,ag (by rfl)]
  unfold TP;simp only[aW];rw[gC,ag (by rfl)]
  unfold TQ;simp only[aW,bj,Int.reduceNeg];rw[e1,e2]
  repeat(first|rw[ab (by omega)]|rw[ak (by omega)])
 ·rw[dH (by decide),dH (by decide),dH (by decide),dH (by decide),dH (by decide),dH (by decide),dH (by decide),dH (by decide),oO (by decide)]
  simp only[wZ,bj,Int.reduceEq,ad,aA]at hr;obtain⟨e1,e2⟩:=hr;simp only[sQ];rw[J' (y:=xl) ⟨x1,x2⟩,J' (y:=xh) ⟨x3,x4⟩];have em:gI (Jo xl) (Jo xh)=se xl xh:=rfl;rw[em,e2,<-e1];simp only[aW,bj,Int.reduceNeg]
  repeat(first|rw[ab (by omega)]|rw[ak (by omega)])
def nL(a b:Int)(st:List (Int×Int))(o:nC):Option (List (Int×Int)):=
 if o.code=0 then some (st++[(0,a)])else if o.code=1 then some (st++[(0,b)])else if o.code=2 then some (st++[(o.arg,o.arg)])
 else match w_ o.code o.arg (st.getD (st.length-(dI o.code).toNat) (0,0)) (st.getD (st.length-1) (0,0))with
  |none=>none
  |some v=>some (st.take (st.length-(dI o.code).toNat)++[v])
def hJ(a b:Int):List nC->List (Int×Int)->Option (List (Int×Int))
 | [],st=>some st
 |o::r,st=>match nL a b st o with
  |none=>none
  |some st'=>hJ a b r st'
theorem pJ(a b:Int):∀ (l:List nC) (o:nC) (st:List (Int×Int)),hJ a b (l++[o]) st=(hJ a b l st).bind fun s=>nL a b s o
 | [],o,st=>by
  simp only[bg,hJ,Option.bind];cases nL a b st o<;>rfl
 |p::l,o,st=>by
  simp only[aZ,hJ];cases nL a b st p with
  |none=>rfl
  |some s=>exact pJ a b l o s
theorem UA{a b:Int}{os:List nC}{r:List (Int×Int)}(h:hJ a b os []=some r):∀ (n k:Nat),k+n=os.length->∃s,hJ a b (os.take k) []=some s
 |0,k,hk=>⟨r,by rw[cf (by omega)];exact h⟩
 |n+1,k,hk=>by
  obtain⟨s,hs⟩:=UA h n (k+1) (by omega)
  rw[jP,aj (show k<os.length by omega)]at hs
  have hs:hJ a b (os.take k++[os[k]]) []=some s:=hs;rw[pJ]at hs;cases hq:hJ a b (os.take k) []with
  |none=>rw[hq]at hs;cases hs
  |some q=>exact⟨q,rfl⟩
@[reducible] def Uz(st:List (Int×Int)):List PD:=recs (fun p=>[.i p.1,.i p.2]) st
theorem pI(st:List (Int×Int)):bH (Uz st) 2=(st.length:Int):=ti (enc:=fun p:Int×Int=>[PD.i p.1,.i p.2]) (es:=2) (fun _=>rfl) (by omega) st
theorem Ci{st:List (Int×Int)}(n:Nat)(h:n<st.length):(el (Uz st) (n:Int) 2 0).n=(st.getD n (0,0)).1/\(el (Uz st) (n:Int) 2 1).n=(st.getD n (0,0)).2:=by
 rw[lO (enc:=fun p:Int×Int=>[PD.i p.1,.i p.2]) (es:=2) (fun _=>rfl) (aj h) (by omega),lO (enc:=fun p:Int×Int=>[PD.i p.1,.i p.2]) (es:=2) (fun _=>rfl) (aj h) (by omega)]
 have e:st.getD n (0,0)=st[n]:=by rw[ae,aj h];rfl
 rw[e];exact⟨rfl,rfl⟩
theorem Ev(st:List (Int×Int))(n:Nat):iv (Uz st) 0 (n:Int) 2=Uz (st.take n):=by
 unfold iv;rw[au]
 show List.drop (0*2) _=_
 rw[dc,eO]
 induction st generalizing n with
 |nil=>simp[recs]
 |cons p r ih=>
  cases n with
  |zero=>simp[recs]
  |succ n=>have:=ih n;unfold Uz recs at this ⊢;rw[fg,List.take_succ_cons,fg,List.take_append];simp only[cj,dr];rw[show(n+1)*2-(0+1+1)=n*2 by omega,this,cf (by simp;omega)]
theorem wY(st:List (Int×Int))(u v:Int):Uz st++(([]++[PD.i u])++[PD.i v])=Uz (st++[(u,v)]):=by unfold Uz recs;rw[List.flatMap_append];rfl
theorem O_{a b:Int}{os:List nC}{two:Bool}(ho:p9 os two)(a1:1<=a)(a2:a<=4294967296)(b1:1<=b)(b2:b<=4294967296):∀ (k:Nat) (s:List (Int×Int)),k<=os.length->hJ a b (os.take k) []=some s->(s.length:Int)=dep (os.take k)/\∀p∈s,vk p
 |0,s,_,h=>by
  have h:some []=some s:=h;cases h;simp[dep]
 |k+1,s,hk,h=>by
  have hg:=aj (l:=os) (show k<os.length by omega)
  rw[jP,hg]at h;have h:hJ a b (os.take k++[os[k]]) []=some s:=h;rw[pJ]at h;cases hq:hJ a b (os.take k) []with
  |none=>rw[hq]at h;cases h
  |some q=>
   rw[hq]at h;have h:nL a b q os[k]=some s:=h;obtain⟨i1,i2⟩:=O_ ho a1 a2 b1 b2 k q (by omega) hq
   obtain⟨⟨o1,o2,o3⟩,o4,o5⟩:=ho.op k _ hg;rw[xN hg];unfold nL at h;have mem:∀v:Int×Int,vk v->∀p∈q++[v],vk p:=fun v hv p hp=>by
    rcases cw.1 hp with hp|hp
    ·exact i2 p hp
    ·rw[ck]at hp;subst hp;exact hv
   split at h
   ·rename_i hc;cases h;rw[hc];exact⟨by rw[ba];simp[dI];omega,mem _ (by unfold vk dW;simp only;omega)⟩
   ·split at h
    ·rename_i hc;cases h;rw[hc];exact⟨by rw[ba];simp[dI];omega,mem _ (by unfold vk dW;simp only;omega)⟩
    ·split at h
     ·rename_i hc;cases h;rw[hc];exact⟨by rw[ba];simp[dI];omega,mem _ (by unfold vk dW;simp only;omega)⟩
     ·split at h
      ·cases h
      ·rename_i v hv;cases h;obtain⟨_,v1,v2⟩:=abH hv;have ht:=oT os[k].code;refine⟨by rw[ba,bu];simp only[List.length_singleton];omega,fun p hp=>?_⟩
       rcases cw.1 hp with hp|hp
       ·exact i2 p (fD hp)
       ·rw[ck]at hp;subst hp;exact⟨v1,v2⟩
theorem lR{os:List nC}{two:Bool}(ho:p9 os two){a b:Int}(a1:1<=a)(a2:a<=4294967296)(b1:1<=b)(b2:b<=4294967296){r:List (Int×Int)}(h:hJ a b os []=some r):∃lo hi,jC [.l (iK os),.i a,.i b]=some [.i lo,.i hi,.i 0]:=by
 have hl2:=ho.l2;have hv:g_ [.l (iK os),.i 1]=some [.i 0]:=ng (two:=true) ⟨ho.l1,ho.l2,ho.d,fun k o hk=>⟨(ho.op k o hk).1,fun _=>rfl,(ho.op k o hk).2.2⟩⟩
 have hS:∀k,k<=os.length->∃s,hJ a b (os.take k) []=some s:=fun k hk=>UA h (os.length-k) k (by omega)
 have hr1:∃p,r=[p]:=by
  have:=(O_ ho a1 a2 b1 b2 os.length r (bD _) (by rw[ez];exact h)).1
  rw[ez,ho.d]at this;exact List.length_eq_one_iff.1 (by omega)
 obtain⟨p,rfl⟩:=hr1;have hl:aO (fun S=>oa NN (.l (iK os)) (.i a) (.i b) (gg S 0) (gg S 1)) NN [.l [],.i 0]=some (.brk 0 [.l (Uz [p])]):=by
  refine bJ (fun k=>[.l (Uz ((hJ a b (os.take k) []).getD [])),.i (k:Int)]) os.length NN (cC (by omega)) (fun k hk=>?_) ?_
  ·obtain⟨s,hs⟩:=hS k (by omega)
   obtain⟨s',hs'⟩:=hS (k+1) (by omega)
   obtain⟨i1,i2⟩:=O_ ho a1 a2 b1 b2 k s (by omega) hs
   have hg:=aj (l:=os) hk;obtain⟨⟨o1,o2,o3⟩,o4,o5⟩:=ho.op k _ hg;obtain⟨c1,c2⟩:=aa3 hg;have hd:=PU ho k (by omega)
   have hstep:nL a b s os[k]=some s':=by rw[jP,hg]at hs';have hs':hJ a b (os.take k++[os[k]]) []=some s':=hs';rw[pJ,hs]at hs';exact hs'
   rw[hs,hs'];simp only[dw];have w3:aH ((k:Int)+1)=((k+1:Nat):Int):=az (by omega) (by omega)
   unfold oa;simp only[aW,bj,jX,pI,c1,c2,w3,wY];unfold nL at hstep;rw[ab (by omega),ab (by omega)]
   split at hstep
   ·rename_i hc;cases hstep;rw[ab hc,ab (by omega)]
   ·rename_i hc0;rw[ak hc0];split at hstep
    ·rename_i hc;cases hstep;rw[ab hc,ab (by omega)]
    ·rename_i hc1;rw[ak hc1];split at hstep
     ·rename_i hc;cases hstep;rw[ab hc,ab (by omega)]
     ·rename_i hc2;rw[ak hc2];split at hstep
      ·cases hstep
      ·rename_i v hv';cases hstep;have ht:=oT os[k].code;have ht1:1<=dI os[k].code:=by
        unfold dI;split
        ·omega
        ·split <;>omega
       rw[wB o1 o2,ag (by rfl)]
       unfold D2;have w1:aH ((s.length:Int)-dI os[k].code)=((s.length-(dI os[k].code).toNat:Nat):Int):=by rw[az (by omega) (by omega)];omega
       have w2:aH ((s.length:Int)-1)=((s.length-1:Nat):Int):=by rw[az (by omega) (by omega)];omega
       simp only[aW,bj,pI,c1,c2,w1,w2];rw[ab (by omega),ab (by omega),ab (by omega),ab (by omega)]
       have hi1:s.length-(dI os[k].code).toNat<s.length:=by omega
       have hi2:s.length-1<s.length:=by omega
       rw[(Ci _ hi1).1,(Ci _ hi1).2,(Ci _ hi2).1,(Ci _ hi2).2];have hmem:∀i,i<s.length->vk (s.getD i (0,0)):=fun i hi=>by
        rw[ae,aj hi];exact i2 _ (ce hi)
       rw[aaM (by omega) o2 (hmem _ hi1) (hmem _ hi2) hv',ag (by rfl)]
       unfold D3;simp only[aW,bj,Int.reduceEq,pI,w1,w3,Ev,wY];rw[ab (by omega),ab (by omega)]
  ·rw[ez,h];unfold oa;simp only[aW,bj,jX,dw];rw[ak (by omega)]
 refine⟨p.1,p.2,?_⟩;refine aK (N:=NN) ?_;rw[Rs];refine bI ?_;unfold M9;simp only[pl2];rw[hv,ag (by rfl)]
 unfold D0;simp only[aW,bj]
 repeat(first|rw[ab (by omega)]|rw[ak (by omega)])
 rw[hl];simp only[bi];unfold D1;simp only[aW,bj,pI];rfl
end Go.Proofs.YtlchkibailfldaaGreat.Ex
