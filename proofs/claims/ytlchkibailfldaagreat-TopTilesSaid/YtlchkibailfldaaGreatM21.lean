/-
  Part 21 of the proof that TopTiles returns true at every call and leaves what it was given as it was; no condition beyond the row's own.
-/
import Derived.Test.YtlchkibailfldaaGreatM09
import Derived.Test.YtlchkibailfldaaGreatM20
set_option linter.unusedVariables false
set_option linter.unusedSimpArgs false
set_option linter.unusedSectionVars false
namespace Go.Proofs.YtlchkibailfldaaGreat.Ex
open Go Go.RowKit
theorem afl(xs:List Int)(hl:xs.length<=1000000):Tn [.l (il xs),.l (il xs)]=some [.i 1]:=by
 refine aK (N:=NN) ?_;rw[amf];refine bI ?_;unfold apP;simp only[aW,bj,bm];have hl:aO (fun S=>DE NN (.l (il xs)) (.l (il xs)) (gg S 0)) NN [.i 0]=some (.brk 0 []):=by
  refine bJ (fun k=>[.i (k:Int)]) xs.length NN (cC (by omega)) (fun k hk=>?_) ?_
  ·have w4:aH ((k:Int)+1)=((k+1:Nat):Int):=az (by omega) (by omega)
   unfold DE;simp only[aW,bj,bm,w4];rw[ab (by omega),ab (by omega),ab (by omega)]
  ·unfold DE;simp only[aW,bj,bm];rw[ak (by omega)]
 rw[hl];rfl
theorem aaa(ps:List Pl)(h:∀p∈ps,p.pix.length<=4096)(hl:ps.length<=100):Mg [.l (fE ps),.l (fE ps)]=some [.i 1]:=by
 refine aK (N:=NN) ?_;rw[afr];refine bI ?_;unfold ajd;simp only[aW,bj,cO];have hl:aO (fun S=>yS NN (.l (fE ps)) (.l (fE ps)) (gg S 0)) NN [.i 0]=some (.brk 0 []):=by
  refine bJ (fun k=>[.i (k:Int)]) ps.length NN (cC (by omega)) (fun k hk=>?_) ?_
  ·have w4:aH ((k:Int)+1)=((k+1:Nat):Int):=az (by omega) (by omega)
   have hg:=aj hk;have hp:=h _ (ce hk);have hel:=ry hg;generalize ps[k]=p at hg hp hel;have hs:=afl p.pix (by omega)
   have he:Md [.i p.W,.i p.H,.i p.M,.l (il p.pix),.i p.W,.i p.H,.i p.M,.l (il p.pix)]=some [.i 1]:=by
    refine aK (N:=NN) ?_;rw[afn];refine bI ?_;unfold ajc;simp only[aW,bj];rw[hs,ag (by rfl)]
    rfl
   unfold yS;simp only[aW,bj,cO,hel];rw[ab (by omega),ab (by omega),ab (by omega),he,ag (by rfl)]
   unfold Tq;simp only[aW,bj,Int.reduceEq,w4]
  ·unfold yS;simp only[aW,bj,cO];rw[ak (by omega)]
 rw[hl];rfl
section
variable {j:Jb}{sh:Nat->Sz}(h:j.Ok sh){P:Nat->Pl}(hP:j.Pls sh j.sts.length P)(hsm:∀k,k<j.ins.length+j.sts.length->(sh k).W*(sh k).H<=200)
include h hP hsm
theorem Uw{tw th:Nat}(t1:1<=tw)(t2:tw<=64)(u1:1<=th)(u2:th<=64){ls:List (List Tk)}(hls:ls.length=j.sts.length)(hst:∀i s l,j.sts[i]?=some s->ls[i]?=some l->qW j sh tw th i s l)(hT:ls.flatten.length<=5000):
  ∀c,c<=j.sts.length->∀N,aO (nV j ls.flatten) (N+(ls.take c).flatten.length) [.l [],.i 0,.l (fE (u7 P sh (j.ins.length+j.sts.length) j.ins.length))]=
   aO (nV j ls.flatten) N [.l [],.i (((ls.take c).flatten.length:Nat):Int),.l (fE (u7 P sh (j.ins.length+j.sts.length) (j.ins.length+c)))]
 |0,_,N=>rfl
 |c+1,hc,N=>by
  have hg:=aj (l:=j.sts) (show c<j.sts.length by omega)
  have hg2:=aj (l:=ls) (show c<ls.length by omega)
  have hl:=hst _ _ _ hg hg2;have ht:ls.take (c+1)=ls.take c++[ls[c]]:=dy (by omega)
  have hf:(ls.take (c+1)).flatten.length=(ls.take c).flatten.length+(ls[c]).length:=by
   have e1:[ls[c]].flatten=ls[c]:=by simp
   rw[ht,iN,ba,e1]
  have hall:ls.flatten=(ls.take c).flatten++(ls[c]++(ls.drop (c+1)).flatten):=by
   have e2:ls=ls.take c++(ls[c]::ls.drop (c+1)):=by rw[<-eY (by omega),List.take_append_drop]
   conv=>lhs;rw[e2]
   rw[iN,List.flatten_cons]
  have hstep:=alD h hP t1 t2 u1 u2 hsm hg hl (k0:=(ls.take c).flatten.length) hT (fun k t hk=>by
   have hkl:=(av.1 hk).1;rw[hall,bA (by omega),show(ls.take c).flatten.length+k-(ls.take c).flatten.length=k by omega,bl hkl]
   exact hk) N
  rw[hf,show N+((ls.take c).flatten.length+(ls[c]).length)=(N+(ls[c]).length)+(ls.take c).flatten.length by omega,Uw t1 t2 u1 u2 hls hst hT c (by omega)]
  exact hstep
theorem aaT:u7 P sh (j.ins.length+j.sts.length) (j.ins.length+j.sts.length)=Rt P (j.ins.length+j.sts.length) (j.ins.length+j.sts.length):=by
 unfold u7 Rt jb;refine cg fun k hk=>?_
 have:=dv.1 hk;rw[ab (by omega),ab (by omega)]
theorem afM:aO (fun S=>sU NN (.l (fE (Rt P (j.ins.length+j.sts.length) (j.ins.length+j.sts.length)))) (gg S 0) (gg S 1)) NN [.l ([]++fE j.ins),.i (j.ins.length:Int)]=some (.brk 0 [.l (fE (u7 P sh (j.ins.length+j.sts.length) j.ins.length))]):=by
 have hno:=h.nodes;have e0:[]++fE j.ins=fE (u7 P sh (j.ins.length+0) j.ins.length):=by
  rw[bg]
  congr 1
  apply cF;intro i;rw[ch]
  by_cases hi:i<j.ins.length
  ·rw[qF P sh hi,ab hi,aj hi,hP.ins i _ (aj hi)]
  ·rw[bp (by omega),bp (by rw[m5];omega)]
 rw[e0];refine bJ (fun k=>[.l (fE (u7 P sh (j.ins.length+k) j.ins.length)),.i ((j.ins.length+k:Nat):Int)]) j.sts.length NN (cC (by omega)) (fun k hk=>?_) ?_
 ·have w4:aH (((j.ins.length+k:Nat):Int)+1)=((j.ins.length+(k+1):Nat):Int):=by rw[az (by omega) (by omega)];omega
  have hel:=afP P (n:=j.ins.length+j.sts.length) (c:=j.ins.length+j.sts.length) (k:=j.ins.length+k) (by omega) (by omega)
  obtain⟨p1,p2⟩:=hP.ok (j.ins.length+k) (by omega)
  have hn:=amy _ _ _ p1.w1 p1.w2 p1.h1 p1.h2 p1.a p1.m1 p1.m2;have e1:List.replicate ((P (j.ins.length+k)).W*(P (j.ins.length+k)).H) (0:Int)=(rz (sh (j.ins.length+k)) fun _ _=>0).pix:=by rw[<-p2];unfold rz cB;exact(Bi fun _ _=>rfl).symm
  have e2:u7 P sh (j.ins.length+(k+1)) j.ins.length=u7 P sh (j.ins.length+k) j.ins.length++[rz (sh (j.ins.length+k)) fun _ _=>0]:=by
   unfold u7;rw[<-cT,ik,fR]
   congr 1
   show[if j.ins.length+k<j.ins.length then _ else _]=_
   rw[ak (by omega)]
  unfold sU;simp only[aW,bj,cO,jj,hel];rw[ab (by omega),ab (by omega),hn,ag (by rfl)]
  unfold KB;simp only[aW,bj,Int.reduceEq,cO,m5,w4];have e3:fE (u7 P sh (j.ins.length+k) j.ins.length++[rz (sh (j.ins.length+k)) fun _ _=>0])=fE (u7 P sh (j.ins.length+k) j.ins.length)++(rz (sh (j.ins.length+k)) fun _ _=>0).pd:=by
   rw[show(rz (sh (j.ins.length+k)) fun _ _=>0).pd=recs Pl.pd [rz (sh (j.ins.length+k)) fun _ _=>0]from(vV _).symm]
   exact(nd ..).symm
  rw[ab (by omega),e1,e2,e3,<-p2]
  rfl
 ·unfold sU;simp only[aW,bj,cO,jj];rw[ak (by omega)]
theorem IJ{tw th:Nat}(t1:1<=tw)(t2:tw<=64)(u1:1<=th)(u2:th<=64):
  aB (Eb (j.arg++[.i tw,.i th])) 2 (fun r=>qo NN (.l (fE j.ins)) (.l (eG j.sts)) (.l (fE (Rt P (j.ins.length+j.sts.length) (j.ins.length+j.sts.length)))) (gg r 0) (gg r 1))=some (.fin [.i 1]):=by
 have hno:=h.nodes;obtain⟨ls,g1,g2,g3⟩:=amK h t1 t2 u1 u2 hsm;have hlen:∀c,c<=j.sts.length->(ls.take c).flatten.length<=201*c:=fun c=>by
  induction c with
  |zero=>intro _;simp
  |succ c ih=>
   intro hc;have:=ih (by omega)
   have hg:=aj (l:=j.sts) (show c<j.sts.length by omega)
   have hg2:=aj (l:=ls) (show c<ls.length by omega)
   have hl:=(g2 _ _ _ hg hg2).len;obtain⟨hz,hz1,hz2⟩:=VX h t1 t2 u1 u2 hsm hg;have e1:[ls[c]].flatten=ls[c]:=by simp
   rw[dy (by omega),iN,ba,e1,hl]
   split <;>omega
 have htot:=hlen j.sts.length (bD _);rw[cf (by omega)]at htot
 have hjt:=Uw h hP hsm t1 t2 u1 u2 g1 g2 (by omega) j.sts.length (bD _) (NN-ls.flatten.length)
 rw[cf (by omega)]at hjt
 have hNN:NN-ls.flatten.length+ls.flatten.length=NN:=by unfold NN;omega
 rw[hNN]at hjt;have hend:nV j ls.flatten [.l [],.i ((ls.flatten.length:Nat):Int),.l (fE (u7 P sh (j.ins.length+j.sts.length) (j.ins.length+j.sts.length)))]=some (.brk 0 [.l (fE (u7 P sh (j.ins.length+j.sts.length) (j.ins.length+j.sts.length)))]):=by
  show jf NN (.l (fE j.ins)) (.l (eG j.sts)) (.l (C4 ls.flatten)) (.l []) (.i ((ls.flatten.length:Nat):Int)) (.l (fE (u7 P sh (j.ins.length+j.sts.length) (j.ins.length+j.sts.length))))=_
  unfold jf;simp only[aW,bj,FF];rw[ak (by omega)]
 have hone:∀N,0<N->∀ (b:List PD->Option iX) (S:List PD) (X:List PD),b S=some (.brk 0 X)->aO b N S=some (.brk 0 X):=fun N hN b S X hb=>by
  cases N with
  |zero=>omega
  |succ N=>simp only[aO,hb]
 rw[hone _ (by unfold NN;omega) _ _ _ hend]at hjt
 rw[g3,ag (by rfl)]
 unfold qo;simp only[aW,bj,cO];rw[ab (by omega),afM h hP hsm]
 simp only[bi];unfold HE;simp only[nM];unfold nV at hjt;rw[hjt];simp only[bi];unfold Ky;simp only[aW];rw[aaT h hP hsm,aaa _ (fun p hp=>by
  obtain⟨k,hk,rfl⟩:=eH.1 hp;have:=dv.1 hk;rw[ab (by omega)]
  obtain⟨p1,p2⟩:=hP.ok k (by omega)
  rw[p1.len];exact p1.a) (by rw[jj];omega),ag (by rfl)]
 unfold Kz;simp only[aW,bj,Int.reduceEq];rw[show AU []=some [.i 1]from rfl,ag (by rfl)]
 rfl
theorem arB(t:List PD)(turn:Int)(at_:Int){v:Int}{r1 r2:PD}(hk:cU [.i 5,.l t,.i at_]=some [.i v,r1,r2])(v0:0<=v)(v1:v<5):
  vw NN (.l t) (.i turn) (.l (fE j.ins)) (.l (eG j.sts)) (.l (il j.outs)) (.i j.prio) (.i at_)=some (.fin [.i 1]):=by
 have hno:=h.nodes;have hm:=aqp h hP;have w:aH ((j.ins.length:Int)+j.sts.length)=((j.ins.length+j.sts.length:Nat):Int):=az (by omega) (by omega)
 dsimp only[Jb.arg]at hm;unfold vw;simp only[qb];rw[hm,ag (by rfl)]
 unfold HC;simp only[aW,bj,cO,cZ,jj,w];rw[hk,ag (by rfl)]
 unfold HD;obtain⟨v,rfl⟩:=aN v0;have w1:aH (1+(v:Int))=((1+v:Nat):Int):=az (by omega) (by omega)
 simp only[aW,bj,w1]
 by_cases hn:Int.tmod turn 5<0
 ·have h5: -5<Int.tmod turn 5:=by
   have:=Int.lt_tmod_of_pos turn (show(0:Int)<5 by omega)
   omega
  obtain⟨u,hu⟩:=aN (show 0<=Int.tmod turn 5+5 by omega)
  rw[ab hn,hu,az (x:=((u:Nat):Int)) (by omega) (by omega),az (x:=1+((u:Nat):Int)) (by omega) (by omega),show 1+((u:Nat):Int)=((1+u:Nat):Int)by omega]
  exact IJ h hP hsm (tw:=1+v) (th:=1+u) (by omega) (by omega) (by omega) (by omega)
 ·obtain⟨u,hu⟩:=aN (show 0<=Int.tmod turn 5 by omega)
  have h5:Int.tmod turn 5<5:=Int.tmod_lt_of_pos turn (by omega)
  rw[ak hn,hu,az (x:=1+((u:Nat):Int)) (by omega) (by omega),show 1+((u:Nat):Int)=((1+u:Nat):Int)by omega]
  exact IJ h hP hsm (tw:=1+v) (th:=1+u) (by omega) (by omega) (by omega) (by omega)
end
theorem aiy{x:Int}(h1:0<=x)(h2:x<=18446744073709551615):aek x=x:=by
 show(if(false&&decide (x%18446744073709551616>=9223372036854775808))=true then x%18446744073709551616-18446744073709551616 else x%18446744073709551616)=x
 simp only[Bool.false_and,aw,iS];omega
theorem aet{n d:Int}(h:0<d):(if n<Int.tdiv n d*d then Int.tdiv n d-1 else Int.tdiv n d)=n/d/\(Int.tdiv n d=n/d\/Int.tdiv n d=n/d+1):=by
 have h1:=Int.ediv_mul_le n (show d≠0 by omega)
 have h2:=Int.lt_ediv_add_one_mul_self n h;have h3:Int.tdiv n d=n/d\/Int.tdiv n d=n/d+1:=by
  rw[Int.tdiv_eq_ediv];split
  ·left;omega
  ·right;rw[Int.sign_eq_one_of_pos h]
 refine⟨?_,h3⟩;rcases h3 with h3|h3
 ·rw[h3,ak (by omega)]
 ·rw[h3,ab h2];omega
theorem lr(a s:Int):jh [.i a,.i s]=some [.i (eL a s)]:=by
 refine aK (N:=NN) ?_;rw[afh];refine bI ?_;unfold aja;simp only[aW,bj,Int.reduceNeg]
 by_cases h1: -17592186044416<=a
 ·rw[ab h1]
  by_cases h2:17592186044416<a
  ·rw[ab h2,jS (by unfold dW;omega)]
  ·rw[ak h2];have ha:dW a:=⟨h1,by omega⟩
   by_cases h3:0<=s
   ·rw[ab h3]
    by_cases h4:24<s
    ·rw[ab h4,jS (.inr (.inr h4))]
    ·rw[ak h4]
     by_cases h5:s=0
     ·subst h5;rw[ab rfl,HM ha]
     ·obtain⟨p1,p2,p3,p4⟩:=TS s (by omega) (by omega)
      have e1:(s-1).toNat=s.toNat-1:=by omega
      have u1:aek (aH (s-1)+0)=s-1:=by rw[az (by omega) (by omega),aiy (by omega) (by omega)];omega
      have u2:aek (s+0)=s:=by rw[aiy (by omega) (by omega)];omega
      have s1:FK .i64 1 (s-1)=2^ (s.toNat-1):=by unfold FK;rw[Int.one_mul,e1];exact az (by omega) (by omega)
      have s2:FK .i64 1 s=2^s.toNat:=by unfold FK;rw[Int.one_mul];exact az (by omega) (by omega)
      rw[ak h5,u1,u2,s1,s2,KU ha (by omega) (by omega),ab (by omega),ab (by omega),ab (by omega),ab (by omega)]
      have hd:=(aet (n:=a+2^ (s.toNat-1)) (d:=2^s.toNat) (by omega))
      have h6:=Int.ediv_mul_le (a+2^ (s.toNat-1)) (show(2:Int)^s.toNat≠0 by omega)
      have h7:=Int.lt_ediv_add_one_mul_self (a+2^ (s.toNat-1)) (show(0:Int)<2^s.toNat by omega)
      obtain⟨a1,a2⟩:=ha;generalize(2:Int)^ (s.toNat-1)=q at *;generalize(2:Int)^s.toNat=d at *;have n1:aH (a+q)=a+q:=az (by omega) (by omega)
      have nb: -20000000000000<=a+q/\a+q<=20000000000000:=by omega
      rw[n1];generalize a+q=n at *;rw[Int.add_mul,Int.one_mul]at h7;obtain⟨hd1,hd2⟩:=hd;have b1: -100000000000000<=n/d/\n/d<=100000000000000:=by
       constructor
       ·exact Int.le_ediv_of_mul_le (by omega) (by omega)
       ·exact Int.ediv_le_of_le_mul (by omega) (by omega)
      have b2: -100000000000000<=Int.tdiv n d/\Int.tdiv n d<=100000000000001:=by omega
      have b3:aH (Int.tdiv n d)=Int.tdiv n d:=az (by omega) (by omega)
      have b4: -100000000000000<=Int.tdiv n d*d/\Int.tdiv n d*d<=100000000000000:=by
       rcases hd2 with hd2|hd2
       ·rw[hd2];omega
       ·rw[hd2,Int.add_mul,Int.one_mul];omega
      have b5:aH (Int.tdiv n d*d)=Int.tdiv n d*d:=az (by omega) (by omega)
      have b6:aH (Int.tdiv n d-1)=Int.tdiv n d-1:=az (by omega) (by omega)
      rw[b3,b5,b6,<-hd1];split <;>(split <;>first|rfl|omega)
   ·rw[ak h3,jS (.inr (.inl (by omega)))]
 ·rw[ak h1,jS (.inl (by unfold dW;omega))]
theorem aqi:∀ {xs:List Int},(∀x∈xs,-32767<=x/\x<=32767)->Rv xs=true
 | [],_=>rfl
 |v::r,h=>by
  rw[Rv,ab (h v (bN ..))];exact aqi fun x hx=>h x (aU _ hx)
theorem r7(xs:List Int)(hl:xs.length<=100000):r8 [.l (il xs)]=some [.i (if Rv xs=true then 1 else 0)]:=by
 obtain⟨k,X,h1,h2⟩:=cX (b:=fun S=>J5 NN (.l (il xs)) (gg S 0)) (fun i S=>S=[.i (i:Int)]/\∀x∈xs.take i,-32767<=x/\x<=32767) (fun k X=>(k=0/\∀x∈xs,-32767<=x/\x<=32767)\/(k=1/\∃x∈xs,¬ (-32767<=x/\x<=32767))) xs.length (fun i S hi ⟨hS,hx⟩=>by
  subst hS;have w4:aH ((i:Int)+1)=((i+1:Nat):Int):=az (by omega) (by omega)
  have hm:=ce hi;have hn:∀x∈xs.take (i+1),x∈xs.take i\/x=xs[i]:=fun x hx=>by
   rw[dy hi]at hx;rcases cw.1 hx with h|h
   ·exact Or.inl h
   ·exact Or.inr (ck.1 h)
  unfold J5;simp only[aW,bj,Int.reduceNeg,bm,dz,au,w4];rw[ab (by omega),ab (by omega),ae,aj hi]
  simp only[dw];generalize xs[i]=v at hm hn
  by_cases c1: -32767<=v
  ·rw[ab c1]
   by_cases c2:32767<v
   ·rw[ab c2];exact Or.inr ⟨1,[],rfl,Or.inr ⟨rfl,v,hm,by omega⟩⟩
   ·rw[ak c2];refine Or.inl ⟨_,rfl,rfl,fun x hx'=>?_⟩
    rcases hn x hx' with h|rfl
    ·exact hx x h
    ·omega
  ·rw[ak c1];exact Or.inr ⟨1,[],rfl,Or.inr ⟨rfl,v,hm,by omega⟩⟩) (fun S ⟨hS,hx⟩=>by
  subst hS;refine⟨0,[],?_,Or.inl ⟨rfl,fun x h=>hx x (by rw[cf (bD _)];exact h)⟩⟩
  unfold J5;simp only[aW,bj,Int.reduceNeg,bm];rw[ak (by omega)]) xs.length 0 NN [.i 0] (by omega) (cC (by omega)) ⟨rfl,by simp⟩
 refine aK (N:=NN) ?_;rw[apL];refine bI ?_;unfold ay2;rw[h1];rcases h2 with⟨rfl,h2⟩|⟨rfl,x,h2,h3⟩
 ·rw[ab (aqi h2)];rfl
 ·have:Rv xs≠true:=fun h=>h3 (D9 h x h2)
  rw[ak this];rfl
theorem aBh{lo hi:Int}(b2: -68719476736<=lo)(b3:hi<=68719476736)(b1:lo<=hi):∀ (ys:List Int),(∀x∈ys,-32767<=x/\x<=32767)-> -2251799813685248*(ys.length:Int)<=gv lo hi ys/\gv lo hi ys<=2251799813685248*ys.length/\ -2251799813685248*(ys.length:Int)<=gJ lo hi ys/\gJ lo hi ys<=2251799813685248*ys.length:=by
 intro ys
 induction ys with
 |nil=>intro _;simp[gv,gJ]
 |cons y r ih=>
  intro hy;have i1:=ih fun x hx=>hy x (aU _ hx)
  have i2:=hy y (bN ..);have p1:=qE i2.1 i2.2 b2 (show lo<=68719476736 by omega)
  have p2:=qE i2.1 i2.2 (show -68719476736<=hi by omega) b3
  simp only[gv,gJ,cj];omega
theorem avi(lo hi:Int):∀ (ys zs:List Int),gv lo hi (ys++zs)=gv lo hi ys+gv lo hi zs/\gJ lo hi (ys++zs)=gJ lo hi ys+gJ lo hi zs:=by
 intro ys zs
 induction ys with
 |nil=>simp[gv,gJ]
 |cons y r ih=>simp only[aZ,gv,gJ];omega
@[reducible] def bdR(t:Int×Int×Bool):List PD:=[.i t.1,.i t.2.1,.i (if t.2.2=true then 1 else 0)]
theorem lP(xs:List Int)(hl:xs.length<=100000)(lo hi:Int):lu [.l (il xs),.i lo,.i hi]=some (bdR (du xs lo hi)):=by
 have hz:bdR (0,0,false)=[.i 0,.i 0,.i 0]:=rfl;refine aK (N:=NN) ?_;rw[Z6];refine bI ?_;unfold Z7;simp only[aW,bj,bm]
 by_cases l1:xs.length=0
 ·rw[ab (by omega),jc (Or.inl (by rw[C_ (Or.inl l1)];omega)),hz]
 rw[ak (by omega)]
 by_cases l2:81<xs.length
 ·rw[ab (by omega),jc (Or.inl (by rw[C_ (Or.inr l2)];omega)),hz]
 rw[ak (by omega),r7 xs hl,ag (by rfl)]
 unfold L_;simp only[aW,bj,Int.reduceNeg]
 by_cases ho:Rv xs=true
 ·have hw:=HA (show ¬ (xs.length=0\/81<xs.length)by omega) ho
  have w3:=D9 ho;rw[ab ho];simp only[bj,Int.reduceEq,Int.reduceNeg]
  by_cases c1:hi<lo
  ·rw[ab c1,jc (by omega),hz]
  rw[ak c1]
  by_cases c2:lo< -68719476736
  ·rw[ab c2,jc (by omega),hz]
  rw[ak c2]
  by_cases c3:68719476736<hi
  ·rw[ab c3,jc (by omega),hz]
  rw[ak c3];have b2: -68719476736<=lo:=by omega
  have b3:hi<=68719476736:=by omega
  have hlp:aO (fun S=>tv NN (.l (il xs)) (.i lo) (.i hi) (gg S 0) (gg S 1) (gg S 2)) NN [.i 0,.i 0,.i 0]=some (.brk 0 [.i (gv lo hi xs),.i (gJ lo hi xs)]):=by
   refine bJ (fun i=>[.i (gv lo hi (xs.take i)),.i (gJ lo hi (xs.take i)),.i (i:Int)]) xs.length NN (cC (by omega)) (fun i hi'=>?_) ?_
   ·unfold tv;simp only[aW,bj,bm,dz,au];have hm:=w3 _ (ce hi');have p1:=qE hm.1 hm.2 b2 (show lo<=68719476736 by omega)
    have p2:=qE hm.1 hm.2 (show -68719476736<=hi by omega) b3
    have q1:=aBh b2 b3 (show lo<=hi by omega) (xs.take i) fun x hx=>w3 x (fD hx)
    have e1:=avi lo hi (xs.take i) [xs[i]];rw[ab (by omega),ab (by omega),ae,aj hi',dy hi',e1.1,e1.2]
    simp only[dw,gv,gJ,Int.add_zero];have ql:((xs.take i).length:Int)<=81:=by rw[bu];omega
    have m1:lU (xs[i]*lo) (xs[i]*hi)=min (xs[i]*lo) (xs[i]*hi):=by unfold lU;split <;>omega
    have m2:gI (xs[i]*lo) (xs[i]*hi)=max (xs[i]*lo) (xs[i]*hi):=by unfold gI;split <;>omega
    simp(disch:=omega) only[az];rw[m1,m2];rfl
   ·unfold tv;simp only[aW,bj,bm];rw[ak (by omega),cf (bD _)]
  rw[hlp];simp only[bi];unfold Ma;simp only[aW,bj,Int.reduceNeg]
  by_cases ha:dW (gv lo hi xs)/\dW (gJ lo hi xs)
  ·rw[P6 hw (by omega) b2 b3 ha.1 ha.2]
   obtain⟨⟨a1,a2⟩,a3,a4⟩:=ha;rw[ab a1,ak (by omega),ab a3,ak (by omega)]
   rfl
  ·rw[P7 hw (by omega) b2 b3 ha,hz]
   unfold dW at ha
   by_cases c4: -17592186044416<=gv lo hi xs
   ·rw[ab c4]
    by_cases c5:17592186044416<gv lo hi xs
    ·rw[ab c5]
    ·rw[ak c5]
     by_cases c6: -17592186044416<=gJ lo hi xs
     ·rw[ab c6,ab (by omega)]
     ·rw[ak c6]
   ·rw[ak c4]
 ·rw[ak ho];have hw:=VV (show ¬ (xs.length=0\/81<xs.length)by omega) (by simpa using ho)
  rw[jc (Or.inl (by rw[hw];omega)),hz]
  rw[ab rfl]
def Cd(P:Prop)(o:Option iX):Prop:=∃c:Int,o=some (.fin [.i c])/\(c=0->P)
theorem Cd.bad{P:Prop}{c:Int}(h:c≠0):Cd P (some (.fin [.i c])):=⟨c,rfl,fun h0=>absurd h0 h⟩
theorem Cd.good{P:Prop}(h:P):Cd P (some (.fin [.i 0])):=⟨0,rfl,fun _=>h⟩
theorem Cd.ite{P c:Prop}[Decidable c]{x y:Option iX}(h1:c->Cd P x)(h2:¬c->Cd P y):Cd P (if c then x else y):=by
 split
 ·exact h1 (by assumption)
 ·exact h2 (by assumption)
theorem Cd.fn{P:Prop}{o:Option iX}{f:Option (List PD)}(h:Cd P o)(hf:AH o=f):∃c:Int,f=some [.i c]/\(c=0->P):=by obtain⟨c,h1,h2⟩:=h;exact⟨c,by rw[<-hf];exact bI h1,h2⟩
theorem aKg{P:Prop}{o:Option iX}{f:List PD->Option (List PD)}{a:List PD}(h:Cd P o)(hf:∀c:Int,o=some (.fin [.i c])->f a=some [.i c]):∃c:Int,f a=some [.i c]/\(c=0->P):=by obtain⟨c,h1,h2⟩:=h;exact⟨c,hf c h1,h2⟩
theorem ar7{xs:List Int}(h1:1<=xs.length)(h2:xs.length<=81)(h:Rv xs=true):fm xs=0:=HA (by omega) h
theorem tz{A:Sz}(h:A.Ok):yO [.i A.W,.i A.H,.i A.M]=some [.i 1]:=by
 obtain⟨h1,h2,h3,h4,h5,h6,h7⟩:=h;have w:aH ((A.W:Int)*A.H)=((A.W*A.H:Nat):Int):=by rw[<-aX,az (by omega) (by omega)]
 refine aK (N:=NN) ?_;rw[ame];refine bI ?_;unfold apM;simp only[aW,bj,w];rw[ab (by omega),ab (by omega),ab (by omega),ab (by omega),ab (by omega),ab (by omega),ab (by omega)]
theorem Z8{p:Pl}(h:p.Ok):Mc p.pd=some [.i 1]:=by
 have hs:=tz h.sh;obtain⟨w1,w2,h1,h2,a,m1,m2,len,bd⟩:=h;have w:aH ((p.W:Int)*p.H)=((p.W*p.H:Nat):Int):=by rw[<-aX,az (by omega) (by omega)]
 dsimp only[Pl.pd];refine aK (N:=NN) ?_;rw[afi];refine bI ?_;unfold ajb;simp only[sQ];rw[hs,ag (by rfl)]
 unfold Tj;simp only[aW,bj,Int.reduceEq,bm,w,len];have hl:aO (fun S=>yN NN (.i p.M) (.l (il p.pix)) (gg S 0)) NN [.i 0]=some (.brk 0 []):=by
  refine bJ (fun k=>[.i (k:Int)]) p.pix.length NN (cC (by omega)) (fun k hk=>?_) ?_
  ·have w4:aH ((k:Int)+1)=((k+1:Nat):Int):=az (by omega) (by omega)
   have hm:=bd _ (np hk);unfold yN;simp only[aW,bj,bm,dz,au,w4];rw[ab (by omega),ab (by omega),ak (by omega),ak (by omega)]
  ·unfold yN;simp only[aW,bj,bm];rw[ak (by omega)]
 rw[hl];rfl
theorem we(pol fill m:Int):∃c:Int,Bz [.i pol,.i fill,.i m]=some [.i c]/\(c≠0->qa pol fill m):=by
 suffices h:∃c:Int,Wn NN (.i pol) (.i fill) (.i m)=some (.fin [.i c])/\(c≠0->qa pol fill m)by
  obtain⟨c,h1,h2⟩:=h;refine⟨c,aK (N:=NN) ?_,h2⟩;rw[afp];exact bI h1
 unfold Wn qa;simp only[aW,bj]
 by_cases c1:pol=3
 ·rw[ab c1]
  by_cases c2:0<=fill
  ·rw[ab c2];exact⟨_,rfl,fun h=>by
    split at h
    ·omega
    ·exact absurd rfl h⟩
  ·rw[ak c2];exact⟨0,rfl,fun h=>absurd rfl h⟩
 ·rw[ak c1]
  by_cases c2:0<=pol
  ·rw[ab c2]
   by_cases c3:pol<3
   ·rw[ab c3];exact⟨_,rfl,fun h=>by
     split at h
     ·omega
     ·exact absurd rfl h⟩
   ·rw[ak c3];exact⟨0,rfl,fun h=>absurd rfl h⟩
  ·rw[ak c2];exact⟨0,rfl,fun h=>absurd rfl h⟩
theorem Z0(m:Int)(kw kh:Nat)(hk:kw<=1000/\kh<=1000)(ws:List Int)(hl:ws.length<=10000)(sh out:Int):∃c:Int,Lt [.i m,.i kw,.i kh,.l (il ws),.i sh,.i out]=some [.i c]/\(c=0->aoN m kw kh ws sh out):=by
 suffices h:Cd (aoN m kw kh ws sh out) (Wi NN (.i m) (.i kw) (.i kh) (.l (il ws)) (.i sh) (.i out))by
  obtain⟨c,h1,h2⟩:=h;refine⟨c,aK (N:=NN) ?_,h2⟩;rw[afc];exact bI h1
 unfold Wi;simp only[aW,bj,bm];refine Cd.ite (fun k1=>Cd.ite (fun _=> .bad (by decide)) fun k2=>Cd.ite (fun k3=>Cd.ite (fun _=> .bad (by decide)) fun k4=>?_) fun _=> .bad (by decide)) fun _=> .bad (by decide)
 have hm:kw*kh<=9*9:=kf (by omega) (by omega)
 have hp:1<=kw*kh:=je (by omega) (by omega)
 have w:aH ((kw:Int)*kh)=((kw*kh:Nat):Int):=by rw[<-aX,az (by omega) (by omega)]
 rw[w];refine Cd.ite (fun _=> .bad (by decide)) fun k5=>?_
 have hlen:ws.length=kw*kh:=by
  apply Classical.byContradiction;intro hc;apply k5;rw[ak (by omega)]
  omega
 rw[r7 ws (by omega),ag (by rfl)]
 unfold Tf;simp only[aW,bj];refine Cd.ite (fun _=> .bad (by decide)) fun k6=>Cd.ite (fun k7=>Cd.ite (fun _=> .bad (by decide)) fun k8=>Cd.ite (fun k9=>Cd.ite (fun _=> .bad (by decide)) fun k10=>Cd.ite (fun k11=>Cd.ite (fun _=> .bad (by decide)) fun k12=>?_) fun _=> .bad (by decide)) fun _=> .bad (by decide)) fun _=> .bad (by decide)
 have hok:Rv ws=true:=by apply Classical.byContradiction;intro hc;exact k6 (ak hc)
 rw[lP ws (by omega),ag (by rfl)]
 unfold Tg;simp only[aW,bj];refine Cd.ite (fun _=> .bad (by decide)) fun k13=> .good ?_
 exact⟨by omega,by omega,by omega,by omega,hlen,ar7 (by omega) (by omega) hok,k7,by omega,k9,by omega,k11,by omega,by
  apply Classical.byContradiction;intro hc;exact k13 (ak hc)⟩
theorem WL(m:Int)(row col:List Int)(hl:row.length<=10000/\col.length<=10000)(s1 s2 out:Int):∃c:Int,Ig [.i m,.l (il row),.l (il col),.i s1,.i s2,.i out]=some [.i c]/\(c=0->ais m row col s1 s2 out):=by
 suffices h:Cd (ais m row col s1 s2 out) (M2 NN (.i m) (.l (il row)) (.l (il col)) (.i s1) (.i s2) (.i out))by
  obtain⟨c,h1,h2⟩:=h;refine⟨c,aK (N:=NN) ?_,h2⟩;rw[aav];exact bI h1
 unfold M2;simp only[aW,bj,bm];refine Cd.ite (fun k1=>Cd.ite (fun _=> .bad (by decide)) fun k2=>Cd.ite (fun k3=>Cd.ite (fun _=> .bad (by decide)) fun k4=>?_) fun _=> .bad (by decide)) fun _=> .bad (by decide)
 rw[r7 row (by omega),ag (by rfl)]
 unfold MW;simp only[aW,bj];refine Cd.ite (fun _=> .bad (by decide)) fun k5=>?_
 have hok:Rv row=true:=by apply Classical.byContradiction;intro hc;exact k5 (ak hc)
 rw[r7 col (by omega),ag (by rfl)]
 unfold MX;simp only[aW,bj];refine Cd.ite (fun _=> .bad (by decide)) fun k6=>Cd.ite (fun k7=>Cd.ite (fun _=> .bad (by decide)) fun k8=>Cd.ite (fun j7=>Cd.ite (fun _=> .bad (by decide)) fun j8=>Cd.ite (fun k9=>Cd.ite (fun _=> .bad (by decide)) fun k10=>Cd.ite (fun k11=>Cd.ite (fun _=> .bad (by decide)) fun k12=>?_) fun _=> .bad (by decide)) fun _=> .bad (by decide)) fun _=> .bad (by decide)) fun _=> .bad (by decide)
 have hok2:Rv col=true:=by apply Classical.byContradiction;intro hc;exact k6 (ak hc)
 rw[lP row (by omega),ag (by rfl)]
 unfold MY;simp only[aW,bj];refine Cd.ite (fun _=> .bad (by decide)) fun k13=>?_
 rw[lr,ag (by rfl)]
 unfold MZ;simp only[aW];rw[lr,ag (by rfl)]
 unfold M0;simp only[aW];rw[lP col (by omega),ag (by rfl)]
 unfold M1;simp only[aW,bj];refine Cd.ite (fun _=> .bad (by decide)) fun k14=> .good ?_
 exact⟨by omega,by omega,ar7 (by omega) (by omega) hok,ar7 (by omega) (by omega) hok2,k7,by omega,j7,by omega,k9,by omega,k11,by omega,by
  apply Classical.byContradiction;intro hc;exact k13 (ak hc),by
  apply Classical.byContradiction;intro hc;exact k14 (ak hc)⟩
def Fx(ts:List Tp):Prop:=ts.length<=1000/\∀t∈ts,t.ws.length<=10000
theorem aoY{ts:List Tp}{i:Nat}{t x:Tp}(hg:ts[i]?=some t)(hx:x∈ts.take (i+1)):x∈ts.take i\/x=t:=by
 obtain⟨hi,he⟩:=av.1 hg;rw[dy hi]at hx;rcases cw.1 hx with h|h
 ·exact Or.inl h
 ·rw[ck.1 h,he];exact Or.inr rfl
theorem HV(ts:List Tp)(ht:Fx ts)(n:Nat):∃c:Int,Br [.l (fh ts),.i n]=some [.i c]/\(c=0->1<=n/\n<=128/\1<=ts.length/\ts.length<=128/\∀t∈ts,t.Ok):=by
 suffices h:Cd (1<=n/\n<=128/\1<=ts.length/\ts.length<=128/\∀t∈ts,t.Ok) (Wl NN (.l (fh ts)) (.i n))by
  obtain⟨c,h1,h2⟩:=h;refine⟨c,aK (N:=NN) ?_,h2⟩;rw[aff];exact bI h1
 unfold Wl;simp only[aW,bj,e_];refine Cd.ite (fun k1=>Cd.ite (fun _=> .bad (by decide)) fun k2=>Cd.ite (fun k3=>Cd.ite (fun _=> .bad (by decide)) fun k4=>?_) fun _=> .bad (by decide)) fun _=> .bad (by decide)
 obtain⟨k,X,h1,h2⟩:=cX (b:=fun S=>yK NN (.l (fh ts)) (gg S 0)) (fun i S=>S=[.i (i:Int)]/\∀t∈ts.take i,t.Ok) (fun k X=>(k=0/\∀t∈ts,t.Ok)\/(k=1/\∃c:Int,c≠0/\X=[.i c])) ts.length (fun i S hi ⟨hS,hx⟩=>by
  subst hS;have w4:aH ((i:Int)+1)=((i+1:Nat):Int):=az (by omega) (by omega)
  have hg:=aj hi;have hlw:=ht.2 _ (ce hi);generalize ts[i]=t at hg hlw;obtain⟨e1,e2⟩:=qZ hg;unfold yK;simp only[aW,bj,e_,e2,bm];rw[ab (by omega),ab (by omega)]
  by_cases c1:(t.ws.length:Int)=0
  ·rw[ab c1];exact Or.inr ⟨1,_,rfl,Or.inr ⟨rfl,9,by decide,rfl⟩⟩
  rw[ak c1]
  by_cases c2:8<(t.ws.length:Int)
  ·rw[ab c2];exact Or.inr ⟨1,_,rfl,Or.inr ⟨rfl,9,by decide,rfl⟩⟩
  rw[ak c2,r7 t.ws (by omega),ag (by rfl)]
  unfold Ti;simp only[aW,bj,Int.reduceNeg,e1,w4]
  by_cases c3:Rv t.ws=true
  ·rw[ab c3,ak (by omega)]
   by_cases c4: -128<=t.first
   ·rw[ab c4]
    by_cases c5:256<t.first
    ·rw[ab c5];exact Or.inr ⟨1,_,rfl,Or.inr ⟨rfl,2,by decide,rfl⟩⟩
    ·rw[ak c5];refine Or.inl ⟨_,rfl,rfl,fun x hx'=>?_⟩
     rcases aoY hg hx' with h|rfl
     ·exact hx x h
     ·exact⟨by omega,by omega,D9 c3,c4,by omega⟩
   ·rw[ak c4];exact Or.inr ⟨1,_,rfl,Or.inr ⟨rfl,2,by decide,rfl⟩⟩
  ·rw[ak c3,ab rfl];exact Or.inr ⟨1,_,rfl,Or.inr ⟨rfl,10,by decide,rfl⟩⟩) (fun S ⟨hS,hx⟩=>by
  subst hS;refine⟨0,[],?_,Or.inl ⟨rfl,fun x h=>hx x (by rw[cf (bD _)];exact h)⟩⟩
  unfold yK;simp only[aW,bj,e_];rw[ak (by omega)]) ts.length 0 NN [.i 0] (by omega) (cC (by omega)) ⟨rfl,by simp⟩
 rw[h1];rcases h2 with⟨rfl,h2⟩|⟨rfl,c,h2,rfl⟩
 ·exact .good ⟨by omega,by omega,by omega,by omega,h2⟩
 ·exact .bad h2
theorem WJ(W H:Nat)(M:Int)(X Y:List Tp)(hX:Fx X)(hY:Fx Y)(s1 s2 out:Int):∃c:Int,Id [.i W,.i H,.i M,.l (fh X),.l (fh Y),.i s1,.i s2,.i out]=some [.i c]/\(c=0->au3 W H M X Y s1 s2 out):=by
 suffices h:Cd (au3 W H M X Y s1 s2 out) (MV NN (.i W) (.i H) (.i M) (.l (fh X)) (.l (fh Y)) (.i s1) (.i s2) (.i out))by
  obtain⟨c,h1,h2⟩:=h;refine⟨c,aK (N:=NN) ?_,h2⟩;rw[aat];exact bI h1
 obtain⟨cx,hx1,hx2⟩:=HV X hX W;obtain⟨cy,hy1,hy2⟩:=HV Y hY H;unfold MV;simp only[qb];rw[hx1,ag (by rfl)]
 unfold Ie;simp only[aW,bj];refine Cd.ite (fun h=> .bad h) fun k1=>?_
 obtain⟨x1,x2,x3,x4,x5⟩:=hx2 (by omega)
 rw[hy1,ag (by rfl)]
 unfold If;simp only[aW,bj,e_];refine Cd.ite (fun h=> .bad h) fun k2=>?_
 obtain⟨y1,y2,y3,y4,y5⟩:=hy2 (by omega)
 have hxy:X.length*Y.length<=128*128:=kf x4 y4;have w:aH ((X.length:Int)*Y.length)=((X.length*Y.length:Nat):Int):=by rw[<-aX,az (by omega) (by omega)]
 rw[w];refine Cd.ite (fun _=> .bad (by decide)) fun k5=>Cd.ite (fun k7=>Cd.ite (fun _=> .bad (by decide)) fun k8=>Cd.ite (fun j7=>Cd.ite (fun _=> .bad (by decide)) fun j8=>Cd.ite (fun k9=>Cd.ite (fun _=> .bad (by decide)) fun k10=>Cd.ite (fun k11=>Cd.ite (fun _=> .bad (by decide)) fun k12=>?_) fun _=> .bad (by decide)) fun _=> .bad (by decide)) fun _=> .bad (by decide)) fun _=> .bad (by decide)
 obtain⟨k,R,h1,h2⟩:=cX (b:=fun S=>tT NN (.i M) (.l (fh X)) (.i s1) (gg S 0) (gg S 1) (gg S 2)) (fun i S=>∃lo hi:Int,S=[.i lo,.i hi,.i (i:Int)]/\Hl M s1 (X.drop i) i lo hi=Hl M s1 X 0 0 0)
  (fun k R=>(k=0/\∃lo hi:Int,R=[.i lo,.i hi]/\Hl M s1 X 0 0 0=some (lo,hi))\/k=1) X.length (fun i S hi ⟨lo,hh,hS,he⟩=>by
  subst hS;have w4:aH ((i:Int)+1)=((i+1:Nat):Int):=az (by omega) (by omega)
  have hg:=aj hi;have hlw:=hX.2 _ (ce hi);rw[eY hi]at he;generalize X[i]=t at hg hlw he;obtain⟨e1,e2⟩:=qZ hg;unfold tT;simp only[aW,bj,e_,e2];rw[ab (by omega),ab (by omega),lP t.ws (by omega),ag (by rfl)]
  unfold MS;simp only[aW,bj]
  by_cases c1:(du t.ws 0 M).2.2=true
  ·rw[ab c1,ak (by omega),lr,ag (by rfl)]
   unfold MT;simp only[aW];rw[lr,ag (by rfl)]
   unfold MU;simp only[aW,bj,w4];rw[Hl,ab c1]at he
   by_cases c2:i=0
   ·rw[ab c2]at he;rw[ab (by omega)]
    exact Or.inl ⟨_,rfl,_,_,rfl,he⟩
   ·rw[ak c2]at he;rw[ak (by omega)]
    exact Or.inl ⟨_,rfl,_,_,rfl,he⟩
  ·rw[ak c1,ab rfl];exact Or.inr ⟨1,[],rfl,Or.inr rfl⟩) (fun S ⟨lo,hh,hS,he⟩=>by
  subst hS;rw[List.drop_of_length_le (bD _),Hl]at he;refine⟨0,_,?_,Or.inl ⟨rfl,lo,hh,rfl,he.symm⟩⟩;unfold tT;simp only[aW,bj,e_];rw[ak (by omega)]) X.length 0 NN [.i 0,.i 0,.i 0] (by omega) (cC (by omega)) ⟨0,0,rfl,rfl⟩
 rw[h1];rcases h2 with⟨rfl,lo,hh,rfl,hacc⟩|rfl
 ·simp only[bi];unfold MP;simp only[nM,lY];obtain⟨k,R,g1,g2⟩:=cX (b:=fun S=>tS NN (.l (fh Y)) (.i lo) (.i hh) (gg S 0)) (fun i S=>S=[.i (i:Int)]/\∀t∈Y.take i,(du t.ws lo hh).2.2=true)
   (fun k R=>(k=0/\aCq lo hh Y)\/k=1) Y.length (fun i S hi ⟨hS,hx⟩=>by
   subst hS;have w4:aH ((i:Int)+1)=((i+1:Nat):Int):=az (by omega) (by omega)
   have hg:=aj hi;have hlw:=hY.2 _ (ce hi);generalize Y[i]=t at hg hlw;obtain⟨e1,e2⟩:=qZ hg;unfold tS;simp only[aW,bj,e_,e2];rw[ab (by omega),ab (by omega),lP t.ws (by omega),ag (by rfl)]
   unfold MR;simp only[aW,bj,w4]
   by_cases c1:(du t.ws lo hh).2.2=true
   ·rw[ab c1,ak (by omega)]
    refine Or.inl ⟨_,rfl,rfl,fun x hx'=>?_⟩
    rcases aoY hg hx' with h|rfl
    ·exact hx x h
    ·exact c1
   ·rw[ak c1,ab rfl];exact Or.inr ⟨1,[],rfl,Or.inr rfl⟩) (fun S ⟨hS,hx⟩=>by
   subst hS;refine⟨0,[],?_,Or.inl ⟨rfl,fun t ht=>hx t (by rw[cf (bD _)];exact ht)⟩⟩
   unfold tS;simp only[aW,bj,e_];rw[ak (by omega)]) Y.length 0 NN [.i 0] (by omega) (cC (by omega)) ⟨rfl,by simp⟩
  rw[g1];rcases g2 with⟨rfl,g2⟩|rfl
  ·exact .good ⟨x1,x2,y1,y2,k9,by omega,x3,x4,y3,y4,by omega,x5,y5,k7,by omega,j7,by omega,k11,by omega,lo,hh,hacc,g2⟩
  ·exact .bad (by decide)
 ·exact .bad (by decide)
theorem To(a b c:Int)(ha:0<=a)(hb:0<=b)(hc:0<=c)(h1:c<=1000000000000)(h2:a*b<=9223372036854775807):Mf [.i a,.i b,.i c]=some (if a*b<=c then[.i (a*b),.i 1]else[.i 0,.i 0]):=by
 have h0:0<=a*b:=gr ha hb;have w:aH (a*b)=a*b:=az (by omega) (by omega)
 refine aK (N:=NN) ?_;rw[apQ];refine bI ?_;unfold ay3;simp only[aW,bj,w];rw[ak (by omega),ak (by omega),ak (by omega)]
 by_cases hb0:0<b
 ·have hd:Int.tdiv c b=c/b:=dn hc;have hq:0<=c/b/\c/b<=c:=⟨gF hc hb,g8 _ hc⟩;have hw:aH (c/b)=c/b:=az (by omega) (by omega)
  rw[ab hb0,hd,hw,ab (by omega)]
  by_cases hlt:c/b<a
  ·rw[ab hlt,ak (fun h=>by
    have:=(fM hb0).2 h;omega)]
  ·rw[ak hlt,ab ((fM hb0).1 (by omega))]
 ·have:b=0:=by omega
  subst this;rw[ak hb0,Int.mul_zero,ab hc]
theorem aar{A:Sz}(h:A.Ok):∃v c:Int,MO [.i A.W,.i A.H,.i A.M]=some [.i v,.i c]/\(c≠0->v=A.M*((A.W*A.H:Nat):Int)/\JI A.W A.H A.M):=by
 obtain⟨h1,h2,h3,h4,h5,h6,h7⟩:=h;have e:((A.W*A.H:Nat):Int)*A.M=A.M*((A.W*A.H:Nat):Int):=Int.mul_comm ..;have hp:1<=A.W*A.H:=je h1 h3;have hmx:A.M*((A.W*A.H:Nat):Int)<=4294967296*4096:=iW h7 (by omega) (by omega) (by omega)
 suffices hh:∃v c:Int,WI NN (.i A.W) (.i A.H) (.i A.M)=some (.fin [.i v,.i c])/\(c≠0->v=A.M*((A.W*A.H:Nat):Int)/\JI A.W A.H A.M)by
  obtain⟨v,c,g1,g2⟩:=hh;refine⟨v,c,aK (N:=NN) ?_,g2⟩;rw[afx];exact bI g1
 unfold WI;simp only[sQ];rw[To _ _ 4294967296 (by omega) (by omega) (by omega) (by omega) (by rw[<-aX];omega),ab (by rw[<-aX];omega),ag (by rfl)]
 unfold Tt;simp only[aW,bj,Int.reduceEq,<-aX];rw[ak (by omega),ak (by omega),ak (by omega),To _ _ 4294967296 (by omega) (by omega) (by omega) (by omega) (by rw[e];omega),e]
 by_cases hc:A.M*((A.W*A.H:Nat):Int)<=4294967296
 ·rw[ab hc,ag (by rfl)]
  unfold Gb;simp only[aW,bj,Int.reduceEq];exact⟨_,_,rfl,fun _=>⟨rfl,hc⟩⟩
 ·rw[ak hc,ag (by rfl)]
  unfold Gb;simp only[aW,bj];exact⟨_,0,rfl,fun h=>absurd rfl h⟩
theorem db{α:Type}{R:α->Prop}{c:Prop}[Decidable c]{x y:α}(h1:c->R x)(h2:¬c->R y):R (if c then x else y):=by
 split
 ·exact h1 (by assumption)
 ·exact h2 (by assumption)
def Vs(P:Prop)(d:Int)(k:Nat)(o:Option iX):Prop:=(o=some (.again [.i d,.i ((k+1:Nat):Int)])/\P)\/∃c:Int,c≠0/\o=some (.brk 1 [.i c])
theorem Vs.bad{P:Prop}{d:Int}{k:Nat}{c:Int}(h:c≠0):Vs P d k (some (.brk 1 [.i c])):=Or.inr ⟨c,h,rfl⟩
theorem Vs.arg{P:Prop}{d e:Int}{k:Nat}(c a:Int)(he:e=d)(h:(c=2/\ -4294967296<=a/\a<=4294967296)\/(c=10/\0<=a/\a<=24)\/(c≠2/\c≠10/\a=0)->P):
  Vs P d k (if c=2 then if -4294967296<=a then if 4294967296<a then some (.brk 1 [.i 10])else some (.again [.i e,.i ((k+1:Nat):Int)])else some (.brk 1 [.i 10])
   else if c=10 then if 0<=a then if 24<a then some (.brk 1 [.i 10])else some (.again [.i e,.i ((k+1:Nat):Int)])else some (.brk 1 [.i 10])
   else if ¬a=0 then some (.brk 1 [.i 10])else some (.again [.i e,.i ((k+1:Nat):Int)])):=by
 subst he;refine db (R:=Vs P e k) (fun c1=>db (fun c2=>db (fun _=> .bad (by decide)) fun c3=>Or.inl ⟨rfl,h (by omega)⟩) fun _=> .bad (by decide)) fun c1=>db (fun c4=>db (fun c2=>db (fun _=> .bad (by decide)) fun c3=>Or.inl ⟨rfl,h (by omega)⟩) fun _=> .bad (by decide)) fun c4=>db (fun _=> .bad (by decide)) fun c5=>Or.inl ⟨rfl,h (by omega)⟩
def opC(two:Bool)(d:Int)(o:nC):Prop:=o.Ok/\(o.code=1->two=true)/\dI o.code<=d
theorem DQ(os:List nC)(hl:os.length<=1000)(two:Bool):∃c:Int,qB [.l (iK os),.i (if two=true then 1 else 0)]=some [.i c]/\(c=0->p9 os two):=by
 suffices h:Cd (p9 os two) (DR NN (.l (iK os)) (.i (if two=true then 1 else 0)))by
  obtain⟨c,h1,h2⟩:=h;refine⟨c,aK (N:=NN) ?_,h2⟩;rw[Ia];exact bI h1
 unfold DR;simp only[aW,bj,jX];refine Cd.ite (fun _=> .bad (by decide)) fun k1=>Cd.ite (fun _=> .bad (by decide)) fun k2=>?_
 obtain⟨k,X,h1,h2⟩:=cX (b:=fun S=>jU NN (.l (iK os)) (.i (if two=true then 1 else 0)) (gg S 0) (gg S 1)) (fun k S=>S=[.i (dep (os.take k)),.i (k:Int)]/\ -1000-(k:Int)<=dep (os.take k)/\dep (os.take k)<=k/\∀i o,i<k->os[i]?=some o->opC two (dep (os.take i)) o)
  (fun k X=>(k=0/\X=[.i (dep os)]/\∀i o,os[i]?=some o->opC two (dep (os.take i)) o)\/(k=1/\∃c:Int,c≠0/\X=[.i c])) os.length (fun k S hk ⟨hS,hd1,hd2,hx⟩=>by
  subst hS;have w4:aH ((k:Int)+1)=((k+1:Nat):Int):=az (by omega) (by omega)
  have hg:=aj hk;have hdt:=xN hg;obtain⟨e1,e2⟩:=aa3 hg;generalize os[k]=o at hg hdt e1 e2;have hb:=oT o.code
  suffices hv:Vs (opC two (dep (os.take k)) o) (dep (os.take (k+1))) k (jU NN (.l (iK os)) (.i (if two=true then 1 else 0)) (.i (dep (os.take k))) (.i (k:Int)))by
   rcases hv with⟨g1,g2⟩|⟨c,g1,g2⟩
   ·refine Or.inl ⟨_,g1,rfl,by omega,by omega,fun i o' hi ho=>?_⟩
    by_cases hik:i=k
    ·subst hik;rw[hg]at ho;injection ho with ho
     subst ho;exact g2
    ·exact hx i o' (by omega) ho
   ·exact Or.inr ⟨1,_,g2,Or.inr ⟨rfl,c,g1,rfl⟩⟩
  generalize dep (os.take k)=d at *;generalize dep (os.take (k+1))=d' at *;have p1:aH (d+1)=d+1:=az (by omega) (by omega)
  have p2:aH (d+0)=d:=by rw[az (by omega) (by omega)];omega
  have p3:aH (d+ -1)=d-1:=by rw[az (by omega) (by omega)];omega
  have t0:o.code<=2->dI o.code=0:=fun h=>by unfold dI;rw[ab h]
  have t1:10<=o.code->dI o.code=1:=fun h=>by unfold dI;rw[ak (by omega),ab h]
  have t2:¬o.code<=2->¬10<=o.code->dI o.code=2:=fun h h'=>by unfold dI;rw[ak h,ak h']
  unfold jU;simp only[aW,bj,Int.reduceNeg,jX,e1,e2,w4,p1,p2,p3];rw[ab (by omega),ab (by omega)]
  refine db (R:=Vs _ _ _) (fun _=> .bad (by decide)) fun c1=>db (fun _=> .bad (by decide)) fun c2=>db (fun c3=>db (fun _=> .bad (by decide)) fun c4=>?_) fun c3=>?_
  ·have htwo:two=true:=by
    apply Classical.byContradiction;intro hc;exact c4 (ak hc)
   refine db (R:=Vs _ _ _) (fun c5=>db (fun _=> .bad (by decide)) fun c6=>Vs.arg _ _ (by have:=t0 c5;omega) fun h=>⟨⟨by omega,by omega,h⟩,fun _=>htwo,by have:=t0 c5;omega⟩)
    fun c5=>db (fun c7=>db (fun _=> .bad (by decide)) fun c6=>Vs.arg _ _ (by have:=t1 c7;omega) fun h=>⟨⟨by omega,by omega,h⟩,fun _=>htwo,by have:=t1 c7;omega⟩)
    fun c7=>db (fun _=> .bad (by decide)) fun c6=>Vs.arg _ _ (by have:=t2 c5 c7;omega) fun h=>⟨⟨by omega,by omega,h⟩,fun _=>htwo,by have:=t2 c5 c7;omega⟩
  ·refine db (R:=Vs _ _ _) (fun c5=>db (fun _=> .bad (by decide)) fun c6=>Vs.arg _ _ (by have:=t0 c5;omega) fun h=>⟨⟨by omega,by omega,h⟩,fun h=>absurd h c3,by have:=t0 c5;omega⟩)
    fun c5=>db (fun c7=>db (fun _=> .bad (by decide)) fun c6=>Vs.arg _ _ (by have:=t1 c7;omega) fun h=>⟨⟨by omega,by omega,h⟩,fun h=>absurd h c3,by have:=t1 c7;omega⟩)
    fun c7=>db (fun _=> .bad (by decide)) fun c6=>Vs.arg _ _ (by have:=t2 c5 c7;omega) fun h=>⟨⟨by omega,by omega,h⟩,fun h=>absurd h c3,by have:=t2 c5 c7;omega⟩) (fun S ⟨hS,hd1,hd2,hx⟩=>by
  subst hS;rw[cf (bD _)];refine⟨0,_,?_,Or.inl ⟨rfl,rfl,fun i o ho=>hx i o (av.1 ho).1 ho⟩⟩
  unfold jU;simp only[aW,bj,Int.reduceNeg,jX];rw[ak (by omega)]) os.length 0 NN [.i 0,.i 0] (by omega) (cC (by omega)) ⟨rfl,by simp[dep],by simp[dep],fun i o hi=>by omega⟩
 rw[h1];rcases h2 with⟨rfl,rfl,h2⟩|⟨rfl,c,h2,rfl⟩
 ·simp only[bi];unfold ML;simp only[aW,bj];refine Cd.ite (fun _=> .bad (by decide)) fun k3=> .good ⟨by omega,by omega,by
   apply Classical.byContradiction;intro hc;apply k3;rw[ak hc];omega,fun k o ho=>h2 k o ho⟩
 ·exact .bad h2
def Tmz(x y:Int)(o:Option iX):Prop:=∃v ok:Int,o=some (.fin [.i v,.i ok])/\(ok=0\/ok=1)/\(ok≠0->v=x*y/\dW (x*y))
theorem aBd(x y:Int):Tmz x y (some (.fin [.i 0,.i 0])):=⟨0,0,rfl,Or.inl rfl,fun h=>absurd rfl h⟩
theorem aiD{x y a b:Int}(hx:dW x)(hy:dW y)(ha:a=(if x<0 then -x else x))(hb:b=(if y<0 then -y else y)):
  Tmz x y (if 0<b then if ¬b=0 then if aH (Int.tdiv 17592186044416 b)<a then some (.fin [.i 0,.i 0])else some (.fin [.i (aH (x*y)),.i 1])else none else some (.fin [.i (aH (x*y)),.i 1])):=by
 obtain⟨x1,x2⟩:=hx;obtain⟨y1,y2⟩:=hy;have hab:a*b=x*y\/a*b= -(x*y):=by
  rw[ha,hb];split <;>split
  ·left;rw[Int.neg_mul_neg]
  ·right;rw[Int.neg_mul]
  ·right;rw[Int.mul_neg]
  ·left;rfl
 have ha0:0<=a/\a<=17592186044416:=by rw[ha];split <;>omega
 have hb0:0<=b/\b<=17592186044416:=by rw[hb];split <;>omega
 have hab0:0<=a*b:=gr ha0.1 hb0.1
 by_cases hbp:0<b
 ·have hd:Int.tdiv 17592186044416 b=17592186044416/b:=dn (by omega)
  have hq:0<=17592186044416/b/\17592186044416/b<=17592186044416:=⟨gF (by omega) hb0.1,g8 _ (by omega)⟩
  rw[ab hbp,ab (by omega),hd,az (x:=17592186044416/b) (by omega) (by omega)]
  by_cases hlt:17592186044416/b<a
  ·rw[ab hlt];exact aBd x y
  ·rw[ak hlt];have hle:=(fM hbp).1 (show a<=17592186044416/b by omega)
   have hac:dW (x*y):=by unfold dW;omega
   have hac2:=hac;unfold dW at hac2;rw[az (by omega) (by omega)]
   exact⟨_,1,rfl,Or.inr rfl,fun _=>⟨rfl,hac⟩⟩
 ·have:b=0:=by omega
  rw[ak hbp];subst this;rw[Int.mul_zero]at hab;have hac:dW (x*y):=by unfold dW;omega
  rw[az (by omega) (by omega)]
  exact⟨_,1,rfl,Or.inr rfl,fun _=>⟨rfl,hac⟩⟩
theorem n7{x y:Int}(hx:dW x)(hy:dW y):∃v ok:Int,nf [.i x,.i y]=some [.i v,.i ok]/\(ok=0\/ok=1)/\(ok≠0->v=x*y/\dW (x*y)):=by
 suffices h:Tmz x y (Mz NN (.i x) (.i y))by
  obtain⟨v,ok,h1,h2⟩:=h;refine⟨v,ok,aK (N:=NN) ?_,h2⟩;rw[aan];exact bI h1
 have hx':=hx;have hy':=hy;obtain⟨x1,x2⟩:=hx';obtain⟨y1,y2⟩:=hy';have n1:aH (0-x)= -x:=by rw[az (by omega) (by omega)];omega
 have n2:aH (0-y)= -y:=by rw[az (by omega) (by omega)];omega
 unfold Mz;simp only[aW,bj,n1,n2];refine db (R:=Tmz x y) (fun c1=>db (fun c2=>?_) fun c2=>?_) fun c1=>db (fun c2=>?_) fun c2=>?_
 ·exact aiD hx hy (by rw[ab c1]) (by rw[ab c2])
 ·exact aiD hx hy (by rw[ab c1]) (by rw[ak c2])
 ·exact aiD hx hy (by rw[ak c1]) (by rw[ab c2])
 ·exact aiD hx hy (by rw[ak c1]) (by rw[ak c2])
theorem MA{x y:Int×Int}(hx:vk x)(hy:vk y):∃lo hi ok:Int,m3 [.i x.1,.i x.2,.i y.1,.i y.2]=some [.i lo,.i hi,.i ok]/\(ok≠0->ud x y=some (lo,hi)):=by
 obtain⟨v1,o1,h1,p1,q1⟩:=n7 hx.1 hy.1;obtain⟨v2,o2,h2,p2,q2⟩:=n7 hx.1 hy.2;obtain⟨v3,o3,h3,p3,q3⟩:=n7 hx.2 hy.1;obtain⟨v4,o4,h4,p4,q4⟩:=n7 hx.2 hy.2
 suffices h:∃lo hi ok:Int,BE NN (.i x.1) (.i x.2) (.i y.1) (.i y.2)=some (.fin [.i lo,.i hi,.i ok])/\(ok≠0->ud x y=some (lo,hi))by
  obtain⟨lo,hi,ok,g1,g2⟩:=h;refine⟨lo,hi,ok,aK (N:=NN) ?_,g2⟩;rw[Q8];exact bI g1
 unfold BE;simp only[sQ];rw[h1,ag (by rfl)]
 unfold DL;simp only[sQ,nM,lY];rw[h2,ag (by rfl)]
 unfold DM;simp only[sQ,nM,lY];rw[h3,ag (by rfl)]
 unfold DN;simp only[sQ,nM,lY];rw[h4,ag (by rfl)]
 unfold DO;simp only[aW,bj]
 by_cases c1:o1=0
 ·rw[ak (dP c1)];exact⟨_,_,0,rfl,fun h=>absurd rfl h⟩
 rw[ab c1]
 by_cases c2:o2=0
 ·rw[ak (dP c2)];exact⟨_,_,0,rfl,fun h=>absurd rfl h⟩
 rw[ab c2]
 by_cases c3:o3=0
 ·rw[ak (dP c3)];exact⟨_,_,0,rfl,fun h=>absurd rfl h⟩
 rw[ab c3];refine⟨_,_,_,rfl,fun h=>?_⟩
 have c4:o4≠0:=fun c4=>h (by rw[ab c4])
 obtain⟨r1,a1⟩:=q1 c1;obtain⟨r2,a2⟩:=q2 c2;obtain⟨r3,a3⟩:=q3 c3;obtain⟨r4,a4⟩:=q4 c4;unfold ud;rw[ab ⟨a1,a2,a3,a4⟩,r1,r2,r3,r4];have m1:lU (x.1*y.1) (x.1*y.1)=x.1*y.1:=by unfold lU;split <;>rfl
 have m2:gI (x.1*y.1) (x.1*y.1)=x.1*y.1:=by unfold gI;split <;>rfl
 rw[m1,m2]
def T5(c arg:Int)(x y:Int×Int)(a b:Int):Option (Int×Int):=if c=0 then some (0,a)else if c=1 then some (0,b)else if c=2 then some (arg,arg)else w_ c arg x y
def Nx(r:Option (Int×Int))(o:Option iX):Prop:=∃lo hi ok:Int,o=some (.fin [.i lo,.i hi,.i ok])/\(ok≠0->r=some (lo,hi))
theorem Nx.bad{r:Option (Int×Int)}(lo hi:Int):Nx r (some (.fin [.i lo,.i hi,.i 0])):=⟨lo,hi,0,rfl,fun h=>absurd rfl h⟩
theorem Nx.last{r:Option (Int×Int)}{lo hi:Int}(h:hi<=17592186044416->r=some (lo,hi)):Nx r (some (.fin [.i lo,.i hi,.i (if hi<=17592186044416 then(1:Int)else 0)])):=⟨lo,hi,_,rfl,fun h1=>by
 apply h;apply Classical.byContradiction;intro hc;exact h1 (ak hc)⟩
theorem uW{r:Option (Int×Int)}{lo hi:Int}(h:dW lo->dW hi->r=some (lo,hi)):Nx r (if -17592186044416<=lo then if lo<=17592186044416 then if -17592186044416<=hi then some (.fin [.i lo,.i hi,.i (if hi<=17592186044416 then(1:Int)else 0)])else some (.fin [.i lo,.i hi,.i 0])else some (.fin [.i lo,.i hi,.i 0])else some (.fin [.i lo,.i hi,.i 0])):=
 db (R:=Nx r) (fun c1=>db (fun c2=>db (fun c3=> .last fun c4=>h ⟨c1,c2⟩ ⟨c3,c4⟩) fun _=> .bad ..) fun _=> .bad ..) fun _=> .bad ..
theorem Nx.one{r:Option (Int×Int)}{lo hi:Int}(h:dW hi->r=some (lo,hi)):Nx r (if -17592186044416<=hi then some (.fin [.i lo,.i hi,.i (if hi<=17592186044416 then(1:Int)else 0)])else some (.fin [.i lo,.i hi,.i 0])):=
 db (R:=Nx r) (fun c3=> .last fun c4=>h ⟨c3,c4⟩) fun _=> .bad ..
theorem kg{r:Int×Int}(h1:dW r.1)(h2:dW r.2):arj (some r)=some r:=ab ⟨h1,h2⟩
theorem Xc{p q u v:Int}(hu:u=(if p<0 then -p else p))(hv:v=(if q<0 then -q else q)):gI u v=se p q:=by unfold se Jo;rw[hu,hv]
section
variable {x y:Int×Int}(hx:vk x)(hy:vk y){a b:Int}(a1:1<=a)(a2:a<=4294967296)(b1:1<=b)(b2:b<=4294967296)
include hx hy a1 a2 b1 b2
theorem tY{c arg:Int}(h0:0<=c)(h1:c<=11){u v:Int}(hm:gI u v=se x.1 x.2){o:Option iX}
  (ho:o=(if c=0 then if -17592186044416<=a then some (.fin [.i 0,.i a,.i (if a<=17592186044416 then(1:Int)else 0)])else some (.fin [.i 0,.i a,.i 0])
   else if c=1 then if -17592186044416<=b then some (.fin [.i 0,.i b,.i (if b<=17592186044416 then(1:Int)else 0)])else some (.fin [.i 0,.i b,.i 0])
   else if c=2 then if -17592186044416<=arg then if arg<=17592186044416 then some (.fin [.i arg,.i arg,.i 1])else some (.fin [.i arg,.i arg,.i 0])else some (.fin [.i arg,.i arg,.i 0])
   else if c=3 then if -17592186044416<=aH (x.1+y.1)then if aH (x.1+y.1)<=17592186044416 then if -17592186044416<=aH (x.2+y.2)then some (.fin [.i (aH (x.1+y.1)),.i (aH (x.2+y.2)),.i (if aH (x.2+y.2)<=17592186044416 then(1:Int)else 0)])else some (.fin [.i (aH (x.1+y.1)),.i (aH (x.2+y.2)),.i 0])else some (.fin [.i (aH (x.1+y.1)),.i (aH (x.2+y.2)),.i 0])else some (.fin [.i (aH (x.1+y.1)),.i (aH (x.2+y.2)),.i 0])
   else if c=4 then if -17592186044416<=aH (x.1-y.2)then if aH (x.1-y.2)<=17592186044416 then if -17592186044416<=aH (x.2-y.1)then some (.fin [.i (aH (x.1-y.2)),.i (aH (x.2-y.1)),.i (if aH (x.2-y.1)<=17592186044416 then(1:Int)else 0)])else some (.fin [.i (aH (x.1-y.2)),.i (aH (x.2-y.1)),.i 0])else some (.fin [.i (aH (x.1-y.2)),.i (aH (x.2-y.1)),.i 0])else some (.fin [.i (aH (x.1-y.2)),.i (aH (x.2-y.1)),.i 0])
   else if c=5 then aB (m3 [.i x.1,.i x.2,.i y.1,.i y.2]) 3 fun r=>mv NN (gg r 0) (gg r 1) (gg r 2)
   else if c=6 then if -17592186044416<=lU x.1 y.1 then if lU x.1 y.1<=17592186044416 then if -17592186044416<=lU x.2 y.2 then some (.fin [.i (lU x.1 y.1),.i (lU x.2 y.2),.i (if lU x.2 y.2<=17592186044416 then(1:Int)else 0)])else some (.fin [.i (lU x.1 y.1),.i (lU x.2 y.2),.i 0])else some (.fin [.i (lU x.1 y.1),.i (lU x.2 y.2),.i 0])else some (.fin [.i (lU x.1 y.1),.i (lU x.2 y.2),.i 0])
   else if c=7 then if -17592186044416<=gI x.1 y.1 then if gI x.1 y.1<=17592186044416 then if -17592186044416<=gI x.2 y.2 then some (.fin [.i (gI x.1 y.1),.i (gI x.2 y.2),.i (if gI x.2 y.2<=17592186044416 then(1:Int)else 0)])else some (.fin [.i (gI x.1 y.1),.i (gI x.2 y.2),.i 0])else some (.fin [.i (gI x.1 y.1),.i (gI x.2 y.2),.i 0])else some (.fin [.i (gI x.1 y.1),.i (gI x.2 y.2),.i 0])
   else if c=8 then if -17592186044416<=gI (aH (x.2-y.1)) (aH (y.2-x.1))then some (.fin [.i 0,.i (gI (aH (x.2-y.1)) (aH (y.2-x.1))),.i (if gI (aH (x.2-y.1)) (aH (y.2-x.1))<=17592186044416 then(1:Int)else 0)])else some (.fin [.i 0,.i (gI (aH (x.2-y.1)) (aH (y.2-x.1))),.i 0])
   else if c=9 then if -17592186044416<=aH (0-gI u v)then if aH (0-gI u v)<=17592186044416 then if -17592186044416<=gI u v then some (.fin [.i (aH (0-gI u v)),.i (gI u v),.i (if gI u v<=17592186044416 then(1:Int)else 0)])else some (.fin [.i (aH (0-gI u v)),.i (gI u v),.i 0])else some (.fin [.i (aH (0-gI u v)),.i (gI u v),.i 0])else some (.fin [.i (aH (0-gI u v)),.i (gI u v),.i 0])
   else if c=10 then aB (jh [.i x.1,.i arg]) 1 fun r=>mu NN (.i arg) (.i x.2) (gg r 0)
   else if -17592186044416<=gI u v then some (.fin [.i 0,.i (gI u v),.i (if gI u v<=17592186044416 then(1:Int)else 0)])else some (.fin [.i 0,.i (gI u v),.i 0]))):Nx (T5 c arg x y a b) o:=by
 subst ho;obtain⟨⟨x1,x2⟩,x3,x4⟩:=id hx;obtain⟨⟨y1,y2⟩,y3,y4⟩:=id hy;have hmb: -17592186044416<=se x.1 x.2/\se x.1 x.2<=17592186044416:=by unfold se Jo gI;split <;>split <;>(split <;>omega)
 have w1:aH (x.1+y.1)=x.1+y.1:=az (by omega) (by omega)
 have w2:aH (x.2+y.2)=x.2+y.2:=az (by omega) (by omega)
 have w3:aH (x.1-y.2)=x.1-y.2:=az (by omega) (by omega)
 have w4:aH (x.2-y.1)=x.2-y.1:=az (by omega) (by omega)
 have w5:aH (y.2-x.1)=y.2-x.1:=az (by omega) (by omega)
 have w6:aH (0-se x.1 x.2)= -(se x.1 x.2):=by rw[az (by omega) (by omega)];omega
 rw[hm,w1,w2,w3,w4,w5,w6];rcases PY h0 h1 with rfl|rfl|rfl|rfl|rfl|rfl|rfl|rfl|rfl|rfl|rfl|rfl
 ·exact Nx.one fun _=>rfl
 ·exact Nx.one fun _=>rfl
 ·show Nx _ (if -17592186044416<=arg then if arg<=17592186044416 then some (.fin [.i arg,.i arg,.i 1])else some (.fin [.i arg,.i arg,.i 0])else some (.fin [.i arg,.i arg,.i 0]))
  exact db (R:=Nx _) (fun _=>db (fun _=>⟨_,_,_,rfl,fun _=>rfl⟩) fun _=> .bad ..) fun _=> .bad ..
 ·exact uW fun h3 h4=>kg (r:=(x.1+y.1,x.2+y.2)) h3 h4
 ·exact uW fun h3 h4=>kg (r:=(x.1-y.2,x.2-y.1)) h3 h4
 ·obtain⟨lo,hi,ok,g1,g2⟩:=MA hx hy
  show Nx _ (aB (m3 [.i x.1,.i x.2,.i y.1,.i y.2]) 3 fun r=>mv NN (gg r 0) (gg r 1) (gg r 2))
  rw[g1,ag (by rfl)]
  unfold mv;simp only[aW,bj,Int.reduceNeg];refine db (R:=Nx _) (fun c=>uW fun h3 h4=>?_) fun _=> .bad ..
  show arj (ud x y)=_
  rw[g2 c];exact kg (r:=(lo,hi)) h3 h4
 ·exact uW fun h3 h4=>kg (r:=(lU x.1 y.1,lU x.2 y.2)) h3 h4
 ·exact uW fun h3 h4=>kg (r:=(gI x.1 y.1,gI x.2 y.2)) h3 h4
 ·exact Nx.one fun h4=>kg (r:=(0,gI (x.2-y.1) (y.2-x.1))) ⟨by omega,by omega⟩ h4
 ·exact uW fun h3 h4=>kg (r:=(-(se x.1 x.2),se x.1 x.2)) h3 h4
 ·show Nx _ (aB (jh [.i x.1,.i arg]) 1 fun r=>mu NN (.i arg) (.i x.2) (gg r 0))
  rw[lr,ag (by rfl)]
  unfold mu;simp only[sQ,nM];rw[lr,ag (by rfl)]
  unfold Ts;simp only[aW];exact uW fun h3 h4=>kg (r:=(eL x.1 arg,eL x.2 arg)) h3 h4
 ·exact Nx.one fun h4=>kg (r:=(0,se x.1 x.2)) ⟨by omega,by omega⟩ h4
theorem wl{c arg:Int}(h0:0<=c)(h1:c<=11):∃lo hi ok:Int,pr [.i c,.i arg,.i x.1,.i x.2,.i y.1,.i y.2,.i a,.i b]=some [.i lo,.i hi,.i ok]/\(ok≠0->T5 c arg x y a b=some (lo,hi)):=by
 suffices h:Nx (T5 c arg x y a b) (J8 NN (.i c) (.i arg) (.i x.1) (.i x.2) (.i y.1) (.i y.2) (.i a) (.i b))by
  obtain⟨lo,hi,ok,g1,g2⟩:=h;refine⟨lo,hi,ok,aK (N:=NN) ?_,g2⟩;rw[MC];exact bI g1
 obtain⟨⟨x1,x2⟩,x3,x4⟩:=id hx;have n1:aH (0-x.1)= -x.1:=by rw[az (by omega) (by omega)];omega
 have n2:aH (0-x.2)= -x.2:=by rw[az (by omega) (by omega)];omega
 unfold J8;simp only[aW,bj,Int.reduceNeg,n1,n2];refine db (R:=Nx _) (fun c1=>db (fun c2=>?_) fun c2=>?_) fun c1=>db (fun c2=>?_) fun c2=>?_
 ·exact tY hx hy a1 a2 b1 b2 h0 h1 (u:= -x.1) (v:= -x.2) (Xc (by rw[ab c1]) (by rw[ab c2])) rfl
 ·exact tY hx hy a1 a2 b1 b2 h0 h1 (u:= -x.1) (v:=x.2) (Xc (by rw[ab c1]) (by rw[ak c2])) rfl
 ·exact tY hx hy a1 a2 b1 b2 h0 h1 (u:=x.1) (v:= -x.2) (Xc (by rw[ak c1]) (by rw[ab c2])) rfl
 ·exact tY hx hy a1 a2 b1 b2 h0 h1 (u:=x.1) (v:=x.2) (Xc (by rw[ak c1]) (by rw[ak c2])) rfl
end
theorem Py{s:List (Int×Int)}(h:∀p∈s,vk p)(i:Nat):vk (s.getD i (0,0)):=by
 rw[ae]
 by_cases hi:i<s.length
 ·rw[aj hi];exact h _ (ce hi)
 ·rw[bp (by omega)]
  exact⟨⟨by decide,by decide⟩,by decide,by decide⟩
theorem Kq:vk ((0,0):Int×Int):=⟨⟨by decide,by decide⟩,by decide,by decide⟩
theorem u6{os:List nC}(hl:os.length<=1000)(a b:Int):∃lo hi c:Int,lQ [.l (iK os),.i a,.i b]=some [.i lo,.i hi,.i c]/\(c=0->∃st,hJ a b os []=some st):=by
 suffices h:∃lo hi c:Int,qC NN (.l (iK os)) (.i a) (.i b)=some (.fin [.i lo,.i hi,.i c])/\(c=0->∃st,hJ a b os []=some st)by
  obtain⟨lo,hi,c,h1,h2⟩:=h;refine⟨lo,hi,c,aK (N:=NN) ?_,h2⟩;rw[wo];exact bI h1
 have bad:∀ {c:Int},c≠0->∃lo hi c':Int,some (iX.fin [.i 0,.i 0,.i c])=some (.fin [.i lo,.i hi,.i c'])/\(c'=0->∃st,hJ a b os []=some st):=fun{c} hc=>⟨0,0,c,rfl,fun h=>absurd h hc⟩
 obtain⟨cv,v1,v2⟩:=DQ os hl true;simp only[gN]at v1;unfold qC;simp only[pl2];rw[v1,ag (by rfl)]
 unfold ro;simp only[aW,bj]
 by_cases c0:¬cv=0
 ·rw[ab c0];exact bad c0
 rw[ak c0];have ho:=v2 (by omega)
 have hl2:=ho.l2
 by_cases a1':¬1<=a
 ·rw[ak a1'];exact bad (by decide)
 have a1:1<=a:=by omega
 rw[ab a1]
 by_cases a2:4294967296<a
 ·rw[ab a2];exact bad (by decide)
 rw[ak a2]
 by_cases b1':¬1<=b
 ·rw[ak b1'];exact bad (by decide)
 have b1:1<=b:=by omega
 rw[ab b1]
 by_cases b2:4294967296<b
 ·rw[ab b2];exact bad (by decide)
 rw[ak b2];obtain⟨k,X,h1,h2⟩:=cX (b:=fun S=>iD NN (.l (iK os)) (.i a) (.i b) (gg S 0) (gg S 1)) (fun k S=>∃s,hJ a b (os.take k) []=some s/\S=[.l (Uz s),.i (k:Int)])
  (fun k X=>(k=0/\∃s,hJ a b os []=some s/\X=[.l (Uz s)])\/k=1) os.length (fun k S hk ⟨s,hs,hS⟩=>by
  subst hS;have w4:aH ((k:Int)+1)=((k+1:Nat):Int):=az (by omega) (by omega)
  obtain⟨i1,i2⟩:=O_ ho a1 (by omega) b1 (by omega) k s (by omega) hs
  have hg:=aj hk;have hd:=PU ho k (by omega)
  obtain⟨⟨o1,o2,o3⟩,o4,o5⟩:=ho.op k _ hg;obtain⟨e1,e2⟩:=aa3 hg;have hnext:∀v,nL a b s os[k]=some v->hJ a b (os.take (k+1)) []=some v:=fun v hv=>by
   rw[jP,hg]
   show hJ a b (os.take k++[os[k]]) []=some v
   rw[pJ,hs];exact hv
  generalize os[k]=o at hg o1 o2 o3 o4 o5 e1 e2 hnext;have t0:o.code<=2->dI o.code=0:=fun h=>by unfold dI;rw[ab h]
  have t1:¬o.code<=2->10<=o.code->dI o.code=1:=fun h h'=>by unfold dI;rw[ak h,ab h']
  have t2:¬o.code<=2->¬10<=o.code->dI o.code=2:=fun h h'=>by unfold dI;rw[ak h,ak h']
  unfold iD;simp only[aW,bj,jX,pI,e1,e2];rw[ab (by omega),ab (by omega)]
  by_cases c2:o.code<=2
  ·have w0:aH ((s.length:Int)-0)=(s.length:Int):=by rw[az (by omega) (by omega)];omega
   obtain⟨lo,hi,ok,n1,n2⟩:=wl Kq Kq a1 (show a<=4294967296 by omega) b1 (show b<=4294967296 by omega) (arg:=o.arg) o1 o2
   dsimp only at n1;rw[ab c2,n1,ag (by rfl)]
   unfold rr;simp only[aW,bj,pI,w0,w4]
   by_cases hok:ok=0
   ·rw[ab hok];exact Or.inr ⟨1,[],rfl,Or.inr rfl⟩
   rw[ak hok,ab (by omega),ab (by omega),ab (by omega),Ev,ez,wY]
   refine Or.inl ⟨_,rfl,s++[(lo,hi)],hnext _ ?_,rfl⟩;have hn:=n2 hok;unfold T5 at hn;unfold nL
   by_cases z0:o.code=0
   ·rw[ab z0]at hn ⊢;injection hn with hn;rw[hn]
   rw[ak z0]at hn ⊢
   by_cases z1:o.code=1
   ·rw[ab z1]at hn ⊢;injection hn with hn;rw[hn]
   rw[ak z1]at hn ⊢;have z2:o.code=2:=by omega
   rw[ab z2]at hn ⊢;injection hn with hn;rw[hn]
  ·have hst:∀ (x y:Int×Int) (lo hi:Int),(∀z,z=s.getD (s.length-(dI o.code).toNat) (0,0)->w_ o.code o.arg z (s.getD (s.length-1) (0,0))=some (lo,hi))->nL a b s o=some (s.take (s.length-(dI o.code).toNat)++[(lo,hi)]):=fun x y lo hi hh=>by
    unfold nL;rw[ak (by omega),ak (by omega),ak (by omega),hh _ rfl]
   have hnr:∀x y:Int×Int,T5 o.code o.arg x y a b=w_ o.code o.arg x y:=fun x y=>by
    unfold T5;rw[ak (by omega),ak (by omega),ak (by omega)]
   have w1:1<=s.length->aH ((s.length:Int)-1)=((s.length-1:Nat):Int):=fun h=>by rw[az (by omega) (by omega)];omega
   rw[ak c2]
   by_cases c10:10<=o.code
   ·have ht:=t1 c2 c10;have hls:1<=s.length:=by omega
    have hE:=Ci (st:=s) (s.length-1) (by omega)
    obtain⟨lo,hi,ok,n1,n2⟩:=wl (Py i2 (s.length-1)) Kq a1 (show a<=4294967296 by omega) b1 (show b<=4294967296 by omega) (arg:=o.arg) o1 o2
    dsimp only at n1;rw[ab c10,w1 hls,ab (by omega),ab (by omega),hE.1,hE.2,n1,ag (by rfl)]
    unfold Ax;simp only[aW,bj,pI,w1 hls,w4]
    by_cases hok:ok=0
    ·rw[ab hok];exact Or.inr ⟨1,[],rfl,Or.inr rfl⟩
    rw[ak hok,ab (by omega),ab (by omega),Ev,wY]
    refine Or.inl ⟨_,rfl,s.take (s.length-1)++[(lo,hi)],hnext _ ?_,rfl⟩;have hn:=n2 hok;rw[hnr]at hn;have:=hst (0,0) (0,0) lo hi (fun z hz=>by
     rw[ht]at hz;subst hz;have e:∀z y y':Int×Int,w_ o.code o.arg z y=w_ o.code o.arg z y':=fun z y y'=>by
      unfold w_ wZ;simp only[show ¬o.code=3 by omega,show ¬o.code=4 by omega,show ¬o.code=5 by omega,show ¬o.code=6 by omega,show ¬o.code=7 by omega,show ¬o.code=8 by omega,show ¬o.code=9 by omega,iS]
     rw[e _ _ (0,0)];exact hn)
    rw[ht]at this;exact this
   ·have ht:=t2 c2 c10;have hls:2<=s.length:=by omega
    have w2:aH ((s.length:Int)-2)=((s.length-2:Nat):Int):=by rw[az (by omega) (by omega)];omega
    have hE:=Ci (st:=s) (s.length-1) (by omega)
    have C5:=Ci (st:=s) (s.length-2) (by omega)
    obtain⟨lo,hi,ok,n1,n2⟩:=wl (Py i2 (s.length-2)) (Py i2 (s.length-1)) a1 (show a<=4294967296 by omega) b1 (show b<=4294967296 by omega) (arg:=o.arg) o1 o2
    rw[ak c10,w1 (by omega),w2,ab (by omega),ab (by omega),ab (by omega),ab (by omega),hE.1,hE.2,C5.1,C5.2,n1,ag (by rfl)]
    unfold Aw;simp only[aW,bj,pI,w2,w4]
    by_cases hok:ok=0
    ·rw[ab hok];exact Or.inr ⟨1,[],rfl,Or.inr rfl⟩
    rw[ak hok,ab (by omega),ab (by omega),Ev,wY]
    refine Or.inl ⟨_,rfl,s.take (s.length-2)++[(lo,hi)],hnext _ ?_,rfl⟩;have hn:=n2 hok;rw[hnr]at hn;have:=hst (0,0) (0,0) lo hi (fun z hz=>by
     rw[ht]at hz;subst hz;exact hn)
    rw[ht]at this;exact this) (fun S ⟨s,hs,hS⟩=>by
  subst hS;rw[cf (bD _)]at hs;refine⟨0,_,?_,Or.inl ⟨rfl,s,hs,rfl⟩⟩;unfold iD;simp only[aW,bj,jX];rw[ak (by omega)]) os.length 0 NN [.l [],.i 0] (by omega) (cC (by omega)) ⟨[],rfl,rfl⟩
 rw[h1];rcases h2 with⟨rfl,s,hs,rfl⟩|rfl
 ·simp only[bi];obtain⟨i1,i2⟩:=O_ ho a1 (by omega) b1 (by omega) os.length s (bD _) (by rw[ez];exact hs)
  rw[ez,ho.d]at i1;unfold rq;simp only[aW,bj,pI];rw[ab (by omega)]
  exact⟨_,_,0,rfl,fun _=>⟨s,hs⟩⟩
 ·exact bad (by decide)
theorem DT{os:List nC}(hl:os.length<=1000)(two:Bool)(a b out:Int):∃c:Int,lw [.l (iK os),.i (if two=true then 1 else 0),.i a,.i b,.i out]=some [.i c]/\(c=0->p9 os two/\1<=out/\out<=4294967296/\∃st,hJ a (if two=true then b else 1) os []=some st):=by
 suffices h:Cd (p9 os two/\1<=out/\out<=4294967296/\∃st,hJ a (if two=true then b else 1) os []=some st) (DU NN (.l (iK os)) (.i (if two=true then 1 else 0)) (.i a) (.i b) (.i out))by
  obtain⟨c,h1,h2⟩:=h;refine⟨c,aK (N:=NN) ?_,h2⟩;rw[Ic];exact bI h1
 obtain⟨cv,v1,v2⟩:=DQ os hl two;have e:(if(if two=true then(1:Int)else 0)=0 then(0:Int)else 1)=(if two=true then 1 else 0):=by cases two<;>rfl
 unfold DU;simp only[qb,e];rw[v1,ag (by rfl)]
 unfold BG;simp only[aW,bj];refine Cd.ite (fun h=> .bad h) fun c0=>Cd.ite (fun k1=>Cd.ite (fun _=> .bad (by decide)) fun k2=>?_) fun _=> .bad (by decide)
 have ho:=v2 (by omega)
 cases two with
 |false=>
  obtain⟨lo,hi,c,i1,i2⟩:=u6 hl a 1;simp only[aw,iS];rw[ab trivial,i1,ag (by rfl)]
  exact⟨c,rfl,fun h=>⟨ho,k1,by omega,i2 h⟩⟩
 |true=>
  obtain⟨lo,hi,c,i1,i2⟩:=u6 hl a b;simp only[gN];rw[ak (by decide),i1,ag (by rfl)]
  exact⟨c,rfl,fun h=>⟨ho,k1,by omega,i2 h⟩⟩
inductive SgF:Sg->Prop
 |conv {a bar pol fill:Int} {kw kh:Nat} {ws:List Int} {s1 max:Int} (hk:kw<=1000/\kh<=1000) (hl:ws.length<=10000):SgF ⟨1,a,-1,bar,pol,fill,kw,kh,ws,[],[],s1,0,[],[],0,[],max⟩
 |sep {a bar pol fill:Int} {row col:List Int} {s1 s2 max:Int} (hl:row.length<=10000/\col.length<=10000):SgF ⟨2,a,-1,bar,pol,fill,0,0,[],row,col,s1,s2,[],[],0,[],max⟩
 |res {a bar pol fill:Int} {X Y:List Tp} {s1 s2 max:Int} (hX:Fx X) (hY:Fx Y):SgF ⟨3,a,-1,bar,pol,fill,0,0,[],[],[],s1,s2,X,Y,0,[],max⟩
 |hist {a bar:Int} {bins:Nat}:SgF ⟨4,a,-1,bar,0,0,0,0,[],[],[],0,0,[],[],bins,[],0⟩
 |integ {a bar:Int}:SgF ⟨5,a,-1,bar,0,0,0,0,[],[],[],0,0,[],[],0,[],0⟩
 |point {a bar:Int} {ops:List nC} {max:Int} (hl:ops.length<=1000):SgF ⟨6,a,-1,bar,0,0,0,0,[],[],[],0,0,[],[],0,ops,max⟩
 |pair {a b bar:Int} {ops:List nC} {max:Int} (hb:0<=b) (hl:ops.length<=1000):SgF ⟨6,a,b,bar,0,0,0,0,[],[],[],0,0,[],[],0,ops,max⟩
theorem aJE{s:Sg}{A Q:Sz}(h:l_ s A Q):SgF s:=by
 cases h with
 |conv he hc=>exact .conv ⟨by have:=hc.k2;omega,by have:=hc.l2;omega⟩ (by
   rw[hc.len];have:=kf hc.k2 hc.l2;omega)
 |sep he hc=>exact .sep ⟨by have:=hc.r2;omega,by have:=hc.c2;omega⟩
 |res he hc=>exact .res ⟨by have:=hc.x2;omega,fun t ht=>by have:=(hc.tx t ht).l2;omega⟩ ⟨by have:=hc.y2;omega,fun t ht=>by have:=(hc.ty t ht).l2;omega⟩
 |hist h1 h2=>exact .hist
 |integ hi=>exact .integ
 |point ho m1 m2 hi=>exact .point (by have:=ho.l2;omega)
 |pair hb ho m1 m2 hQ hw hh hi=>exact .pair hb (by have:=ho.l2;omega)
theorem Au{s:Sg}(h:SgF s)(x:Int):DK (s.arg x)=some [.i 1]:=by
 refine aK (N:=NN) ?_;rw[Wx];refine bI ?_;unfold Tr;cases h
 all_goals simp only[aW,bj,Int.reduceEq,Int.reduceLT,Int.reduceNeg,aiA,ajs,ars,c_]
def Rk(s:Sg)(A Q:Sz)(o:Option iX):Prop:=∃a b m c:Int,o=some (.fin [.i a,.i b,.i m,.i c])/\(c=0->l_ s A Q/\a=(fp s A).W/\b=(fp s A).H/\m=(fp s A).M)
theorem Rk.bad{s:Sg}{A Q:Sz}(a b m:Int){c:Int}(h:c≠0):Rk s A Q (some (.fin [.i a,.i b,.i m,.i c])):=⟨a,b,m,c,rfl,fun h0=>absurd h0 h⟩
theorem Q5{s:Sg}{A Q:Sz}(h:SgF s)(hA:A.Ok)(hQ:s.two=true->Q.Ok)(he:s.kind<=3->qa s.pol s.fill A.M)(x:Int):
  ∃a b m c:Int,ka (s.arg x++(A.pd++(if s.two=true then Q else Sz.zero).pd))=some [.i a,.i b,.i m,.i c]/\(c=0->l_ s A Q/\a=(fp s A).W/\b=(fp s A).H/\m=(fp s A).M):=by
 obtain⟨Q2,hQ2⟩:∃Q2,Q2=(if s.two=true then Q else Sz.zero):=⟨_,rfl⟩
 rw[<-hQ2]
 suffices hh:Rk s A Q (yT NN (.i s.kind) (.i s.a) (.i s.b) (.i x) (.i s.pol) (.i s.fill) (.i s.kw) (.i s.kh) (.l (il s.ws)) (.l (il s.row)) (.l (il s.col)) (.i s.s1) (.i s.s2) (.l (fh s.X)) (.l (fh s.Y)) (.i s.bins) (.l (iK s.ops)) (.i s.max) (.i A.W) (.i A.H) (.i A.M) (.i Q2.W) (.i Q2.H) (.i Q2.M))by
  obtain⟨a,b,m,c,h1,h2⟩:=hh;refine⟨a,b,m,c,aK (N:=NN) ?_,h2⟩;dsimp only[Sg.arg,Sz.pd,List.cons_append,List.nil_append];rw[DI];exact bI h1
 unfold yT;cases h with
 |conv hk hl=>
  rename_i a bar pol fill kw kh ws s1 max;obtain⟨c,h1,h2⟩:=Z0 A.M kw kh hk ws hl s1 max;simp only[aW,bj,Int.reduceEq,Int.reduceNeg];rw[h1,ag (by rfl)]
  exact⟨_,_,_,c,rfl,fun h0=>⟨.conv (he (by show(1:Int)<=3;omega)) (h2 h0),rfl,rfl,rfl⟩⟩
 |sep hl=>
  rename_i a bar pol fill row col s1 s2 max;obtain⟨c,h1,h2⟩:=WL A.M row col hl s1 s2 max;simp only[aW,bj,Int.reduceEq,Int.reduceNeg];rw[h1,ag (by rfl)]
  exact⟨_,_,_,c,rfl,fun h0=>⟨.sep (he (by show(2:Int)<=3;omega)) (h2 h0),rfl,rfl,rfl⟩⟩
 |res hX hY=>
  rename_i a bar pol fill X Y s1 s2 max;obtain⟨c,h1,h2⟩:=WJ A.W A.H A.M X Y hX hY s1 s2 max;simp only[aW,bj,Int.reduceEq,Int.reduceNeg];rw[h1,ag (by rfl)]
  unfold H9;simp only[aW,e_];exact⟨_,_,_,c,rfl,fun h0=>⟨.res (he (by show(3:Int)<=3;omega)) (h2 h0),rfl,rfl,rfl⟩⟩
 |hist=>
  have ha:=hA.a;have w:aH ((A.W:Int)*A.H)=((A.W*A.H:Nat):Int):=by rw[<-aX,az (by omega) (by omega)]
  simp only[aW,bj,Int.reduceEq,Int.reduceNeg,w];refine db (R:=Rk _ _ _) (fun c1=>db (fun _=> .bad _ _ _ (by decide)) fun c2=>?_) fun _=> .bad _ _ _ (by decide)
  exact⟨_,_,_,0,rfl,fun _=>⟨.hist (by omega) (by omega),rfl,rfl,rfl⟩⟩
 |integ=>
  obtain⟨v,c,h1,h2⟩:=aar hA;simp only[aW,bj,Int.reduceEq,Int.reduceNeg];rw[h1,ag (by rfl)]
  unfold H8;simp only[aW,bj,Int.reduceNeg];refine db (R:=Rk _ _ _) (fun c1=> .bad _ _ _ (by decide)) fun c1=>?_
  obtain⟨e,hi⟩:=h2 c1;exact⟨_,_,_,0,rfl,fun _=>⟨.integ hi,rfl,rfl,e⟩⟩
 |point hl=>
  rename_i a bar ops max;obtain⟨c,h1,h2⟩:=DT hl false A.M Q2.M max;simp only[aw,iS]at h1 h2;simp only[aW,bj,Int.reduceEq,Int.reduceNeg];rw[h1,ag (by rfl)]
  unfold qA;simp only[aW,bj,Int.reduceNeg];refine db (R:=Rk _ _ _) (fun c1=> .bad _ _ _ c1) fun c1=>?_
  rw[h1,ag (by rfl)]
  unfold H6;simp only[aW,bj,Int.reduceNeg];refine db (R:=Rk _ _ _) (fun c1=> .bad _ _ _ c1) fun c1=>?_
  obtain⟨g1,g2,g3,st,g4⟩:=h2 (by omega)
  exact⟨_,_,_,0,rfl,fun _=>⟨.point g1 g2 g3 g4,rfl,rfl,rfl⟩⟩
 |pair hb hl=>
  rename_i a b bar ops max;have ht:=Kw (a:=a) (bar:=bar) (ops:=ops) (max:=max) hb;have hb1:¬b= -1:=by omega
  rw[ab ht]at hQ2;subst hQ2;obtain⟨c,h1,h2⟩:=DT hl true A.M Q2.M max;simp only[gN]at h1 h2;simp only[aW,bj,Int.reduceEq,Int.reduceNeg,hb1];rw[h1,ag (by rfl)]
  unfold qA;simp only[aW,bj,Int.reduceEq,Int.reduceNeg,hb1];refine db (R:=Rk _ _ _) (fun c1=> .bad _ _ _ c1) fun c1=>?_
  rw[h1,ag (by rfl)]
  unfold H7;simp only[aW,bj];refine db (R:=Rk _ _ _) (fun c1=> .bad _ _ _ c1) fun c1=>db (fun c2=> .bad _ _ _ (by decide)) fun c2=>db (fun c3=> .bad _ _ _ (by decide)) fun c3=>?_
  obtain⟨g1,g2,g3,st,g4⟩:=h2 (by omega)
  have hw:A.W=Q2.W:=by
   apply Classical.byContradiction;intro hc;apply c2;rw[ak (by omega)]
   decide
  have hh:A.H=Q2.H:=by
   apply Classical.byContradiction;intro hc;apply c3;rw[ak (by omega)]
   decide
  exact⟨_,_,_,0,rfl,fun _=>⟨.pair hb g1 g2 g3 (hQ ht) hw hh g4,rfl,rfl,rfl⟩⟩
theorem amn{s:Sg}{A Q:Sz}(h:SgF s)(hA:A.Ok)(hQ:s.two=true->Q.Ok)(x:Int):
  ∃a b m c:Int,r_ (s.arg x++(A.pd++(if s.two=true then Q else Sz.zero).pd))=some [.i a,.i b,.i m,.i c]/\(c=0->l_ s A Q/\a=(fp s A).W/\b=(fp s A).H/\m=(fp s A).M):=by
 have hk:=fun he=>Q5 h hA hQ he (eR x)
 have hf:=Au h (eR x);have hz:=tz hA;obtain⟨Q2,hQ2⟩:∃Q2,Q2=(if s.two=true then Q else Sz.zero):=⟨_,rfl⟩
 rw[<-hQ2]at hk ⊢
 suffices hh:Rk s A Q (ajf NN (.i s.kind) (.i s.a) (.i s.b) (.i x) (.i s.pol) (.i s.fill) (.i s.kw) (.i s.kh) (.l (il s.ws)) (.l (il s.row)) (.l (il s.col)) (.i s.s1) (.i s.s2) (.l (fh s.X)) (.l (fh s.Y)) (.i s.bins) (.l (iK s.ops)) (.i s.max) (.i A.W) (.i A.H) (.i A.M) (.i Q2.W) (.i Q2.H) (.i Q2.M))by
  obtain⟨a,b,m,c,h1,h2⟩:=hh;refine⟨a,b,m,c,aK (N:=NN) ?_,h2⟩;dsimp only[Sg.arg,Sz.pd,List.cons_append,List.nil_append];rw[aam];exact bI h1
 dsimp only[Sg.arg,Sz.pd,List.cons_append,List.nil_append,eR]at hk hf;unfold ajf;simp only[qb];rw[hf,ag (by rfl)]
 unfold Wu;simp only[aW,bj,Int.reduceEq];rw[hz,ag (by rfl)]
 unfold Wv;cases h with
 |conv hk' hl=>
  rename_i a bar pol fill kw kh ws s1 max;obtain⟨c,r1,r2⟩:=we pol fill A.M;simp only[aW,bj,Int.reduceEq,Int.reduceNeg];rw[r1,ag (by rfl)]
  unfold n6;simp only[aW,bj,Int.reduceNeg];refine db (R:=Rk _ _ _) (fun _=> .bad _ _ _ (by decide)) fun c1=>?_
  obtain⟨u,v,w,d,h1,h2⟩:=hk fun _=>r2 c1
  rw[h1,ag (by rfl)]
  unfold yU;simp only[aW,bj,Int.reduceNeg];refine db (R:=Rk _ _ _) (fun c2=> .bad _ _ _ c2) fun c2=>?_
  exact⟨_,_,_,0,rfl,fun _=>h2 (by omega)⟩
 |sep hl=>
  rename_i a bar pol fill row col s1 s2 max;obtain⟨c,r1,r2⟩:=we pol fill A.M;simp only[aW,bj,Int.reduceEq,Int.reduceNeg];rw[r1,ag (by rfl)]
  unfold n6;simp only[aW,bj,Int.reduceNeg];refine db (R:=Rk _ _ _) (fun _=> .bad _ _ _ (by decide)) fun c1=>?_
  obtain⟨u,v,w,d,h1,h2⟩:=hk fun _=>r2 c1
  rw[h1,ag (by rfl)]
  unfold yU;simp only[aW,bj,Int.reduceNeg];refine db (R:=Rk _ _ _) (fun c2=> .bad _ _ _ c2) fun c2=>?_
  exact⟨_,_,_,0,rfl,fun _=>h2 (by omega)⟩
 |res hX hY=>
  rename_i a bar pol fill X Y s1 s2 max;obtain⟨c,r1,r2⟩:=we pol fill A.M;simp only[aW,bj,Int.reduceEq,Int.reduceNeg];rw[r1,ag (by rfl)]
  unfold n6;simp only[aW,bj,Int.reduceNeg];refine db (R:=Rk _ _ _) (fun _=> .bad _ _ _ (by decide)) fun c1=>?_
  obtain⟨u,v,w,d,h1,h2⟩:=hk fun _=>r2 c1
  rw[h1,ag (by rfl)]
  unfold yU;simp only[aW,bj,Int.reduceNeg];refine db (R:=Rk _ _ _) (fun c2=> .bad _ _ _ c2) fun c2=>?_
  exact⟨_,_,_,0,rfl,fun _=>h2 (by omega)⟩
 |hist=>
  obtain⟨u,v,w,d,h1,h2⟩:=hk fun he=>absurd he (show ¬ (4:Int)<=3 by decide)
  simp only[aW,bj,Int.reduceEq,Int.reduceNeg];rw[h1,ag (by rfl)]
  unfold DJ;simp only[aW,bj,Int.reduceNeg];refine db (R:=Rk _ _ _) (fun c2=> .bad _ _ _ c2) fun c2=>?_
  exact⟨_,_,_,0,rfl,fun _=>h2 (by omega)⟩
 |integ=>
  obtain⟨u,v,w,d,h1,h2⟩:=hk fun he=>absurd he (show ¬ (5:Int)<=3 by decide)
  simp only[aW,bj,Int.reduceEq,Int.reduceNeg];rw[h1,ag (by rfl)]
  unfold DJ;simp only[aW,bj,Int.reduceNeg];refine db (R:=Rk _ _ _) (fun c2=> .bad _ _ _ c2) fun c2=>?_
  exact⟨_,_,_,0,rfl,fun _=>h2 (by omega)⟩
 |point hl=>
  obtain⟨u,v,w,d,h1,h2⟩:=hk fun he=>absurd he (show ¬ (6:Int)<=3 by decide)
  simp only[aW,bj,Int.reduceEq,Int.reduceNeg];rw[h1,ag (by rfl)]
  unfold DJ;simp only[aW,bj,Int.reduceNeg];refine db (R:=Rk _ _ _) (fun c2=> .bad _ _ _ c2) fun c2=>?_
  exact⟨_,_,_,0,rfl,fun _=>h2 (by omega)⟩
 |pair hb hl=>
  rename_i a b bar ops max;have ht:=Kw (a:=a) (bar:=bar) (ops:=ops) (max:=max) hb;have hb1:¬b= -1:=by omega
  rw[ab ht]at hQ2;subst hQ2;obtain⟨u,v,w,d,h1,h2⟩:=hk fun he=>absurd he (show ¬ (6:Int)<=3 by decide)
  simp only[aW,bj,Int.reduceEq,Int.reduceNeg,hb1];rw[tz (hQ ht),ag (by rfl)]
  unfold aje;simp only[aW,bj,Int.reduceEq];rw[h1,ag (by rfl)]
  unfold yU;simp only[aW,bj];refine db (R:=Rk _ _ _) (fun c2=> .bad _ _ _ c2) fun c2=>?_
  exact⟨_,_,_,0,rfl,fun _=>h2 (by omega)⟩
def yj(s:Sg)(A Q:Sz):Prop:=l_ s A Q/\r_ (s.arg (eR s.bar)++(A.pd++(if s.two=true then Q else Sz.zero).pd))=some ((fp s A).pd++[.i 0])
structure Jb.Pre(j:Jb)(sh:Nat->Sz):Prop where
 ins1:1<=j.ins.length
 sts1:1<=j.sts.length
 nodes:j.ins.length+j.sts.length<=16
 outs1:1<=j.outs.length
 outs2:j.outs.length<=16
 outs3:∀o∈j.outs,0<=o/\o<((j.ins.length+j.sts.length:Nat):Int)
 prio1:0<=j.prio
 prio2:j.prio<4
 planes:∀k p,j.ins[k]?=some p->p.Ok/\sh k=p.sh
 src:∀i s,j.sts[i]?=some s->0<=s.a/\s.a.toNat<j.ins.length+i/\s.b.toNat<j.ins.length+i/\(s.two=true->0<=s.b)/\SgF s
 done:∀i s,i+1<j.sts.length->j.sts[i]?=some s->yj s (sh s.a.toNat) (sh s.b.toNat)/\sh (j.ins.length+i)=fp s (sh s.a.toNat)
theorem XP{P:Prop}[Decidable P](h:¬P):¬ (if P then(0:Int)else 1)=0:=by rw[ak h];decide
theorem XQ{P:Prop}[Decidable P](h:P):¬ ¬ (if P then(0:Int)else 1)=0:=by rw[ab h];exact dP rfl
theorem Mh(m c v:Nat)(hc:c<=1000):r9 [.l (il (jH m c)),.i v]=some [.i (if m<=v/\v<m+c then 1 else 0)]:=by
 obtain⟨k,X,h1,h2⟩:=cX (b:=fun S=>DG NN (.l (il (jH m c))) (.i v) (gg S 0)) (fun i S=>S=[.i (i:Int)]/\¬ (m<=v/\v<m+i)) (fun k X=>(k=0/\¬ (m<=v/\v<m+c))\/(k=1/\(m<=v/\v<m+c))) c (fun i S hi ⟨hS,hx⟩=>by
  subst hS;have w4:aH ((i:Int)+1)=((i+1:Nat):Int):=az (by omega) (by omega)
  unfold DG;simp only[aW,bj,bm,dz,fz,au,gu hi,w4];rw[ab (by omega),ab (by omega)]
  by_cases he:((m+i:Nat):Int)=v
  ·rw[ab he];exact Or.inr ⟨1,[],rfl,Or.inr ⟨rfl,by omega⟩⟩
  ·rw[ak he];exact Or.inl ⟨_,rfl,rfl,by omega⟩) (fun S ⟨hS,hx⟩=>by
  subst hS;refine⟨0,[],?_,Or.inl ⟨rfl,hx⟩⟩;unfold DG;simp only[aW,bj,bm,fz];rw[ak (by omega)]) c 0 NN [.i 0] (by omega) (cC (by omega)) ⟨rfl,by omega⟩
 refine aK (N:=NN) ?_;rw[aml];refine bI ?_;unfold apU;rw[h1];rcases h2 with⟨rfl,h2⟩|⟨rfl,h2⟩
 ·rw[ak h2];rfl
 ·rw[ab h2];rfl
section
variable {j:Jb}{sh:Nat->Sz}(h:j.Pre sh)
include h
theorem aaQ{i:Nat}{s:Sg}(hs:j.sts[i]?=some s):∀v∈s.srcs,0<=v/\v<((j.ins.length+i:Nat):Int):=by
 obtain⟨a1,a2,a3,a4,_⟩:=h.src _ _ hs;intro v hv;unfold Sg.srcs at hv;split at hv
 ·rename_i ht;have:=a4 ht;simp only[aS,eV,or_false]at hv;rcases hv with rfl|rfl<;>omega
 ·simp only[aS,eV,or_false]at hv;subst hv;omega
omit h in
theorem JM(s:Sg):s.two=true↔s.kind=6/\¬s.b= -1:=by unfold Sg.two;simp
theorem Wo:HW j.arg=some [.i 0]:=by
 obtain⟨h1,h2,h3,h4,h5,h6,h7,h8,h9,h10,h11⟩:=id h;have w:aH ((j.ins.length:Int)+j.sts.length)=((j.ins.length+j.sts.length:Nat):Int):=az (by omega) (by omega)
 have hl:aO (fun S=>tD NN (.l (fE j.ins)) (.l (eG j.sts)) (gg S 0)) NN [.i 0]=some (.brk 0 []):=by
  refine bJ (fun k=>[.i (k:Int)]) j.sts.length NN (cC (by omega)) (fun i hi=>?_) ?_
  ·have w3:aH ((i:Int)+1)=((i+1:Nat):Int):=az (by omega) (by omega)
   have hg:=aj (l:=j.sts) hi;have hsrc:=aaQ h hg;have hel:=kB hg;have ht:=JM j.sts[i];generalize j.sts[i]=s at hg hsrc hel ht;have hone:s.two=false->aO (fun S=>pm NN (.l (fE j.ins)) (.l (eG j.sts)) (.i (i:Int)) (gg S 0)) NN [.i 0]=some (.brk 0 []):=fun h2=>by
    have hm:=hsrc s.a (by unfold Sg.srcs;rw[h2];simp)
    refine bJ (fun k=>[.i (k:Int)]) 1 NN (cC (by omega)) (fun k hk=>?_) ?_
    ·obtain rfl:k=0:=by omega
     unfold pm;have e1:el ([]++[PD.i s.a]) ((0:Nat):Int) 1 0= .i s.a:=rfl;have e2:bH ([]++[PD.i s.a]) 1=1:=bm [s.a];simp only[aW,bj,cO,cZ,hel,w,e1,e2];rw[ab (by omega),ab (by omega),ab (by omega),ak (by omega),ak (by omega)]
     rfl
    ·unfold pm;simp only[aW,bj];rw[ak (by omega)]
   have htwo:s.two=true->aO (fun S=>tE NN (.l (fE j.ins)) (.l (eG j.sts)) (.i (i:Int)) (gg S 0)) NN [.i 0]=some (.brk 0 []):=fun h2=>by
    have hm:=hsrc s.a (by unfold Sg.srcs;rw[ab h2];simp)
    have hm2:=hsrc s.b (by unfold Sg.srcs;rw[ab h2];simp)
    refine bJ (fun k=>[.i (k:Int)]) 2 NN (cC (by omega)) (fun k hk=>?_) ?_
    ·unfold tE;have e2:bH ([]++[PD.i s.a]++[PD.i s.b]) 1=2:=bm [s.a,s.b];rcases(show k=0\/k=1 by omega)with rfl|rfl
     ·have e1:el ([]++[PD.i s.a]++[PD.i s.b]) ((0:Nat):Int) 1 0= .i s.a:=rfl;simp only[aW,bj,cO,cZ,hel,w,e1,e2];rw[ab (by omega),ab (by omega),ab (by omega),ak (by omega),ak (by omega)]
      rfl
     ·have e1:el ([]++[PD.i s.a]++[PD.i s.b]) ((1:Nat):Int) 1 0= .i s.b:=rfl;simp only[aW,bj,cO,cZ,hel,w,e1,e2];rw[ab (by omega),ab (by omega),ab (by omega),ak (by omega),ak (by omega)]
      rfl
    ·unfold tE;simp only[aW,bj];rw[ak (by omega)]
   unfold tD;simp only[aW,bj,Int.reduceNeg,cZ,hel];rw[ab (by omega),ab (by omega)]
   have hfin:pn NN (.i (i:Int))=some (.again [.i ((i+1:Nat):Int)]):=by unfold pn;simp only[aW,w3]
   cases h2:s.two with
   |true=>obtain⟨g1,g2⟩:=ht.1 h2;rw[ab g1,ab (XP g2),htwo h2];exact hfin
   |false=>
    have hn:¬ (s.kind=6/\¬s.b= -1):=fun hh=>by rw[ht.2 hh]at h2;cases h2
    by_cases g1:s.kind=6
    ·rw[ab g1,ak (XQ (Decidable.not_not.1 fun g2=>hn ⟨g1,g2⟩)),hone h2]
     exact hfin
    ·rw[ak g1,hone h2];exact hfin
  ·unfold tD;simp only[aW,bj,Int.reduceNeg,cZ];rw[ak (by omega)]
 have hl2:aO (fun S=>tC NN (.l (fE j.ins)) (.l (eG j.sts)) (.l (il j.outs)) (gg S 0)) NN [.i 0]=some (.brk 0 []):=by
  refine bJ (fun k=>[.i (k:Int)]) j.outs.length NN (cC (by omega)) (fun k hk=>?_) ?_
  ·have w4:aH ((k:Int)+1)=((k+1:Nat):Int):=az (by omega) (by omega)
   have hm2:=h6 _ (np hk);unfold tC;simp only[aW,bj,bm,dz,cO,cZ,au,w,w4];generalize j.outs.getD k 0=v at hm2 ⊢;rw[ab (by omega),ab (by omega),ak (by omega),ak (by omega)]
  ·unfold tC;simp only[aW,bj,bm];rw[ak (by omega)]
 dsimp only[Jb.arg];refine aK (N:=NN) ?_;rw[aac];refine bI ?_;unfold aae;simp only[aW,bj,cO,cZ,bm,w];rw[ak (by omega),ak (by omega),ak (by omega),ak (by omega),ak (by omega),ak (by omega),ak (by omega),hl]
 simp only[bi];unfold Mi;rw[hl2];rfl
end
theorem gk{X:List PD}{f g:List PD->Option iX}:bi (some (.brk 0 X)) f g=f X:=rfl
section
variable {j:Jb}{sh:Nat->Sz}(h:j.Pre sh)
include h
theorem Ta{i c:Nat}{s:Sg}(hs:j.sts[i]?=some s)(hc:c<=j.sts.length){f:Int}(hf:f=0\/(f=1/\i=c)):∀ (o:Option iX) (K:List PD->Option iX),K [.i f]=o->
  (if s.kind=6 then if ¬ (if s.b= -1 then(0:Int)else 1)=0 then bi (aO (fun S=>pp NN (.l (fE j.ins)) (.l (eG j.sts)) (.l (il (jH j.ins.length c))) (.i (i:Int)) (gg S 0) (gg S 1)) NN [.i f,.i 0]) K (fun X=>none)
   else bi (aO (fun S=>lh NN (.l (fE j.ins)) (.l (eG j.sts)) (.l (il (jH j.ins.length c))) (.i (i:Int)) (gg S 0) (gg S 1)) NN [.i f,.i 0]) K (fun X=>none)
   else bi (aO (fun S=>lh NN (.l (fE j.ins)) (.l (eG j.sts)) (.l (il (jH j.ins.length c))) (.i (i:Int)) (gg S 0) (gg S 1)) NN [.i f,.i 0]) K (fun X=>none))=o:=by
 intro o K hK;have hno:=h.nodes;have hsrc:=aaQ h hs;have hel:=kB hs;have ht:=JM s;have hlt:=(av.1 hs).1;have hff:(if f=0 then(0:Int)else 1)=f:=by rcases hf with rfl|⟨rfl,_⟩<;>rfl
 have hone:∀ (k:Nat) (v:Int) (l:List PD),v∈s.srcs->el l (k:Int) 1 0= .i v->(if ¬f=0 then(if(el l (k:Int) 1 0).n<(j.ins.length:Int)then some (iX.again [.i 1,.i (aH ((k:Int)+1))])
   else aB (r9 [.l (il (jH j.ins.length c)),.i (el l (k:Int) 1 0).n]) 1 fun r=>BD NN (.i (k:Int)) (gg r 0))else some (.again [.i 0,.i (aH ((k:Int)+1))]))=some (.again [.i f,.i (aH ((k:Int)+1))]):=fun k v l hv he=>by
  rw[he];simp only[sQ];rcases hf with rfl|⟨rfl,rfl⟩
  ·rw[ak (by decide)]
  ·rw[ab (by decide)]
   obtain⟨v1,v2⟩:=hsrc v hv;obtain⟨v,rfl⟩:=aN v1
   by_cases hm:((v:Nat):Int)<j.ins.length
   ·rw[ab hm]
   ·rw[ak hm,Mh _ _ _ (by omega),ab (by omega),ag (by rfl)]
    rfl
 have h4:s.two=false->aO (fun S=>lh NN (.l (fE j.ins)) (.l (eG j.sts)) (.l (il (jH j.ins.length c))) (.i (i:Int)) (gg S 0) (gg S 1)) NN [.i f,.i 0]=some (.brk 0 [.i f]):=fun h2=>by
  refine bJ (fun k=>[.i f,.i (k:Int)]) 1 NN (cC (by omega)) (fun k hk=>?_) ?_
  ·have w4:aH ((k:Int)+1)=((k+1:Nat):Int):=az (by omega) (by omega)
   obtain rfl:k=0:=by omega
   have e2:bH ([]++[PD.i s.a]) 1=1:=bm [s.a];have ho:=hone 0 s.a ([]++[PD.i s.a]) (by unfold Sg.srcs;rw[h2];simp) rfl
   unfold lh;simp only[nM,lY,Bool.cond_decide,aI,ltB,bC,cY,cO,hel,qb,e2];have g1:(0:Int)<=((0:Nat):Int):=by omega
   have g2:((0:Nat):Int)<1:=by omega
   simp only[g1,g2,gN];exact ho.trans (by rw[w4])
  ·unfold lh;simp only[aW,bj];rw[ak (by omega),hff]
 have h2':s.two=true->aO (fun S=>pp NN (.l (fE j.ins)) (.l (eG j.sts)) (.l (il (jH j.ins.length c))) (.i (i:Int)) (gg S 0) (gg S 1)) NN [.i f,.i 0]=some (.brk 0 [.i f]):=fun h2=>by
  refine bJ (fun k=>[.i f,.i (k:Int)]) 2 NN (cC (by omega)) (fun k hk=>?_) ?_
  ·have w4:aH ((k:Int)+1)=((k+1:Nat):Int):=az (by omega) (by omega)
   have e2:bH ([]++[PD.i s.a]++[PD.i s.b]) 1=2:=bm [s.a,s.b];have ho:∃v,v∈s.srcs/\el ([]++[PD.i s.a]++[PD.i s.b]) (k:Int) 1 0= .i v:=by
    rcases(show k=0\/k=1 by omega)with rfl|rfl
    ·exact⟨s.a,by unfold Sg.srcs;rw[ab h2];simp,rfl⟩
    ·exact⟨s.b,by unfold Sg.srcs;rw[ab h2];simp,rfl⟩
   obtain⟨v,hv,he⟩:=ho;have ho:=hone k v ([]++[PD.i s.a]++[PD.i s.b]) hv he;unfold pp;simp only[nM,lY,Bool.cond_decide,aI,ltB,bC,cY,cO,hel,qb,e2];have g1:(0:Int)<=(k:Int):=by omega
   have g2:(k:Int)<2:=by omega
   simp only[g1,g2,gN];exact ho.trans (by rw[w4])
  ·unfold pp;simp only[aW,bj];rw[ak (by omega),hff]
 cases h2:s.two with
 |true=>obtain⟨g1,g2⟩:=ht.1 h2;rw[ab g1,ab (XP g2),h2' h2];exact hK
 |false=>
  have hn:¬ (s.kind=6/\¬s.b= -1):=fun hh=>by rw[ht.2 hh]at h2;cases h2
  by_cases g1:s.kind=6
  ·rw[ab g1,ak (XQ (Decidable.not_not.1 fun g2=>hn ⟨g1,g2⟩)),h4 h2]
   exact hK
  ·rw[ak g1,h4 h2];exact hK
theorem afU{c:Nat}(hc:c<j.sts.length):aO (fun S=>tJ NN (.l (fE j.ins)) (.l (eG j.sts)) (.l (il (jH j.ins.length c))) (gg S 0) (gg S 1)) NN [.i (-1),.i 0]=some (.brk 0 [.i ((j.ins.length+c:Nat):Int)]):=by
  have hno:=h.nodes;have hst:[PD.i (-1),PD.i 0]=[PD.i (if 0<=c then(-1:Int)else((j.ins.length+c:Nat):Int)),PD.i ((0:Nat):Int)]:=by rw[ab (by omega)];rfl
  rw[hst];refine bJ (fun i=>[.i (if i<=c then(-1:Int)else((j.ins.length+c:Nat):Int)),.i (i:Int)]) (c+1) NN (cC (by omega)) (fun i hi=>?_) ?_
  ·have w4:aH ((i:Int)+1)=((i+1:Nat):Int):=az (by omega) (by omega)
   have w5:aH ((j.ins.length:Int)+i)=((j.ins.length+i:Nat):Int):=az (by omega) (by omega)
   have hg:=aj (l:=j.sts) (show i<j.sts.length by omega)
   have hel:=kB hg;generalize j.sts[i]=s at hg hel;rw[ab (show i<=c by omega)]
   unfold tJ;simp only[aW,bj,Int.reduceLT,Int.reduceNeg,cO,cZ,w5];rw[ab (by omega),Mh _ _ _ (by omega),ag (by rfl)]
   unfold Mm;simp only[nM,Bool.cond_decide,aI,bC,eqB,cY,hel,qb];rw[ab (by omega)]
   by_cases hic:i=c
   ·subst hic;rw[ak (show ¬ (j.ins.length<=j.ins.length+i/\j.ins.length+i<j.ins.length+i)by omega),ak (show ¬i+1<=i by omega)]
    refine Ta h hg (by omega) (f:=1) (Or.inr ⟨rfl,rfl⟩) _ _ ?_
    unfold po;simp only[aW,bj,Int.reduceEq,Int.reduceNeg,cO,w5,w4]
   ·rw[ab (show j.ins.length<=j.ins.length+i/\j.ins.length+i<j.ins.length+c by omega),ab (show i+1<=c by omega)]
    refine Ta h hg (by omega) (f:=0) (Or.inl rfl) _ _ ?_
    unfold po;simp only[aW,bj,Int.reduceNeg,w4]
  ·rw[ak (show ¬c+1<=c by omega)]
   unfold tJ;simp only[aW,bj,cZ]
   by_cases hl:((c+1:Nat):Int)<j.sts.length
   ·rw[ab hl,ak (by omega)]
   ·rw[ak hl]
theorem afV:aO (fun S=>tI NN (.l (fE j.ins)) (.l (eG j.sts)) (gg S 0)) NN [.l []]=some (.brk 0 [.l (il (jH j.ins.length j.sts.length))]):=by
 have hno:=h.nodes;have e0:[PD.l []]=[PD.l (il (jH j.ins.length 0))]:=rfl;rw[e0];refine bJ (fun c=>[.l (il (jH j.ins.length c))]) j.sts.length NN (cC (by omega)) (fun c hc=>?_) ?_
 ·unfold tI;simp only[aW,bj,Int.reduceNeg,bm,fz,cZ];rw[ab (by omega),afU h hc]
  rw[gk];unfold Ml;simp only[aW,bj,bm,fz];rw[ak (by omega),ab (by omega),TZ,<-jI]
  rfl
 ·unfold tI;simp only[aW,bj,Int.reduceNeg,bm,fz,cZ];rw[ak (by omega)]
theorem Wr:H4 j.arg=some [.l (il (jH j.ins.length j.sts.length)),.i 0]:=by
 have hck:=Wo h;have hno:=h.nodes;dsimp only[Jb.arg]at hck ⊢;refine aK (N:=NN) ?_;rw[aah];refine bI ?_;unfold aak;simp only[qb];rw[hck,ag (by rfl)]
 unfold H5;simp only[aW,bj];rw[afV h];rw[gk];unfold Mk;simp only[nM,pl2]
end
theorem Jb.Pre.shOk{j:Jb}{sh:Nat->Sz}(h:j.Pre sh):∀n k,k<j.ins.length+n->n+1<=j.sts.length->(sh k).Ok
 |0,k,hk,_=>by
  have hg:=aj (l:=j.ins) (show k<j.ins.length by omega)
  obtain⟨h1,h2⟩:=h.planes _ _ hg;rw[h2];exact h1.sh
 |n+1,k,hk,hn=>by
  by_cases hl:k<j.ins.length+n
  ·exact h.shOk n k hl (by omega)
  ·obtain rfl:k=j.ins.length+n:=by omega
   have hg:=aj (l:=j.sts) (show n<j.sts.length by omega)
   obtain⟨a1,a2,_⟩:=h.src _ _ hg;obtain⟨⟨a3,_⟩,a4⟩:=h.done n _ (by omega) hg
   rw[a4];exact KX a3 (h.shOk n _ a2 (by omega))
section
variable {j:Jb}{sh:Nat->Sz}(h:j.Pre sh)
include h
theorem KV{k n:Nat}{s:Sg}(hs:j.sts[k]?=some s)(hn:n=j.ins.length+j.sts.length){a b m c:Int}
  (hr:r_ (s.arg (eR s.bar)++((sh s.a.toNat).pd++(if s.two=true then sh s.b.toNat else Sz.zero).pd))=some [.i a,.i b,.i m,.i c]):
  lv NN (.l (fE j.ins)) (.l (eG j.sts)) (.l (il (jH j.ins.length j.sts.length))) (.l (jR (jL sh n (j.ins.length+k)))) (.i (k:Int))=
   iq NN (.l (fE j.ins)) (.l (eG j.sts)) (.l (il (jH j.ins.length j.sts.length))) (.l (jR (jL sh n (j.ins.length+k)))) (.i (k:Int)) (.i a) (.i b) (.i m) (.i c):=by
 subst hn;have hno:=h.nodes;have hk:=(av.1 hs).1;have w:aH ((j.ins.length:Int)+j.sts.length)=((j.ins.length+j.sts.length:Nat):Int):=az (by omega) (by omega)
 have w5:aH (((j.ins.length+k:Nat):Int)-j.ins.length)=(k:Int):=by rw[az (by omega) (by omega)];omega
 obtain⟨a1,a2,a3,a4,a5⟩:=h.src _ _ hs;have hel:=kB hs;have ht:=JM s;obtain⟨u,ha⟩:=aN a1;have ha2:s.a.toNat=u:=by omega
 rw[ha2]at a2 hr;have hea:=lb sh (n:=j.ins.length+j.sts.length) (c:=j.ins.length+k) (k:=u) (by omega) a2
 cases h2:s.two with
 |false=>
  have hn:¬ (s.kind=6/\¬s.b= -1):=fun hh=>by rw[ht.2 hh]at h2;cases h2
  simp only[h2,aw,iS]at hr;dsimp only[Sg.arg,Sz.pd,List.cons_append,List.nil_append,eR]at hr;rw[c_,ha]at hr;unfold lv;simp only[aW,bj,Int.reduceNeg,cO,cZ,fS,dS,bm,dz,fz,au,gu hk,w5,w,hel,ha,hea];rw[ab (by omega),ab (by omega),ab (by omega),ab (by omega)]
  have hbody:∀ {o:Option iX},o=aB (r_ [.i s.kind,.i u,.i s.b,.i (if s.bar=0 then 0 else 1),.i s.pol,.i s.fill,.i s.kw,.i s.kh,.l (il s.ws),.l (il s.row),.l (il s.col),.i s.s1,.i s.s2,.l (fh s.X),.l (fh s.Y),.i s.bins,.l (iK s.ops),.i s.max,.i (sh u).W,.i (sh u).H,.i (sh u).M,.i 0,.i 0,.i 0]) 4 (fun r=>iq NN (.l (fE j.ins)) (.l (eG j.sts)) (.l (il (jH j.ins.length j.sts.length))) (.l (jR (jL sh (j.ins.length+j.sts.length) (j.ins.length+k)))) (.i (k:Int)) (gg r 0) (gg r 1) (gg r 2) (gg r 3))->
    o=iq NN (.l (fE j.ins)) (.l (eG j.sts)) (.l (il (jH j.ins.length j.sts.length))) (.l (jR (jL sh (j.ins.length+j.sts.length) (j.ins.length+k)))) (.i (k:Int)) (.i a) (.i b) (.i m) (.i c):=fun{o} ho=>by
   rw[ho,hr,ag (by rfl)]
   simp only[nM,lY]
  by_cases g1:s.kind=6
  ·rw[ab g1,ak (XQ (Decidable.not_not.1 fun g2=>hn ⟨g1,g2⟩)),ab (by omega),ab (by omega),ab (by omega),ab (by omega)]
   exact hbody rfl
  ·rw[ak g1,ab (by omega),ab (by omega),ab (by omega),ab (by omega)]
   exact hbody rfl
 |true=>
  obtain⟨g1,g2⟩:=ht.1 h2;obtain⟨v,hb⟩:=aN (a4 h2);have hb2:s.b.toNat=v:=by omega
  rw[hb2]at a3 hr;have heb:=lb sh (n:=j.ins.length+j.sts.length) (c:=j.ins.length+k) (k:=v) (by omega) a3
  simp only[h2,gN]at hr;dsimp only[Sg.arg,Sz.pd,List.cons_append,List.nil_append,eR]at hr;rw[ha,hb]at hr;have hb1:¬ ((v:Nat):Int)= -1:=by omega
  unfold lv;simp only[aW,bj,Int.reduceNeg,cO,cZ,fS,dS,bm,dz,fz,au,gu hk,w5,w,hel,ha,hb,hea,heb];rw[ab (by omega),ab (by omega),ab (by omega),ab (by omega),ab g1,ab (XP hb1),ab (by omega),ab (by omega),ab (by omega),ab (by omega),ab (by omega),ab (by omega),ab (by omega),hr,ag (by rfl)]
  simp only[nM,lY]
@[reducible] def rU(j:Jb)(sh:Nat->Sz)(s:Sg)(k:Nat):Sz:=if k=j.ins.length+j.sts.length-1 then fp s (sh s.a.toNat)else sh k
theorem As{s:Sg}(hs:j.sts[j.sts.length-1]?=some s):∃ (l:List PD) (k c:Int),fu j.arg=some [.l l,.i k,.i c]/\
  (c=0->yj s (sh s.a.toNat) (sh s.b.toNat)/\l=jR (jL (rU j sh s) (j.ins.length+j.sts.length) (j.ins.length+j.sts.length)))/\(yj s (sh s.a.toNat) (sh s.b.toNat)->c=0):=by
 have ho:=Wr h;have hno:=h.nodes;have hi1:=h.ins1;have hs1:=h.sts1;have hsh:=h.shOk;obtain⟨n,hn⟩:∃n,n=j.ins.length+j.sts.length:=⟨_,rfl⟩;rw[<-hn];have w:aH ((j.ins.length:Int)+j.sts.length)=(n:Int):=by rw[hn];exact az (by omega) (by omega)
 suffices hh:∃ (l:List PD) (k c:Int),FZ NN (.l (fE j.ins)) (.l (eG j.sts)) (.l (il j.outs)) (.i j.prio)=some (.fin [.l l,.i k,.i c])/\(c=0->yj s (sh s.a.toNat) (sh s.b.toNat)/\l=jR (jL (rU j sh s) n n))/\(yj s (sh s.a.toNat) (sh s.b.toNat)->c=0)by
  obtain⟨l,k,c,g1,g2⟩:=hh;refine⟨l,k,c,aK (N:=NN) ?_,g2⟩;rw[Wq];exact bI g1
 dsimp only[Jb.arg]at ho;unfold FZ;simp only[qb];rw[ho,ag (by rfl)]
 unfold HX;simp only[aW,bj,cO,cZ,w,au];rw[ab (by omega),ab (by omega)]
 have e0:(List.replicate n ((([]++[PD.i 0])++[PD.i 0])++[PD.i 0])).flatten=jR (jL sh n 0):=by rw[jL,jZ];exact Lo (enc:=Sz.pd) n Sz.zero
 rw[e0];have hl:aO (fun S=>qy NN (.l (fE j.ins)) (.l (eG j.sts)) (gg S 0) (gg S 1)) NN [.l (jR (jL sh n 0)),.i 0]=some (.brk 0 [.l (jR (jL sh n j.ins.length))]):=by
  refine bJ (fun k=>[.l (jR (jL sh n k)),.i (k:Int)]) j.ins.length NN (cC (by omega)) (fun k hk=>?_) ?_
  ·have w4:aH ((k:Int)+1)=((k+1:Nat):Int):=az (by omega) (by omega)
   have hg:=aj (l:=j.ins) hk;obtain⟨p1,p2⟩:=h.planes _ _ hg;have hv:=Z8 p1;have hel:=ry hg;generalize j.ins[k]=p at hg p1 p2 hv hel;have hset:=gd (n:=n) sh Sz.zero (k:=k) (by omega)
   have hs:=JR (jL sh n k) (k:=k) (by rw[dS];omega) (sh k)
   rw[hset]at hs;rw[p2]at hs;unfold qy;simp only[aW,bj,cO,hel];rw[ab (by omega),ab (by omega),hv,ag (by rfl)]
   unfold H3;simp only[aW,bj,Int.reduceEq,cO,cZ,fS,dS,w,w4,hel];rw[ab (by omega),ab (by omega),ab (by omega),hs]
  ·unfold qy;simp only[aW,bj,cO];rw[ak (by omega)]
 rw[hl,gk];unfold HY;simp only[nM];have put:∀ (k:Nat) (v:Sz) (hk:k<j.sts.length),iq NN (.l (fE j.ins)) (.l (eG j.sts)) (.l (il (jH j.ins.length j.sts.length))) (.l (jR (jL sh n (j.ins.length+k)))) (.i (k:Int)) (.i v.W) (.i v.H) (.i v.M) (.i 0)=some (.again [.l (jR ((jL sh n (j.ins.length+k)).set (j.ins.length+k) v)),.i ((k+1:Nat):Int)]):=fun k v hk=>by
  have w4:aH ((k:Int)+1)=((k+1:Nat):Int):=az (by omega) (by omega)
  have hs:=JR (jL sh n (j.ins.length+k)) (k:=j.ins.length+k) (by rw[dS];omega) v
  unfold iq;simp only[aW,bj,cO,cZ,fS,dS,dz,au,gu hk,w,w4,hs];rw[ab (by omega),ab (by omega),ab (by omega)]
 obtain⟨kk,X,e1,e2⟩:=cX (b:=fun S=>lv NN (.l (fE j.ins)) (.l (eG j.sts)) (.l (il (jH j.ins.length j.sts.length))) (gg S 0) (gg S 1))
  (fun k S=>(k<j.sts.length/\S=[.l (jR (jL sh n (j.ins.length+k))),.i (k:Int)])\/(k=j.sts.length/\yj s (sh s.a.toNat) (sh s.b.toNat)/\S=[.l (jR (jL (rU j sh s) n n)),.i (k:Int)]))
  (fun k X=>(k=0/\yj s (sh s.a.toNat) (sh s.b.toNat)/\X=[.l (jR (jL (rU j sh s) n n))])\/(k=1/\¬yj s (sh s.a.toNat) (sh s.b.toNat)/\∃u c:Int,c≠0/\X=[.i u,.i c])) j.sts.length (fun k S hk hS=>by
  rcases hS with⟨_,hS⟩|⟨h0,_⟩
  ·subst hS
   by_cases hlast:k+1<j.sts.length
   ·have hg:=aj (l:=j.sts) hk;obtain⟨⟨d1,d2⟩,d3⟩:=h.done k _ hlast hg
    left
    generalize j.sts[k]=t at hg d1 d2 d3;have hst:=KV h hg hn d2;rw[put k _ hk,<-d3,gd sh Sz.zero (by omega)]at hst
    exact⟨_,hst,Or.inl ⟨hlast,rfl⟩⟩
   ·obtain rfl:k=j.sts.length-1:=by omega
    obtain⟨a1,a2,a3,a4,a5⟩:=h.src _ _ hs;have hA:=hsh _ _ a2 (by omega)
    have hB:=hsh _ _ a3 (by omega)
    obtain⟨a,b,m,c,r1,r2⟩:=amn a5 hA (fun _=>hB) (eR s.bar)
    have hst:=KV h hs hn r1
    by_cases hc:c=0
    ·obtain⟨g1,g2,g3,g4⟩:=r2 hc;subst hc;rw[g2,g3,g4,put _ _ hk]at hst
     left
     refine⟨_,hst,Or.inr ⟨by omega,⟨g1,by rw[r1,g2,g3,g4];rfl⟩,?_⟩⟩
     have e:(jL sh n (j.ins.length+(j.sts.length-1))).set (j.ins.length+(j.sts.length-1)) (fp s (sh s.a.toNat))=jL (rU j sh s) n n:=by
      have hv:rU j sh s (j.ins.length+(j.sts.length-1))=fp s (sh s.a.toNat):=ab (by omega)
      have e1:jL sh n (j.ins.length+(j.sts.length-1))=jL (rU j sh s) n (j.ins.length+(j.sts.length-1)):=by
       unfold jL jb;refine cg fun i hi=>?_
       by_cases hi2:i<j.ins.length+(j.sts.length-1)
       ·rw[ab hi2,ab hi2];exact(ak (by omega)).symm
       ·rw[ak hi2,ak hi2]
      rw[e1,<-hv,gd (rU j sh s) Sz.zero (by omega),show j.ins.length+(j.sts.length-1)+1=n by omega]
     rw[e]
    ·right
     refine⟨1,[.i ((jH j.ins.length j.sts.length).getD (j.sts.length-1) 0),.i c],?_,Or.inr ⟨rfl,(fun hd=>hc (by have h2:=r1.symm.trans hd.2;simp only[ad,List.cons.injEq,aZ,bg,PD.i.injEq,and_true]at h2;exact h2.2.2.2)),(jH j.ins.length j.sts.length).getD (j.sts.length-1) 0,c,hc,rfl⟩⟩
     refine hst.trans ?_;unfold iq;simp only[aW,bj,awP];rw[ab hc]
  ·omega) (fun S hS=>by
  rcases hS with⟨h0,_⟩|⟨_,hd,hS⟩
  ·omega
  ·subst hS;refine⟨0,_,?_,Or.inl ⟨rfl,hd,rfl⟩⟩;unfold lv;simp only[aW,bj,Int.reduceNeg,bm,fz];rw[ak (by omega)]) j.sts.length 0 NN _ (by omega) (cC (by omega)) (Or.inl ⟨by omega,rfl⟩)
 rw[ch,c_]at e1;rw[e1];rcases e2 with⟨rfl,hd,rfl⟩|⟨rfl,hnd,u,c,hc,rfl⟩
 ·rw[gk];unfold HZ;simp only[aW,bj,cO,cZ,fS,dS,w];rw[ab (by omega)]
  have hcut:=Dx (enc:=Sz.pd) (es:=3) (fun _=>rfl) (jL (rU j sh s) n n) 0 n
  rw[cf (by rw[dS];omega),eO]at hcut
  rw[show(0:Int)=((0:Nat):Int)from rfl,hcut]
  exact⟨_,_,_,rfl,fun _=>⟨hd,rfl⟩,fun _=>rfl⟩
 ·exact⟨[],u,c,rfl,fun h0=>absurd h0 hc,fun hd=>absurd hd hnd⟩
theorem aJH{s:Sg}(hs:j.sts[j.sts.length-1]?=some s)(hd:l_ s (sh s.a.toNat) (sh s.b.toNat)):j.Ok (rU j sh s):=by
 have hi1:=h.ins1;have hs1:=h.sts1;have hlow:∀k,k<j.ins.length+j.sts.length-1->rU j sh s k=sh k:=fun k hk=>ak (by omega)
 refine⟨h.ins1,h.sts1,h.nodes,h.outs1,h.outs2,h.outs3,h.prio1,h.prio2,fun k p hp=>?_,fun i t ht=>?_⟩
 ·obtain⟨p1,p2⟩:=h.planes k p hp;have hk:=(av.1 hp).1;exact⟨p1,by rw[hlow k (by omega)];exact p2⟩
 ·have hi:=(av.1 ht).1;obtain⟨a1,a2,a3,a4,a5⟩:=h.src i t ht;refine⟨a1,a2,a3,a4,?_⟩;rw[hlow _ (by omega),hlow _ (by omega)]
  by_cases hl:i+1<j.sts.length
  ·obtain⟨d1,d2⟩:=h.done i t hl ht;rw[hlow _ (by omega)]
   exact⟨d1.1,d2⟩
  ·obtain rfl:i=j.sts.length-1:=by omega
   rw[hs]at ht;injection ht with ht
   subst ht;exact⟨hd,ab (by omega)⟩
end
@[reducible] def opA:List nC:=[⟨0,0⟩]
@[reducible] def HQ(a:Int):Sg:=⟨6,a,-1,0,0,0,0,0,[],[],[],0,0,[],[],0,opA,255⟩
theorem aqg:(el (iK opA) 0 2 0).n=0/\(el (iK opA) 0 2 1).n=0:=⟨rfl,rfl⟩
theorem Oj:bH (iK opA) 2=1:=jX opA
theorem T2(t:Int):qB [.l (iK opA),.i t]=some [.i 0]:=by
 have h1:aH (0+1)=1:=rfl;have hl:aO (fun S=>jU NN (.l (iK opA)) (.i t) (gg S 0) (gg S 1)) NN [.i 0,.i 0]=some (.brk 0 [.i 1]):=by
  refine bJ (fun k=>[.i (k:Int),.i (k:Int)]) 1 NN (cC (by omega)) (fun k hk=>?_) ?_
  ·obtain rfl:k=0:=by omega
   unfold jU;simp only[aW,bj,Int.reduceEq,Int.reduceLT,Int.reduceLE,Int.reduceNeg,Oj,c_,aqg,h1];rfl
  ·unfold jU;simp only[aW,bj,Int.reduceNeg,Oj];rfl
 refine aK (N:=NN) ?_;rw[Ia];refine bI ?_;unfold DR;simp only[aW,bj,Int.reduceEq,Int.reduceLT,Oj];rw[hl,gk];rfl
theorem WU{M:Int}(m1:1<=M)(m2:M<=4294967296):lQ [.l (iK opA),.i M,.i 1]=some [.i 0,.i M,.i 0]:=by
 have h1:aH (0+1)=1:=rfl;have hnx:pr [.i 0,.i 0,.i 0,.i 0,.i 0,.i 0,.i M,.i 1]=some [.i 0,.i M,.i 1]:=by refine aK (N:=NN) ?_;rw[MC];refine bI ?_;unfold J8;simp only[aW,bj,Int.reduceEq,Int.reduceLT,Int.reduceLE,Int.reduceNeg];rw[ab (by omega),ab (by omega)]
 have hl:aO (fun S=>iD NN (.l (iK opA)) (.i M) (.i 1) (gg S 0) (gg S 1)) NN [.l (Uz []),.i 0]=some (.brk 0 [.l (Uz [(0,M)])]):=by
  refine bJ (fun k=>[.l (Uz (if k=0 then[]else[(0,M)])),.i (k:Int)]) 1 NN (cC (by omega)) (fun k hk=>?_) ?_
  ·obtain rfl:k=0:=by omega
   unfold iD;simp only[aW,bj,Int.reduceLT,Int.reduceLE,Oj,c_,aqg];rw[hnx,ag (by rfl)]
   unfold rr;have e0:bH (Uz []) 2=0:=pI [];have e1:aH (0-0)=0:=rfl;have e2:iv (Uz []) 0 0 2=[]:=rfl;simp only[aW,bj,Int.reduceEq,Int.reduceLE,e0,e1,e2,h1];rfl
  ·unfold iD;simp only[aW,bj,Oj];rfl
 refine aK (N:=NN) ?_;rw[wo];refine bI ?_;unfold qC;simp only[pl2];rw[T2,ag (by rfl)]
 unfold ro;simp only[aW,bj,Int.reduceLT,Int.reduceLE];rw[ab m1,ak (by omega)]
 have e0:PD.l []=PD.l (Uz []):=rfl;rw[e0,hl,gk];unfold rq;have e1:bH (Uz [(0,M)]) 2=1:=pI _;simp only[aW,bj,Int.reduceLT,e1];rfl
theorem apm{A Q:Sz}(hA:A.Ok)(a:Int):yj (HQ a) A Q:=by
 refine⟨.point (st:=[(0,A.M)]) ⟨by decide,by decide,rfl,fun k o ho=>?_⟩ (by decide) (by decide) rfl,?_⟩
 ·have hk:=(av.1 ho).1;obtain rfl:k=0:=by simpa[opA]using hk
  simp only[opA,bn,ad]at ho;subst ho;exact⟨⟨by decide,by decide,by right;right;decide⟩,fun h=>(by cases h),by decide⟩
 ·have hk:SgF (HQ a):= .point (by decide)
  have hf:=Au hk (eR (eR 0));have hz:=tz hA;have hc:lw [.l (iK opA),.i 0,.i A.M,.i 0,.i 255]=some [.i 0]:=by
   refine aK (N:=NN) ?_;rw[Ic];refine bI ?_;unfold DU;simp only[qb];rw[T2,ag (by rfl)]
   unfold BG;simp only[aW,bj,Int.reduceLT,Int.reduceLE];rw[WU hA.m1 hA.m2,ag (by rfl)]
   rfl
  dsimp only[HQ,Sg.arg,Sz.pd,List.cons_append,List.nil_append,eR]at hf ⊢;have ht:Sg.two ⟨6,a,-1,0,0,0,0,0,[],[],[],0,0,[],[],0,opA,255⟩=false:=rfl;simp only[ht,aw,iS,gN,c_]at hf ⊢;have hker:ka [.i 6,.i a,.i (-1),.i 0,.i 0,.i 0,.i 0,.i 0,.l (il []),.l (il []),.l (il []),.i 0,.i 0,.l (fh []),.l (fh []),.i 0,.l (iK opA),.i 255,.i A.W,.i A.H,.i A.M,.i 0,.i 0,.i 0]=some [.i A.W,.i A.H,.i 255,.i 0]:=by
   refine aK (N:=NN) ?_;rw[DI];refine bI ?_;unfold yT;simp only[aW,bj,Int.reduceEq,Int.reduceLT,Int.reduceLE,Int.reduceNeg];rw[hc,ag (by rfl)]
   unfold qA;simp only[aW,bj,Int.reduceNeg];rw[hc,ag (by rfl)]
   rfl
  refine aK (N:=NN) ?_;rw[aam];refine bI ?_;unfold ajf;simp only[aW,bj,Int.reduceNeg];rw[hf,ag (by rfl)]
  unfold Wu;simp only[aW,bj,Int.reduceEq,Int.reduceNeg];rw[hz,ag (by rfl)]
  unfold Wv;simp only[aW,bj,Int.reduceEq,Int.reduceNeg];rw[hker,ag (by rfl)]
  rfl
def At(xs:List Int)(p:Int):Prop:=0<=p/\p<=xs.length/\(xs.length:Int)<=9223372036854775807
theorem cV{xs:List Int}{p:Int}(h:At xs p){n:Int}(n2:n<=1000000):∃v q:Int,cU [.i n,.l (il xs),.i p]=some [.i v,.l (il xs),.i q]/\At xs q/\0<=v/\(1<=n->v<n)/\(n<1->v=0):=by
 suffices hh:∃v q:Int,aq_ NN (.i n) (.l (il xs)) (.i p)=some (.fin [.i v,.l (il xs),.i q])/\At xs q/\0<=v/\(1<=n->v<n)/\(n<1->v=0)by
  obtain⟨v,q,h1,h2⟩:=hh;refine⟨v,q,aK (N:=NN) ?_,h2⟩;rw[aq9];exact bI h1
 obtain⟨p1,p2,p3⟩:=id h;unfold aq_;simp only[aW,bj,bm]
 by_cases c1:n<1
 ·rw[ab c1];exact⟨0,p,rfl,h,by omega,by omega,fun _=>rfl⟩
 rw[ak c1]
 by_cases c2:(xs.length:Int)<=p
 ·rw[ab c2];exact⟨0,p,rfl,h,by omega,by omega,fun _=>rfl⟩
 rw[ak c2];have w1:aH (p+1)=p+1:=az (by omega) (by omega)
 have w2:aH (p+1-1)=p:=by rw[az (by omega) (by omega)];omega
 rw[w1,w2,ab (by omega),ab (by omega),ab (show ¬n=0 by omega)]
 generalize(el (il xs) p 1 0).n=x;have t1:=Int.lt_tmod_of_pos x (show 0<n by omega)
 have t2:=Int.tmod_lt_of_pos x (show 0<n by omega)
 by_cases c3:Int.tmod x n<0
 ·rw[ab c3,az (x:=Int.tmod x n+n) (by omega) (by omega)]
  exact⟨_,_,rfl,⟨by omega,by omega,p3⟩,by omega,fun _=>by omega,fun h=>absurd h c1⟩
 ·rw[ak c3];exact⟨_,_,rfl,⟨by omega,by omega,p3⟩,by omega,fun _=>t2,fun h=>absurd h c1⟩
theorem lC{xs:List Int}{p:Int}(h:At xs p)(l:List Int)(h1:1<=l.length)(h2:l.length<=1000):∃v q:Int,eX [.l (il l),.l (il xs),.i p]=some [.i v,.l (il xs),.i q]/\At xs q/\v∈l:=by
 obtain⟨v,q,g1,g2,g3,g4,g5⟩:=cV h (n:=(l.length:Int)) (by omega)
 obtain⟨v,rfl⟩:=aN g3;have hv:=g4 (by omega)
 refine⟨l.getD v 0,q,aK (N:=NN) ?_,g2,np (by omega)⟩
 rw[aq1];refine bI ?_;unfold ay8;simp only[qb,bm];rw[g1,ag (by rfl)]
 unfold ajW;simp only[aW,bj,bm,dz,au];rw[ab (by omega),ab (by omega)]
theorem O0{xs:List Int}{p:Int}(h:At xs p){W H:Nat}(w1:1<=W)(w2:W<=100)(h1:1<=H)(h2:H<=100)(ha:W*H<=4096):∃ (P:Pl) (q:Int),GI [.i W,.i H,.l (il xs),.i p]=some (P.pd++[.l (il xs),.i q])/\P.Ok/\P.W=W/\P.H=H/\At xs q:=by
 obtain⟨M,q,g1,g2,g3⟩:=lC h [255,255,65535,1,7] (by simp) (by simp)
 have hM:1<=M/\M<=65535:=by simp only[aS,eV,or_false]at g3;omega
 suffices hh:∃ (P:Pl) (q:Int),agp NN (.i W) (.i H) (.l (il xs)) (.i p)=some (.fin (P.pd++[.l (il xs),.i q]))/\P.Ok/\P.W=W/\P.H=H/\At xs q by
  obtain⟨P,q,f1,f2⟩:=hh;refine⟨P,q,aK (N:=NN) ?_,f2⟩;rw[amW];exact bI f1
 have w:aH ((W:Int)*H)=((W*H:Nat):Int):=by rw[<-aX,az (by omega) (by omega)]
 have wM:aH (M+1)=M+1:=az (by omega) (by omega)
 have g1':eX [.l ((((([]++[PD.i 255])++[PD.i 255])++[PD.i 65535])++[PD.i 1])++[PD.i 7]),.l (il xs),.i p]=some [.i M,.l (il xs),.i q]:=g1;unfold agp;simp only[qb];rw[g1',ag (by rfl)]
 unfold abz;simp only[aW,bj,w,au,gB];rw[ab (by omega),ab (by omega)]
 obtain⟨k,X,e1,rfl,L,q',e2,e3,e4,rfl⟩:=cX (b:=fun S=>Ej NN (.l (il xs)) (.i M) (gg S 0) (gg S 1) (gg S 2))
  (fun i S=>∃ (L:List Int) (q:Int),L.length=W*H/\(∀v∈L,0<=v/\v<=M)/\At xs q/\S=[.l (il L),.i (i:Int),.i q])
  (fun k X=>k=0/\∃ (L:List Int) (q:Int),L.length=W*H/\(∀v∈L,0<=v/\v<=M)/\At xs q/\X=[.l (il L),.i q]) (W*H) (fun i S hi ⟨L,q,hL,hb,hq,hS⟩=>by
  subst hS;have w4:aH ((i:Int)+1)=((i+1:Nat):Int):=az (by omega) (by omega)
  obtain⟨u,q1,a1,a2,a3,a4,_⟩:=cV hq (n:=M+1) (by omega)
  obtain⟨v,q2,b1,b2,b3,b4,_⟩:=cV a2 (n:=M+1) (by omega)
  obtain⟨z,q3,c1,c2,c3⟩:=lC b2 [u,v,M,0] (by simp) (by simp)
  have c1':eX [.l (((([]++[PD.i u])++[PD.i v])++[PD.i M])++[PD.i 0]),.l (il xs),.i q2]=some [.i z,.l (il xs),.i q3]:=c1;have hu:=a4 (by omega)
  have hv:=b4 (by omega)
  have hz:0<=z/\z<=M:=by simp only[aS,eV,or_false]at c3;omega
  left
  unfold Ej;simp only[aW,bj,bm,hL,wM];rw[ab (by omega),a1,ag (by rfl)]
  unfold abB;simp only[aW,wM];rw[b1,ag (by rfl)]
  unfold abC;simp only[aW];rw[c1',ag (by rfl)]
  unfold abD;simp only[aW,bj,w4,h_];rw[ab (by omega)]
  refine⟨_,rfl,L.set i z,q3,by rw[dJ];exact hL,fun x hx=>?_,c2,rfl⟩
  rcases ij hx with h|rfl
  ·exact hb x h
  ·exact hz) (fun S ⟨L,q,hL,hb,hq,hS⟩=>by
  subst hS;refine⟨0,_,?_,rfl,L,q,hL,hb,hq,rfl⟩;unfold Ej;simp only[aW,bj,bm,hL];rw[ak (by omega)]) (W*H) 0 NN [.l (il (List.replicate (W*H) 0)),.i 0,.i q] (by omega) (cC (by omega)) ⟨_,q,by simp,fun v hv=>by rw[List.eq_of_mem_replicate hv];omega,g2,rfl⟩
 rw[e1,gk];unfold abA;exact⟨⟨W,H,M,L⟩,q',rfl,⟨w1,(by show W<=128;omega),h1,(by show H<=128;omega),ha,hM.1,(by show M<=4294967296;omega),e2,e3⟩,rfl,rfl,e4⟩
theorem agt{xs:List Int}{p:Int}(h:At xs p):∃ (P:Pl) (q:Int),Uv [.l (il xs),.i p]=some (P.pd++[.l (il xs),.i q])/\P.Ok/\P.W<=6/\P.H<=5/\At xs q:=by
 obtain⟨a,q1,a1,a2,a3,a4,_⟩:=cV h (n:=6) (by omega)
 obtain⟨b,q2,b1,b2,b3,b4,_⟩:=cV a2 (n:=5) (by omega)
 obtain⟨a,rfl⟩:=aN a3;obtain⟨b,rfl⟩:=aN b3;have ha:=a4 (by omega)
 have hb:=b4 (by omega)
 have hab:(1+a)*(1+b)<=6*5:=kf (by omega) (by omega)
 obtain⟨P,q3,c1,c2,c3,c4,c5⟩:=O0 b2 (W:=1+a) (H:=1+b) (by omega) (by omega) (by omega) (by omega) (by omega)
 have w1:aH (1+(a:Int))=((1+a:Nat):Int):=az (by omega) (by omega)
 have w2:aH (1+(b:Int))=((1+b:Nat):Int):=az (by omega) (by omega)
 refine⟨P,q3,aK (N:=NN) ?_,c2,by omega,by omega,c5⟩
 rw[amX];refine bI ?_;unfold aq0;simp only[qb];rw[a1,ag (by rfl)]
 unfold abF;simp only[aW];rw[b1,ag (by rfl)]
 unfold abG;simp only[aW,w1,w2];dsimp only[Pl.pd,List.cons_append,List.nil_append]at c1;rw[c1,ag (by rfl)]
 rfl
theorem GN{xs:List Int}{p:Int}(h:At xs p){M:Int}(m1:1<=M)(m2:M<=4294967296):∃pol fill q:Int,Eu [.i M,.l (il xs),.i p]=some [.i pol,.i fill,.l (il xs),.i q]/\At xs q:=by
 obtain⟨a,q1,a1,a2,a3,a4,_⟩:=cV h (n:=4) (by omega)
 suffices hh:∃pol fill q:Int,arf NN (.i M) (.l (il xs)) (.i p)=some (.fin [.i pol,.i fill,.l (il xs),.i q])/\At xs q by
  obtain⟨pol,fill,q,f1,f2⟩:=hh;refine⟨pol,fill,q,aK (N:=NN) ?_,f2⟩;rw[ard];exact bI f1
 unfold arf;simp only[qb];rw[a1,ag (by rfl)]
 unfold akf;simp only[aW,bj]
 by_cases c3:a=3
 ·obtain⟨z,q3,c1,c2,_⟩:=lC a2 [0,M,aH (Int.tdiv M 2)] (by simp) (by simp)
  have c1':eX [.l ((([]++[PD.i 0])++[PD.i M])++[PD.i (aH (Int.tdiv M 2))]),.l (il xs),.i q1]=some [.i z,.l (il xs),.i q3]:=c1;rw[ab c3,c1',ag (by rfl)]
  exact⟨_,_,_,rfl,c2⟩
 ·rw[ak c3];exact⟨_,_,_,rfl,a2⟩
theorem ot{xs:List Int}{p:Int}(h:At xs p){n:Nat}(hn:n<=1000):∃ (l:List Int) (q:Int),ni [.i n,.l (il xs),.i p]=some [.l (il l),.l (il xs),.i q]/\l.length=n/\At xs q:=by
 obtain⟨k,X,e1,rfl,L,q',e2,e4,rfl⟩:=cX (b:=fun S=>uc NN (.i n) (.l (il xs)) (gg S 0) (gg S 1) (gg S 2))
  (fun i S=>∃ (L:List Int) (q:Int),L.length=i/\At xs q/\S=[.l (il L),.i (i:Int),.i q])
  (fun k X=>k=0/\∃ (L:List Int) (q:Int),L.length=n/\At xs q/\X=[.l (il L),.i q]) n (fun i S hi ⟨L,q,hL,hq,hS⟩=>by
  subst hS;have w4:aH ((i:Int)+1)=((i+1:Nat):Int):=az (by omega) (by omega)
  obtain⟨u,q1,a1,a2,a3,a4,_⟩:=cV hq (n:=41) (by omega)
  obtain⟨z,q3,c1,c2,_⟩:=lC a2 [1,2,-1,0,aH (u-20),5] (by simp) (by simp)
  have c1':eX [.l (((((([]++[PD.i 1])++[PD.i 2])++[PD.i (-1)])++[PD.i 0])++[PD.i (aH (u-20))])++[PD.i 5]),.l (il xs),.i q1]=some [.i z,.l (il xs),.i q3]:=c1
  left
  unfold uc;simp only[aW,bj];rw[ab (by omega),a1,ag (by rfl)]
  unfold OW;simp only[aW];rw[c1',ag (by rfl)]
  unfold OX;simp only[aW,bj,bm,hL,w4];rw[ab (by omega)]
  exact⟨_,rfl,L++[z],q3,by simp[hL],c2,by rw[<-jI];rfl⟩) (fun S ⟨L,q,hL,hq,hS⟩=>by
  subst hS;refine⟨0,_,?_,rfl,L,q,hL,hq,rfl⟩;unfold uc;simp only[aW,bj];rw[ak (by omega)]) n 0 NN [.l [],.i 0,.i p] (by omega) (cC (by omega)) ⟨[],p,rfl,h,rfl⟩
 refine⟨L,q',aK (N:=NN) ?_,e2,e4⟩;rw[abl];refine bI ?_;unfold abm;simp only[sQ];rw[e1,gk];rfl
theorem WT(l:List nC)(m:List nC):iK l++iK m=iK (l++m):=nd l m
@[reducible] def aCg:List Int:=[3,4,5,6,7,8,9]
theorem TY{xs:List Int}{p:Int}(h:At xs p):∃v q:Int,eX [.l ((((((([]++[PD.i 3])++[PD.i 4])++[PD.i 5])++[PD.i 6])++[PD.i 7])++[PD.i 8])++[PD.i 9]),.l (il xs),.i p]=some [.i v,.l (il xs),.i q]/\At xs q:=by
 obtain⟨v,q,h1,h2,_⟩:=lC h aCg (by simp) (by simp)
 exact⟨v,q,h1,h2⟩
theorem aa2{xs:List Int}{b:List PD->Option iX}{n:Nat}(hn:n<=3)
  (hs:∀ (ops:List nC) (d q:Int),0<d->b [.l (iK ops),.i d,.i q]=aB (cU [.i 3,.l (il xs),.i q]) 3 fun r=>Em NN (.l (il xs)) (.l (iK ops)) (.i d) (gg r 0) (gg r 2))
  (he:∀ (ops:List nC) (q:Int),b [.l (iK ops),.i 0,.i q]=some (.brk 0 [.l (iK ops),.i q])) {ops:List nC} (ho:ops.length<=3) {p:Int} (h:At xs p):
  ∃ (ops':List nC) (q:Int),ops'.length<=1000/\At xs q/\aO b NN [.l (iK ops),.i n,.i p]=some (.brk 0 [.l (iK ops'),.i q]):=by
 obtain⟨k,X,e1,rfl,L,q',e2,e4,rfl⟩:=cX (b:=b)
  (fun i S=>∃ (L:List nC) (q:Int),L.length<=3+2*i/\At xs q/\S=[.l (iK L),.i ((n:Int)-i),.i q])
  (fun k X=>k=0/\∃ (L:List nC) (q:Int),L.length<=1000/\At xs q/\X=[.l (iK L),.i q]) n (fun i S hi ⟨L,q,hL,hq,hS⟩=>by
  subst hS;have w4:aH ((n:Int)-i-1)=(n:Int)-(i+1:Nat):=by rw[az (by omega) (by omega)];omega
  obtain⟨u,q1,a1,a2,a3,a4,_⟩:=cV hq (n:=3) (by omega)
  left
  rw[hs L _ q (by omega),a1,ag (by rfl)]
  unfold Em;simp only[aW,bj]
  by_cases c0:u=0
  ·obtain⟨v,q2,b1,b2,b3,b4,_⟩:=cV a2 (n:=300) (by omega)
   obtain⟨z,q3,c1,c2,_⟩:=lC b2 [aH (v-100),0,3,-2] (by simp) (by simp)
   have c1':eX [.l (((([]++[PD.i (aH (v-100))])++[PD.i 0])++[PD.i 3])++[PD.i (-2)]),.l (il xs),.i q2]=some [.i z,.l (il xs),.i q3]:=c1;obtain⟨y,q4,d1,d2⟩:=TY c2;rw[ab c0,b1,ag (by rfl)]
   unfold Xp;simp only[aW];rw[c1',ag (by rfl)]
   unfold Xq;simp only[aW];rw[d1,ag (by rfl)]
   unfold Xr;simp only[aW,bj,jX,w4];rw[ab (by omega)]
   exact⟨_,rfl,L++[⟨2,z⟩,⟨y,0⟩],q4,by simp;omega,d2,by rw[<-WT];rfl⟩
  rw[ak c0]
  by_cases c1:u=1
  ·obtain⟨v,q2,b1,b2,b3,b4,_⟩:=cV a2 (n:=4) (by omega)
   rw[ab c1,b1,ag (by rfl)]
   unfold Xo;simp only[aW,bj,jX,w4];rw[ab (by omega)]
   exact⟨_,rfl,L++[⟨10,v⟩],q2,by simp;omega,b2,by rw[<-WT];rfl⟩
  ·rw[ak c1];simp only[jX,w4];rw[ab (by omega)]
   exact⟨_,rfl,L++[⟨11,0⟩],q1,by simp;omega,a2,by rw[<-WT];rfl⟩) (fun S ⟨L,q,hL,hq,hS⟩=>by
  subst hS;rw[show(n:Int)-n=0 by omega]
  exact⟨0,_,he L q,rfl,L,q,by omega,hq,rfl⟩) n 0 NN [.l (iK ops),.i n,.i p] (by omega) (cC (by omega)) ⟨ops,p,by omega,h,by simp⟩
 exact⟨L,q',e2,e4,e1⟩
theorem am0(v0 v1 v2 v3 v4:PD):agv NN v0 v1 v2 v3 v4=Em NN v0 v1 v2 v3 v4:=by unfold agv Em aq6 Xp aq7 Xq aq8 Xr aq5 Xo;rfl
theorem O3{xs:List Int}{p:Int}(h:At xs p)(t:Int):∃ (ops:List nC) (q:Int),Ke [.i t,.l (il xs),.i p]=some [.l (iK ops),.l (il xs),.i q]/\ops.length<=1000/\At xs q:=by
 suffices hh:∃ (ops:List nC) (q:Int),aBW NN (.i t) (.l (il xs)) (.i p)=some (.fin [.l (iK ops),.l (il xs),.i q])/\ops.length<=1000/\At xs q by
  obtain⟨ops,q,f1,f2⟩:=hh;refine⟨ops,q,aK (N:=NN) ?_,f2⟩;rw[avX];exact bI f1
 unfold aBW;simp only[aW,bj]
 by_cases ht:t=0
 ·obtain⟨n,q1,a1,a2,a3,a4,_⟩:=cV h (n:=4) (by omega)
  obtain⟨n,rfl⟩:=aN a3;have hn:=a4 (by omega)
  rw[ak (dP ht),a1,ag (by rfl)]
  unfold ajX;simp only[nM,lY,sQ];obtain⟨ops,q,e1,e2,e3⟩:=aa2 (xs:=xs) (b:=fun S=>El NN (.l (il xs)) (gg S 0) (gg S 1) (gg S 2)) (n:=n) (by omega) (fun ops d q hd=>by
   unfold El;simp only[aW,bj];rw[ab hd]) (fun ops q=>by
   unfold El;simp only[aW,bj,Int.reduceLT]) (ops:=[⟨0,0⟩]) (by simp) a2
  have e3':aO (fun S=>El NN (.l (il xs)) (gg S 0) (gg S 1) (gg S 2)) NN [PD.l (([]++[PD.i 0])++[PD.i 0]),PD.i (n:Int),PD.i q1]=_:=e3
  rw[e3',gk];exact⟨ops,q,rfl,e1,e2⟩
 ·obtain⟨z,q0,d1,d2⟩:=TY h;obtain⟨n,q1,a1,a2,a3,a4,_⟩:=cV d2 (n:=4) (by omega)
  obtain⟨n,rfl⟩:=aN a3;have hn:=a4 (by omega)
  rw[ab ht,d1,ag (by rfl)]
  unfold aq3;simp only[nM,lY,qb];rw[a1,ag (by rfl)]
  unfold aq4;simp only[nM,lY,sQ];obtain⟨ops,q,e1,e2,e3⟩:=aa2 (xs:=xs) (b:=fun S=>O4 NN (.l (il xs)) (gg S 0) (gg S 1) (gg S 2)) (n:=n) (by omega) (fun ops d q hd=>by
   unfold O4;simp only[aW,bj,am0];rw[ab hd]) (fun ops q=>by
   unfold O4;simp only[aW,bj,Int.reduceLT]) (ops:=[⟨0,0⟩,⟨1,0⟩,⟨z,0⟩]) (by simp) a2
  have e3':aO (fun S=>O4 NN (.l (il xs)) (gg S 0) (gg S 1) (gg S 2)) NN [PD.l (((((([]++[PD.i 0])++[PD.i 0])++[PD.i 1])++[PD.i 0])++[PD.i z])++[PD.i 0]),PD.i (n:Int),PD.i q1]=_:=e3
  rw[e3',gk];exact⟨ops,q,rfl,e1,e2⟩
theorem RC{L:List Int}{k:Nat}(h:k<L.length)(v:Int):(L.set k v).getD k 0=v:=by rw[ae,ej h];rfl
theorem Wj{T:Int}(t0:0<=T)(t1:T<=20000){L:List Int}(l1:1<=L.length)(l2:L.length<=200)(hb:∀v∈L,1<=v/\v<=1000):∃out:List Int,HU [.i T,.l (il L)]=some [.l (il out)]/\out.length=L.length:=by
 suffices hh:∃out:List Int,Lx NN (.i T) (.l (il L))=some (.fin [.l (il out)])/\out.length=L.length by
  obtain⟨out,f1,f2⟩:=hh;refine⟨out,aK (N:=NN) ?_,f2⟩;rw[Z2];exact bI f1
 unfold Lx;obtain⟨k,X,e1,rfl,s,s1,s2,rfl⟩:=cX (b:=fun S=>tq NN (.l (il L)) (gg S 0) (gg S 1))
  (fun i S=>∃s:Int,(i:Int)<=s/\s<=1000*i/\S=[.i s,.i (i:Int)])
  (fun k X=>k=0/\∃s:Int,1<=s/\s<=200000/\X=[.i s]) L.length (fun i S hi ⟨s,s1,s2,hS⟩=>by
  subst hS;have w4:aH ((i:Int)+1)=((i+1:Nat):Int):=az (by omega) (by omega)
  have hv:=hb _ (np hi)
  left
  unfold tq;simp only[aW,bj,bm,dz,au,w4];generalize L.getD i 0=v at hv;rw[ab (by omega),ab (by omega),az (x:=s+v) (by omega) (by omega)]
  exact⟨_,rfl,s+v,by omega,by omega,rfl⟩) (fun S ⟨s,s1,s2,hS⟩=>by
  subst hS;refine⟨0,_,?_,rfl,s,by omega,by omega,rfl⟩
  unfold tq;simp only[aW,bj,bm];rw[ak (by omega)]) L.length 0 NN [.i 0,.i 0] (by omega) (cC (by omega)) ⟨0,by omega,by omega,rfl⟩
 rw[e1,gk];unfold Lu;simp only[aW,bj,bm,au,gB];rw[ab (by omega)]
 obtain⟨k,X,e1,rfl,A,B,left_,f1,f2,f3,f4,rfl⟩:=cX (b:=fun S=>tn NN (.i T) (.l (il L)) (.i s) (gg S 0) (gg S 1) (gg S 2) (gg S 3))
  (fun i S=>∃ (A B:List Int) (l:Int),A.length=L.length/\B.length=L.length/\l<=T/\ -30000000*(i:Int)<=l/\S=[.l (il A),.l (il B),.i l,.i (i:Int)])
  (fun k X=>k=0/\∃ (A B:List Int) (l:Int),A.length=L.length/\B.length=L.length/\l<=T/\ -10000000000<=l/\X=[.l (il A),.l (il B),.i l]) L.length (fun i S hi ⟨A,B,l,g1,g2,g3,g4,hS⟩=>by
  subst hS;have w4:aH ((i:Int)+1)=((i+1:Nat):Int):=az (by omega) (by omega)
  have hv:=hb _ (np hi)
  left
  unfold tn;simp only[aW,bj,Int.reduceNeg,bm,dz,au,w4,g1,g2,h_];generalize L.getD i 0=v at hv;have hp1:0<=T*v:=gr t0 (by omega)
  have hp2:T*v<=20000*1000:=iW t1 hv.2 (by omega) (by omega)
  have w1:aH (T*v)=T*v:=az (by omega) (by omega)
  have hd:Int.tdiv (T*v) s=T*v/s:=dn hp1;have hq:0<=T*v/s/\T*v/s<=T*v:=⟨gF hp1 (by omega),g8 _ hp1⟩
  rw[w1,hd,az (x:=T*v/s) (by omega) (by omega),RC (by omega)]
  generalize T*v/s=z at hq;rw[ab (by omega),ab (by omega),ab (show ¬s=0 by omega),ab (by omega),ab (by omega),az (x:=l-z) (by omega) (by omega)]
  exact⟨_,rfl,_,_,l-z,by simpa using g1,by simpa using g2,by omega,by omega,rfl⟩) (fun S ⟨A,B,l,g1,g2,g3,g4,hS⟩=>by
  subst hS;refine⟨0,_,?_,rfl,A,B,l,g1,g2,g3,by omega,rfl⟩
  unfold tn;simp only[aW,bj,bm];rw[ak (by omega)]) L.length 0 NN [.l (il (List.replicate L.length 0)),.l (il (List.replicate L.length 0)),.i T,.i 0] (by omega) (cC (by omega)) ⟨_,_,T,by simp,by simp,by omega,by omega,rfl⟩
 rw[e1,gk];unfold Lv;simp only[nM,lY,sQ];have best:∀B:List Int,B.length=L.length->∃i:Nat,i<L.length/\aO (fun S=>pj NN (.l (il B)) (gg S 0) (gg S 1)) NN [.i 0,.i 1]=some (.brk 0 [.i (i:Int)]):=fun B hB=>by
  obtain⟨k,X,e1,rfl,i,e2,rfl⟩:=cX (b:=fun S=>pj NN (.l (il B)) (gg S 0) (gg S 1))
   (fun k S=>∃i:Nat,i<L.length/\S=[.i (i:Int),.i ((k+1:Nat):Int)]) (fun k X=>k=0/\∃i:Nat,i<L.length/\X=[.i (i:Int)]) (L.length-1) (fun k S hk ⟨i,hi,hS⟩=>by
   subst hS;have w4:aH (((k+1:Nat):Int)+1)=((k+1+1:Nat):Int):=az (by omega) (by omega)
   left
   unfold pj;simp only[aW,bj,bm,hB,w4];rw[ab (by omega),ab (by omega),ab (by omega),ab (by omega)]
   split
   ·exact⟨_,rfl,k+1,by omega,rfl⟩
   ·exact⟨_,rfl,i,hi,rfl⟩) (fun S ⟨i,hi,hS⟩=>by
   subst hS;refine⟨0,_,?_,rfl,i,hi,rfl⟩;unfold pj;simp only[aW,bj,bm,hB];rw[ak (by omega)]) (L.length-1) 0 NN [.i 0,.i 1] (by omega) (cC (by omega)) ⟨0,by omega,rfl⟩
  exact⟨i,e2,e1⟩
 obtain⟨k,X,e1,rfl,A',e2,rfl⟩:=cX (b:=fun S=>tm NN (gg S 0) (gg S 1) (gg S 2))
  (fun i S=>∃ (A B:List Int) (l:Int),A.length=L.length/\B.length=L.length/\l<=20000-i/\ -10000000000<=l/\S=[.l (il A),.l (il B),.i l])
  (fun k X=>k=0/\∃A:List Int,A.length=L.length/\X=[.l (il A)]) 20000 (fun i S hi ⟨A,B,l,g1,g2,g3,g4,hS⟩=>by
  subst hS;unfold tm;simp only[aW,bj,Int.reduceNeg]
  by_cases hl:0<l
  ·left
   obtain⟨c,hc,hbst⟩:=best B g2;rw[ab hl,hbst,gk];unfold Lw;simp only[aW,bj,Int.reduceNeg,bm,g1,g2,h_];rw[ab (by omega),ab (by omega),ab (by omega),az (x:=l-1) (by omega) (by omega)]
   exact⟨_,rfl,_,_,l-1,by simpa using g1,by simpa using g2,by omega,by omega,rfl⟩
  ·right
   rw[ak hl];exact⟨0,_,rfl,rfl,A,g1,rfl⟩) (fun S ⟨A,B,l,g1,g2,g3,g4,hS⟩=>by
  subst hS;refine⟨0,_,?_,rfl,A,g1,rfl⟩;unfold tm;simp only[aW,bj];rw[ak (by omega)]) 20000 0 NN [.l (il A),.l (il B),.i left_] (by omega) (cC (by omega)) ⟨A,B,left_,f1,f2,by omega,f4,rfl⟩
 rw[e1,gk];exact⟨A',rfl,e2⟩
theorem aiB(l:List Tp)(t:Tp):fh l++t.pd=fh (l++[t]):=by
 rw[show t.pd=recs Tp.pd [t]from(vV t).symm]
 exact nd l [t]
theorem Fx.add{l:List Tp}{t:Tp}(h:Fx l)(h1:l.length<1000)(h2:t.ws.length<=10000):Fx (l++[t]):=⟨by simp;omega,fun x hx=>by
 rcases cw.1 hx with hx|hx
 ·exact h.2 x hx
 ·rw[ck.1 hx];exact h2⟩
theorem Fx.nil:Fx []:=⟨by simp,by simp⟩
theorem anN{n m i:Nat}(n1:1<=n)(n2:n<=128)(m1:1<=m)(m2:m<=128)(hi:i<m):∃L:List Int,1<=L.length/\L.length<=200/\(∀v∈L,1<=v/\v<=1000)/\
  aO (fun S=>J3 NN (.i n) (.i m) (.i i) (gg S 0) (gg S 1)) NN [.l [],.i ((i*n/m:Nat):Int)]=some (.brk 0 [.l (il L)]):=by
 have hin:i*n<=128*128:=kf (by omega) n2
 have hq1:i*n/m*m<=i*n:=Nat.div_mul_le_self ..;have hq2:i*n<(i*n/m+1)*m:=by
  have h1:=eP (i*n) m;have h2:=eN (i*n) (show 0<m by omega)
  rw[co,dd,bU (i*n/m) m];omega
 have hq3:i*n/m<=i*n:=Nat.div_le_self ..;have e1:(i+1)*n=i*n+n:=by rw[co,dd]
 generalize hq:i*n/m=q at *;generalize hF:i*n=F at *;obtain⟨k,X,g1,rfl,L,g2,g3,g4,rfl⟩:=cX (b:=fun S=>J3 NN (.i n) (.i m) (.i i) (gg S 0) (gg S 1))
  (fun k S=>∃L:List Int,L.length=k/\(∀v∈L,1<=v/\v<=1000)/\S=[.l (il L),.i ((q+k:Nat):Int)]/\(0<k->(q+k-1)*m<F+n))
  (fun k X=>k=0/\∃L:List Int,1<=L.length/\L.length<=200/\(∀v∈L,1<=v/\v<=1000)/\X=[.l (il L)]) 190 (fun k S hk ⟨L,l1,l2,hS,l3⟩=>by
  subst hS;have b0:(q+k)*m=q*m+k*m:=co ..;have b1:(q+k+1)*m=q*m+k*m+m:=by rw[co,dd,co]
  have b2:k*m<=190*128:=kf (by omega) m2
  have b3:(q+1)*m=q*m+m:=by rw[co,dd]
  have b5:k=0->k*m=0:=fun h0=>by rw[h0,dc]
  have b4:k=0\/m<=k*m:=by
   rcases dR k with h0|h0
   ·exact Or.inl h0
   ·exact Or.inr (Nat.le_mul_of_pos_left _ h0)
  have w4:aH (((q+k:Nat):Int)+1)=((q+k+1:Nat):Int):=az (by omega) (by omega)
  have w1:aH (((q+k:Nat):Int)*m)=(((q+k)*m:Nat):Int):=by rw[<-aX,az (by omega) (by omega)]
  have w2:aH ((i:Int)+1)=((i+1:Nat):Int):=az (by omega) (by omega)
  have w3:aH (((i+1:Nat):Int)*n)=((F+n:Nat):Int):=by rw[<-aX,e1,az (by omega) (by omega)]
  have w5:aH (((q+k+1:Nat):Int)*m)=(((q+k+1)*m:Nat):Int):=by rw[<-aX,az (by omega) (by omega)]
  have w6:aH ((i:Int)*n)=(F:Int):=by rw[<-aX,hF,az (by omega) (by omega)]
  unfold J3;simp only[aW,bj,bm,w1,w2,w3,w4,w5,w6];generalize k*m=km at *;generalize q*m=qm at *;rw[b0,b1]
  by_cases hlt:((qm+km:Nat):Int)<((F+n:Nat):Int)
  ·left
   rw[ab hlt,ab (by omega)]
   have hv:1<=lU ((F+n:Nat):Int) ((qm+km+m:Nat):Int)-gI (F:Int) ((qm+km:Nat):Int)/\lU ((F+n:Nat):Int) ((qm+km+m:Nat):Int)-gI (F:Int) ((qm+km:Nat):Int)<=1000:=by unfold lU gI;split <;>split <;>omega
   rw[az (by omega) (by omega)]
   refine⟨_,rfl,L++[_],by simp[l1],fun v hv'=>?_,by rw[<-jI];rfl,fun _=>?_⟩
   ·rcases cw.1 hv' with h|h
    ·exact l2 v h
    ·rw[ck.1 h];exact hv
   ·rw[show q+(k+1)-1=q+k by omega,b0]
    omega
  ·right
   rw[ak hlt];exact⟨0,_,rfl,rfl,L,by omega,by omega,l2,rfl⟩) (fun S ⟨L,l1,l2,hS,l3⟩=>by
  exfalso
  have h3:=l3 (by omega)
  rw[show q+190-1=q+1+188 by omega,co]at h3
  have:188*1<=188*m:=Nat.mul_le_mul_left _ m1;omega) 190 0 NN [.l [],.i (q:Int)] (by omega) (cC (by omega)) ⟨[],rfl,by simp,by simp,by omega⟩
 exact⟨L,g2,g3,g4,g1⟩
theorem al'{n m:Nat}(n1:1<=n)(n2:n<=128)(m1:1<=m)(m2:m<=128):∃ (l:List Tp) (c:Int),Lz [.i n,.i m,.i 8]=some [.l (fh l),.i c]/\Fx l/\l.length<=m:=by
 suffices hh:∃ (l:List Tp) (c:Int),apK NN (.i n) (.i m) (.i 8)=some (.fin [.l (fh l),.i c])/\Fx l/\l.length<=m by
  obtain⟨l,c,f1,f2⟩:=hh;refine⟨l,c,aK (N:=NN) ?_,f2⟩;rw[apI];exact bI f1
 unfold apK;simp only[aW,bj,Int.reduceLT];rw[ab (by omega),ak (by omega),ab (by omega),ak (by omega)]
 obtain⟨k,X,g1,g2⟩:=cX (b:=fun S=>J2 NN (.i n) (.i m) (.i 8) (gg S 0) (gg S 1))
  (fun i S=>∃l:List Tp,Fx l/\l.length=i/\S=[.l (fh l),.i (i:Int)])
  (fun k X=>(k=0/\∃l:List Tp,Fx l/\l.length=m/\X=[.l (fh l)])\/k=1) m (fun i S hi ⟨l,l1,l2,hS⟩=>by
  subst hS;obtain⟨L,p1,p2,p3,p4⟩:=anN n1 n2 m1 m2 hi;have hin:i*n<=128*128:=kf (by omega) n2
  have w4:aH ((i:Int)+1)=((i+1:Nat):Int):=az (by omega) (by omega)
  have w6:aH ((i:Int)*n)=((i*n:Nat):Int):=by rw[<-aX,az (by omega) (by omega)]
  have hd:Int.tdiv ((i*n:Nat):Int) m=((i*n/m:Nat):Int):=rfl;have hq3:i*n/m<=i*n:=Nat.div_le_self ..;have hqq:∀q:Nat,q<=20000->aH (q:Int)=(q:Int):=fun q hq=>az (by omega) (by omega)
  have w7:aH ((i*n/m:Nat):Int)=((i*n/m:Nat):Int):=hqq _ (dB hq3 (dB hin (by decide)))
  have u1:aek (8+0)=8:=rfl;have s1:FK .i64 1 8=256:=rfl;unfold J2;simp only[aW,bj,w6,hd,w7];rw[ab (by omega),ab (show ¬ (m:Int)=0 by omega),p4,gk]
  unfold ai_;simp only[aW,bj,Int.reduceLE,bm,u1,s1]
  by_cases h8:8<(L.length:Int)
  ·rw[ab h8];exact Or.inr ⟨1,[],rfl,Or.inr rfl⟩
  ·obtain⟨out,o1,o2⟩:=Wj (T:=256) (by omega) (by omega) p1 p2 p3
   rw[ak h8,o1,ag (by rfl)]
   unfold ai';simp only[aW,bj,e_,w6,hd,w7,w4];rw[ab (by omega)]
   exact Or.inl ⟨_,rfl,l++[⟨((i*n/m:Nat):Int),out⟩],l1.add (by omega) (by show out.length<=10000;omega),by simp[l2],by rw[<-aiB];rfl⟩) (fun S ⟨l,l1,l2,hS⟩=>by
  subst hS;refine⟨0,_,?_,Or.inl ⟨rfl,l,l1,l2,rfl⟩⟩;unfold J2;simp only[aW,bj];rw[ak (by omega)]) m 0 NN [.l [],.i 0] (by omega) (cC (by omega)) ⟨[],Fx.nil,rfl,rfl⟩
 rw[g1];rcases g2 with⟨rfl,l,l1,l2,rfl⟩|rfl
 ·rw[gk];exact⟨l,0,rfl,l1,by omega⟩
 ·exact⟨[],9,rfl,Fx.nil,by simp⟩
theorem ave(xs:List Tp){k:Nat}(h:k<xs.length)(t:Tp):cM (cM (fh xs) (k:Int) 2 0 (.i t.first)) (k:Int) 2 1 (.l (il t.ws))=fh (xs.set k t):=by
 have e1:=mh (enc:=Tp.pd) xs (aj h);have e2:=mh (enc:=Tp.pd) (xs.set k t) (k:=k) (x:=t) (by rw[ej h])
 have hA:(recs Tp.pd (xs.take k)).length=k*2:=by rw[rZ (es:=2) (fun _=>rfl),bu,fQ (by omega)]
 rw[List.take_set_of_le (by omega),List.drop_set_of_lt (by omega)]at e2
 unfold fh;rw[e1,e2];generalize recs Tp.pd (xs.take k)=A at hA;generalize recs Tp.pd (xs.drop (k+1))=B;unfold cM;simp only[au,<-hA,ch];simp[Tp.pd]
theorem abk{n c:Nat}(hc:c<=5):∃l:List Tp,Fx l/\l.length=c+1/\aO (fun S=>wV NN (.i n) (.i c) (gg S 0) (gg S 1)) NN [.l [],.i 0]=some (.brk 0 [.l (fh l)]):=by
 have w1:aH (1+(c:Int))=((c+1:Nat):Int):=by rw[az (by omega) (by omega)];omega
 have w2:aH (2*((c+1:Nat):Int))=((2*(c+1):Nat):Int):=by rw[az (by omega) (by omega)];omega
 have w3:aH (2*((2*(c+1):Nat):Int))=((4*(c+1):Nat):Int):=by rw[az (by omega) (by omega)];omega
 obtain⟨k,X,e1,rfl,l,l1,l2,rfl⟩:=cX (b:=fun S=>wV NN (.i n) (.i c) (gg S 0) (gg S 1))
  (fun i S=>∃l:List Tp,Fx l/\l.length=i/\S=[.l (fh l),.i (i:Int)])
  (fun k X=>k=0/\∃l:List Tp,Fx l/\l.length=c+1/\X=[.l (fh l)]) (c+1) (fun i S hi ⟨l,l1,l2,hS⟩=>by
  subst hS;have w4:aH ((i:Int)+1)=((i+1:Nat):Int):=az (by omega) (by omega)
  have fin:∀A B C:Int,∃S',some (iX.again [.l (fh l++(([]++[PD.i A])++[PD.l (([]++[PD.i B])++[PD.i C])])),.i ((i+1:Nat):Int)])=some (.again S')/\∃l:List Tp,Fx l/\l.length=i+1/\S'=[.l (fh l),.i ((i+1:Nat):Int)]:=fun A B C=>⟨_,rfl,l++[⟨A,[B,C]⟩],l1.add (by omega) (by simp),by simp[l2],by rw[<-aiB];rfl⟩
  left
  unfold wV;simp only[aW,bj,e_,w1,w2,w3,w4];rw[ab (by omega),ab (show ¬ ((2*(c+1):Nat):Int)=0 by omega)]
  split
  ·rw[ab (show ¬ ((4*(c+1):Nat):Int)=0 by omega),ab (by omega)]
   exact fin _ _ _
  ·rw[ab (show ¬ ((4*(c+1):Nat):Int)=0 by omega),ab (by omega)]
   exact fin _ _ _) (fun S ⟨l,l1,l2,hS⟩=>by
  subst hS;refine⟨0,_,?_,rfl,l,l1,l2,rfl⟩;unfold wV;simp only[aW,bj,w1];rw[ak (by omega)]) (c+1) 0 NN [.l [],.i 0] (by omega) (cC (by omega)) ⟨[],Fx.nil,rfl,rfl⟩
 exact⟨l,l1,l2,e1⟩
theorem af5{xs:List Int}{n:Nat}(n2:n<=128){l:List Tp}(hl:Fx l)(h6:l.length<=6){p:Int}(h:At xs p):∃ (l':List Tp) (q:Int),Fx l'/\l'.length=l.length/\At xs q/\
  aO (fun S=>sg NN (.i n) (.l (il xs)) (gg S 0) (gg S 1) (gg S 2)) NN [.l (fh l),.i 0,.i p]=some (.brk 0 [.l (fh l'),.i q]):=by
 obtain⟨k,X,e1,rfl,l',q,l1,l2,l3,rfl⟩:=cX (b:=fun S=>sg NN (.i n) (.l (il xs)) (gg S 0) (gg S 1) (gg S 2))
  (fun i S=>∃ (l':List Tp) (q:Int),Fx l'/\l'.length=l.length/\At xs q/\S=[.l (fh l'),.i (i:Int),.i q])
  (fun k X=>k=0/\∃ (l':List Tp) (q:Int),Fx l'/\l'.length=l.length/\At xs q/\X=[.l (fh l'),.i q]) l.length (fun i S hi ⟨l',q,l1,l2,l3,hS⟩=>by
  subst hS;have w4:aH ((i:Int)+1)=((i+1:Nat):Int):=az (by omega) (by omega)
  have w5:aH ((n:Int)+6)=((n+6:Nat):Int):=az (by omega) (by omega)
  obtain⟨u,q1,a1,a2,a3,a4,_⟩:=cV l3 (n:=4) (by omega)
  left
  unfold sg;simp only[aW,bj,e_];rw[ab (by omega),a1,ag (by rfl)]
  unfold Uh;simp only[aW,bj,w4,w5]
  by_cases hu:u=0
  ·obtain⟨f,q2,b1,b2,b3,b4,_⟩:=cV a2 (n:=((n+6:Nat):Int)) (by omega)
   obtain⟨c,q3,c1,c2,c3,c4,_⟩:=cV b2 (n:=4) (by omega)
   obtain⟨c,rfl⟩:=aN c3;have hc:=c4 (by omega)
   have w6:aH (1+(c:Int))=((1+c:Nat):Int):=az (by omega) (by omega)
   obtain⟨ws,q4,d1,d2,d3⟩:=ot c2 (n:=1+c) (by omega)
   have hset:=ave l' (k:=i) (by omega) ⟨aH (f-4),ws⟩
   rw[ab hu,b1,ag (by rfl)]
   unfold abn;simp only[aW];rw[c1,ag (by rfl)]
   unfold abo;simp only[aW,w6];rw[d1,ag (by rfl)]
   unfold abp;simp only[aW,bj,w4,hset];rw[ab (by omega)]
   refine⟨_,rfl,l'.set i ⟨aH (f-4),ws⟩,q4,⟨by rw[dJ];omega,fun x hx=>?_⟩,by rw[dJ];exact l2,d3,rfl⟩
   rcases ij hx with hx|rfl
   ·exact l1.2 x hx
   ·show ws.length<=10000
    omega
  ·rw[ak hu];exact⟨_,rfl,l',q1,l1,l2,a2,rfl⟩) (fun S ⟨l',q,l1,l2,l3,hS⟩=>by
  subst hS;refine⟨0,_,?_,rfl,l',q,l1,l2,l3,rfl⟩;unfold sg;simp only[aW,bj,e_];rw[ak (by omega)]) l.length 0 NN [.l (fh l),.i 0,.i p] (by omega) (cC (by omega)) ⟨l,p,hl,rfl,h,rfl⟩
 exact⟨l',q,l1,l2,l3,e1⟩
theorem OY{xs:List Int}{p:Int}(h:At xs p){n:Nat}(n1:1<=n)(n2:n<=128):∃ (l:List Tp) (q:Int),Gz [.i n,.l (il xs),.i p]=some [.l (fh l),.l (il xs),.i q]/\Fx l/\l.length<=6/\At xs q:=by
 suffices hh:∃ (l:List Tp) (q:Int),agl NN (.i n) (.l (il xs)) (.i p)=some (.fin [.l (fh l),.l (il xs),.i q])/\Fx l/\l.length<=6/\At xs q by
  obtain⟨l,q,f1,f2⟩:=hh;refine⟨l,q,aK (N:=NN) ?_,f2⟩;rw[amR];exact bI f1
 obtain⟨c,q1,a1,a2,a3,a4,_⟩:=cV h (n:=6) (by omega)
 obtain⟨c,rfl⟩:=aN a3;have hc:=a4 (by omega)
 have w1:aH (1+(c:Int))=((c+1:Nat):Int):=by rw[az (by omega) (by omega)];omega
 obtain⟨l,l1,l2,l3⟩:=abk (n:=n) (show c<=5 by omega)
 obtain⟨u,q2,b1,b2,b3,b4,_⟩:=cV a2 (n:=2) (by omega)
 unfold agl;simp only[qb];rw[a1,ag (by rfl)]
 unfold Ue;simp only[aW,bj,w1];rw[ab (by omega),ak (by omega),ab (by omega),ak (by omega),l3,gk]
 unfold Uf;simp only[aW];rw[b1,ag (by rfl)]
 unfold Ug;simp only[aW,bj,w1]
 by_cases hu:u=0
 ·obtain⟨bx,e,f1,f2,f3⟩:=al' n1 n2 (show 1<=c+1 by omega) (show c+1<=128 by omega)
  rw[ab hu,f1,ag (by rfl)]
  unfold abq;simp only[aW,bj]
  by_cases he:e=0
  ·rw[ab he];exact⟨bx,q2,rfl,f2,by omega,b2⟩
  ·rw[ak he];exact⟨l,q2,rfl,l1,by omega,b2⟩
 ·obtain⟨l',q3,g1,g2,g3,g4⟩:=af5 n2 l1 (by omega) b2
  rw[ak hu,g4,gk];exact⟨l',q3,rfl,g1,by omega,g3⟩
structure QF(a b:Int)(s:Sg):Prop where
 f:SgF s
 a:s.a=a
 b:s.b= -1\/(s.b=b/\0<=b)
 bar:s.bar=0\/s.bar=1
 X:s.X.length<=6
 Y:s.Y.length<=6
 bins:s.bins<=7
theorem aqb{xs:List Int}{p:Int}(h:At xs p)(x y z:Int):∃v q:Int,eX [.l ((([]++[PD.i x])++[PD.i y])++[PD.i z]),.l (il xs),.i p]=some [.i v,.l (il xs),.i q]/\At xs q/\(v=x\/v=y\/v=z):=by
 obtain⟨v,q,h1,h2,h3⟩:=lC h [x,y,z] (by simp) (by simp)
 exact⟨v,q,h1,h2,by simpa using h3⟩
theorem aFz{xs:List Int}{p:Int}(h:At xs p)(x y z t:Int):∃v q:Int,eX [.l (((([]++[PD.i x])++[PD.i y])++[PD.i z])++[PD.i t]),.l (il xs),.i p]=some [.i v,.l (il xs),.i q]/\At xs q/\(v=x\/v=y\/v=z\/v=t):=by
 obtain⟨v,q,h1,h2,h3⟩:=lC h [x,y,z,t] (by simp) (by simp)
 exact⟨v,q,h1,h2,by simpa using h3⟩
def KS(xs:List Int)(a b:Int)(o:Option iX):Prop:=∃ (s:Sg) (q:Int),o=some (.fin (s.pd++[.l (il xs),.i q]))/\QF a b s/\At xs q
theorem aBU{xs:List Int}{p:Int}(h:At xs p){a b M bar max:Int}{c d:Int}(hd:c=0)(m1:1<=M)(m2:M<=4294967296)(hb:bar=0\/bar=1){x:Int}(hx:(if x=3 then(1:Int)else 0)=bar){kw:Int}(hk:kw=1\/kw=3\/kw=2\/kw=5):
  KS xs a b (OZ NN (.i a) (.i M) (.l (il xs)) (.i 0) (.i x) (.i max) (.i kw) (.i p)):=by
 obtain⟨kh,q1,a1,a2,a3⟩:=aqb h 1 3 2;obtain⟨s,q2,b1,b2,b3,b4,_⟩:=cV a2 (n:=4) (by omega)
 obtain⟨pol,fill,q3,c1,c2⟩:=GN b2 m1 m2;obtain⟨w,hw⟩:=aN (show 0<=kw by omega)
 obtain⟨g,hg⟩:=aN (show 0<=kh by omega)
 subst hw hg;have hwg:w*g<=5*3:=kf (by omega) (by omega)
 have ww:aH ((w:Int)*g)=((w*g:Nat):Int):=by rw[<-aX,az (by omega) (by omega)]
 obtain⟨l,q4,d1,d2,d3⟩:=ot c2 (n:=w*g) (by omega)
 unfold OZ;simp only[qb];rw[a1,ag (by rfl)]
 unfold abv;simp only[aW];rw[b1,ag (by rfl)]
 unfold abw;simp only[aW];rw[c1,ag (by rfl)]
 unfold abx;simp only[aW,ww];rw[d1,ag (by rfl)]
 unfold aby;simp only[aW,hx];exact⟨⟨1,a,-1,bar,pol,fill,w,g,l,[],[],s,0,[],[],0,[],max⟩,q4,rfl,⟨.conv ⟨by omega,by omega⟩ (by omega),rfl,Or.inl rfl,hb,by simp,by simp,by simp⟩,d3⟩
theorem aFF{xs:List Int}{p:Int}(h:At xs p){a b M bar max:Int}(m1:1<=M)(m2:M<=4294967296)(hb:bar=0\/bar=1){x:Int}(hx:(if x=3 then(1:Int)else 0)=bar){r:Nat}(hr:r<=3):
  KS xs a b (GG NN (.i a) (.i M) (.l (il xs)) (.i 1) (.i x) (.i max) (.i r) (.i p)):=by
 have w1:∀v:Nat,v<=3->aH (1+(v:Int))=((v+1:Nat):Int):=fun v hv=>by rw[az (by omega) (by omega)];omega
 obtain⟨row,q1,a1,a2,a3⟩:=ot h (n:=r+1) (by omega)
 obtain⟨c,q2,b1,b2,b3,b4,_⟩:=cV a3 (n:=4) (by omega)
 obtain⟨c,rfl⟩:=aN b3;have hc:=b4 (by omega)
 obtain⟨col,q3,c1,c2,c3⟩:=ot b2 (n:=c+1) (by omega)
 obtain⟨s1,q4,d1,d2,_⟩:=cV c3 (n:=3) (by omega)
 obtain⟨s2,q5,e1,e2,_⟩:=cV d2 (n:=4) (by omega)
 obtain⟨pol,fill,q6,f1,f2⟩:=GN e2 m1 m2;unfold GG;simp only[aW,w1 r hr];rw[a1,ag (by rfl)]
 unfold Us;simp only[aW];rw[b1,ag (by rfl)]
 unfold Ut;simp only[aW,w1 c (by omega)]
 rw[c1,ag (by rfl)]
 unfold abr;simp only[aW];rw[d1,ag (by rfl)]
 unfold adr;simp only[aW];rw[e1,ag (by rfl)]
 unfold abt;simp only[aW];rw[f1,ag (by rfl)]
 unfold abu;simp only[aW,hx];exact⟨⟨2,a,-1,bar,pol,fill,0,0,[],row,col,s1,s2,[],[],0,[],max⟩,q6,rfl,⟨.sep ⟨by omega,by omega⟩,rfl,Or.inl rfl,hb,by simp,by simp,by simp⟩,f2⟩
theorem aFG{xs:List Int}{p:Int}(h:At xs p){a b M bar max:Int}(m1:1<=M)(m2:M<=4294967296)(hb:bar=0\/bar=1){x:Int}(hx:(if x=3 then(1:Int)else 0)=bar){H:Nat}(h1:1<=H)(h2:H<=128){X:List Tp}(hX:Fx X)(h6:X.length<=6):
  KS xs a b (GF NN (.i a) (.i H) (.i M) (.l (il xs)) (.i 2) (.i x) (.i max) (.l (fh X)) (.i p)):=by
 obtain⟨Y,q1,a1,a2,a3,a4⟩:=OY h h1 h2;obtain⟨pol,fill,q6,f1,f2⟩:=GN a4 m1 m2;unfold GF;simp only[qb];rw[a1,ag (by rfl)]
 unfold Uq;simp only[aW];rw[f1,ag (by rfl)]
 unfold Ur;simp only[aW,hx];exact⟨⟨3,a,-1,bar,pol,fill,0,0,[],[],[],8,8,X,Y,0,[],max⟩,q6,rfl,⟨.res hX a2,rfl,Or.inl rfl,hb,h6,a3,by simp⟩,f2⟩
theorem mE{xs:List Int}{p:Int}(h:At xs p)(a b:Int){A:Sz}(hA:A.Ok):∃ (s:Sg) (q:Int),si [.i a,.i A.W,.i A.H,.i A.M,.i b,.l (il xs),.i p]=some (s.pd++[.l (il xs),.i q])/\QF a b s/\At xs q:=by
 suffices hh:KS xs a b (agn NN (.i a) (.i A.W) (.i A.H) (.i A.M) (.i b) (.l (il xs)) (.i p))by
  obtain⟨s,q,f1,f2⟩:=hh;refine⟨s,q,aK (N:=NN) ?_,f2⟩;rw[amU];exact bI f1
 have m1:=hA.m1;have m2:=hA.m2;obtain⟨k,q1,a1,a2,a3,a4,_⟩:=cV h (n:=6) (by omega)
 have hk:=a4 (by omega)
 obtain⟨x,q2,b1,b2,b3,b4,_⟩:=cV a2 (n:=4) (by omega)
 obtain⟨max,q3,c1,c2,_⟩:=aqb b2 255 65535 15;obtain⟨bar,hx⟩:∃bar:Int,(if x=3 then(1:Int)else 0)=bar:=⟨_,rfl⟩
 have hb:bar=0\/bar=1:=by rw[<-hx];split <;>omega
 unfold agn;simp only[qb];rw[a1,ag (by rfl)]
 unfold Ui;simp only[aW];rw[b1,ag (by rfl)]
 unfold Uj;simp only[aW];rw[c1,ag (by rfl)]
 unfold Uk;rcases(show k=0\/k=1\/k=2\/k=3\/k=4\/k=5 by omega)with rfl|rfl|rfl|rfl|rfl|rfl
 ·obtain⟨kw,q4,d1,d2,d3⟩:=aFz c2 1 3 2 5;have e:aH (1+0)=1:=rfl;simp only[aW,bj,Int.reduceEq,Int.reduceNeg,e];rw[d1,ag (by rfl)]
  exact aBU d2 (c:=0) (d:=0) rfl m1 m2 hb hx d3
 ·obtain⟨r,q4,d1,d2,d3,d4,_⟩:=cV c2 (n:=4) (by omega)
  obtain⟨r,rfl⟩:=aN d3;have:=d4 (by omega)
  have e:aH (1+1)=2:=rfl;simp only[aW,bj,Int.reduceEq,Int.reduceNeg,e];rw[d1,ag (by rfl)]
  exact aFF d2 m1 m2 hb hx (by omega)
 ·obtain⟨X,q4,d1,d2,d3,d4⟩:=OY c2 hA.w1 hA.w2;have e:aH (1+2)=3:=rfl;simp only[aW,bj,Int.reduceEq,Int.reduceNeg,e];rw[d1,ag (by rfl)]
  exact aFG d4 m1 m2 hb hx hA.h1 hA.h2 d2 d3
 ·obtain⟨n,q4,d1,d2,d3⟩:=aqb c2 4 1 7;obtain⟨n,rfl⟩:=aN (show 0<=n by omega)
  have e:aH (1+3)=4:=rfl;simp only[aW,bj,Int.reduceEq,Int.reduceNeg,e];rw[d1,ag (by rfl)]
  unfold Up;simp only[aW,hx,e];exact⟨⟨4,a,-1,bar,0,0,0,0,[],[],[],0,0,[],[],n,[],0⟩,q4,rfl,⟨.hist,rfl,Or.inl rfl,hb,by simp,by simp,by show n<=7;omega⟩,d2⟩
 ·have e:aH (1+4)=5:=rfl;simp only[aW,bj,Int.reduceEq,Int.reduceNeg,e,hx];exact⟨⟨5,a,-1,bar,0,0,0,0,[],[],[],0,0,[],[],0,[],0⟩,q3,rfl,⟨.integ,rfl,Or.inl rfl,hb,by simp,by simp,by simp⟩,c2⟩
 ·have e:aH (1+5)=6:=rfl;simp only[aW,bj,Int.reduceEq,Int.reduceNeg,e]
  by_cases hbb:0<=b
  ·obtain⟨t,q4,d1,d2,_⟩:=cV c2 (n:=2) (by omega)
   rw[ab hbb,d1,ag (by rfl)]
   unfold Um;simp only[aW,bj]
   by_cases ht:t=0
   ·obtain⟨ops,q5,f1,f2,f3⟩:=O3 d2 1;rw[ab ht,f1,ag (by rfl)]
    unfold Uo;simp only[aW,hx,e];exact⟨⟨6,a,b,bar,0,0,0,0,[],[],[],0,0,[],[],0,ops,max⟩,q5,rfl,⟨.pair hbb f2,rfl,Or.inr ⟨rfl,hbb⟩,hb,by simp,by simp,by simp⟩,f3⟩
   ·obtain⟨ops,q5,f1,f2,f3⟩:=O3 d2 0;rw[ak ht,f1,ag (by rfl)]
    unfold Un;simp only[aW,hx,e];exact⟨⟨6,a,-1,bar,0,0,0,0,[],[],[],0,0,[],[],0,ops,max⟩,q5,rfl,⟨.point f2,rfl,Or.inl rfl,hb,by simp,by simp,by simp⟩,f3⟩
  ·obtain⟨ops,q5,f1,f2,f3⟩:=O3 c2 0;rw[ak hbb,f1,ag (by rfl)]
   unfold Ul;simp only[aW,hx,e];exact⟨⟨6,a,-1,bar,0,0,0,0,[],[],[],0,0,[],[],0,ops,max⟩,q5,rfl,⟨.point f2,rfl,Or.inl rfl,hb,by simp,by simp,by simp⟩,f3⟩
structure p_(ins:List Pl)(sts:List Sg)(sh:Nat->Sz):Prop where
 ins1:1<=ins.length
 ins2:ins.length<=2
 sts2:sts.length<=10
 planes:∀k p,ins[k]?=some p->p.Ok/\sh k=p.sh
 src:∀i s,sts[i]?=some s->0<=s.a/\s.a.toNat<ins.length+i/\s.b.toNat<ins.length+i/\(s.two=true->0<=s.b)/\SgF s
 done:∀i s,sts[i]?=some s->yj s (sh s.a.toNat) (sh s.b.toNat)/\sh (ins.length+i)=fp s (sh s.a.toNat)
 small:∀k,k<ins.length+sts.length->(sh k).W*(sh k).H<=200
theorem p_.pre{ins:List Pl}{sts:List Sg}{sh:Nat->Sz}(h:p_ ins sts sh)(h1:1<=sts.length){prio:Int}(p1:0<=prio)(p2:prio<4){outs:List Int}(o1:1<=outs.length)(o2:outs.length<=16)(o3:∀o∈outs,0<=o/\o<((ins.length+sts.length:Nat):Int)):Jb.Pre ⟨ins,sts,outs,prio⟩ sh:=
 ⟨h.ins1,h1,by have:=h.ins2;have:=h.sts2;show ins.length+sts.length<=16;omega,o1,o2,o3,p1,p2,h.planes,h.src,fun i s _ hs=>h.done i s hs⟩
theorem p_.ok{ins:List Pl}{sts:List Sg}{sh:Nat->Sz}(h:p_ ins sts sh)(h1:1<=sts.length){prio:Int}(p1:0<=prio)(p2:prio<4){outs:List Int}(o1:1<=outs.length)(o2:outs.length<=16)(o3:∀o∈outs,0<=o/\o<((ins.length+sts.length:Nat):Int)):Jb.Ok ⟨ins,sts,outs,prio⟩ sh:=
 ⟨h.ins1,h1,by have:=h.ins2;have:=h.sts2;show ins.length+sts.length<=16;omega,o1,o2,o3,p1,p2,h.planes,fun i s hs=>by
  obtain⟨a1,a2,a3,a4,a5⟩:=h.src i s hs;obtain⟨d1,d2⟩:=h.done i s hs;exact⟨a1,a2,a3,a4,d1.1,d2⟩⟩
theorem QR{f g:Nat->Sz}{n:Nat}(h:∀k,k<n->f k=g k):jL f n n=jL g n n:=by
 unfold jL jb;refine cg fun i hi=>?_
 have:=dv.1 hi;rw[ab this,ab this];exact h i this
theorem Ip{ins:List Pl}{sts:List Sg}{sh:Nat->Sz}(h:p_ ins sts sh){prio:Int}(p1:0<=prio)(p2:prio<4)(xs:List Int)(p:Int):
  Cg [.l (fE ins),.l (eG sts),.l [],.i prio,.l (il xs),.i p]=some [.l (jR (jL sh (ins.length+sts.length) (ins.length+sts.length))),.l (il xs),.i p]:=by
 have hi2:=h.ins2;have hs2:=h.sts2;refine aK (N:=NN) ?_;rw[agq];refine bI ?_;unfold ajV;simp only[aW,bj,cZ]
 by_cases h0:sts.length=0
 ·rw[ab (by omega)]
  have hl:aO (fun S=>zp NN (.l (fE ins)) (gg S 0) (gg S 1)) NN [.l (jR (jL sh 0 0)),.i 0]=some (.brk 0 [.l (jR (jL sh ins.length ins.length))]):=by
   refine bJ (fun k=>[.l (jR (jL sh k k)),.i (k:Int)]) ins.length NN (cC (by omega)) (fun k hk=>?_) ?_
   ·have w4:aH ((k:Int)+1)=((k+1:Nat):Int):=az (by omega) (by omega)
    have hg:=aj (l:=ins) hk;obtain⟨q1,q2⟩:=h.planes _ _ hg;have hel:=ry hg;generalize ins[k]=P at hg q1 q2 hel;have e1:jL sh (k+1) (k+1)=jL sh k k++[sh k]:=by
     unfold jL jb;rw[ik,fR]
     congr 1
     ·refine cg fun i hi=>?_
      have:=dv.1 hi;rw[ab (by omega),ab this]
     ·show[if k<k+1 then sh k else Sz.zero]=[sh k]
      rw[ab (by omega)]
    have e2:jR (jL sh k k++[sh k])=jR (jL sh k k)++(sh k).pd:=by
     rw[show(sh k).pd=recs Sz.pd [sh k]from(vV _).symm]
     exact(nd ..).symm
    unfold zp;simp only[aW,bj,cO,fS,dS,hel,w4];rw[ab (by omega),ab (by omega),ab (by omega),e1,e2,q2]
    rfl
   ·unfold zp;simp only[aW,bj,cO];rw[ak (by omega)]
  have e0:PD.l []=PD.l (jR (jL sh 0 0)):=rfl;rw[e0,hl,gk,h0,ch];rfl
 ·rw[ak (by omega)]
  have hg:=aj (l:=sts) (show sts.length-1<sts.length by omega)
  obtain⟨d1,d2⟩:=h.done _ _ hg;obtain⟨l,k,c,r1,r2,r3⟩:=As (h.pre (by omega) p1 p2 (outs:=[0]) (by simp) (by simp) (fun o ho=>by
   rw[ck.1 ho];have:=h.ins1;omega)) hg
  obtain⟨_,hl⟩:=r2 (r3 d1);have r1':fu [.l (fE ins),.l (eG sts),.l ([]++[PD.i 0]),.i prio]=_:=r1;rw[r1',ag (by rfl),hl]
  have e:jL (rU ⟨ins,sts,[0],prio⟩ sh (sts[sts.length-1])) (ins.length+sts.length) (ins.length+sts.length)=jL sh (ins.length+sts.length) (ins.length+sts.length):=QR fun i hi=>by
   unfold rU
   by_cases hil:i=ins.length+sts.length-1
   ·rw[ab hil,hil,<-d2,show ins.length+sts.length-1=ins.length+(sts.length-1)by omega]
   ·exact ak hil
  show zo NN _ _ _=_
  unfold zo;simp only[nM,pl2,sQ];rw[e]
theorem Wd(l:List Sg)(s:Sg):eG l++s.pd=eG (l++[s]):=by
 rw[show s.pd=recs Sg.pd [s]from(vV s).symm]
 exact nd l [s]
theorem qu(sts:List Sg)(s:Sg):([]++eG sts)++(((((((((((((((((([]++[PD.i s.kind])++[PD.i s.a])++[PD.i s.b])++[PD.i s.bar])++[PD.i s.pol])++[PD.i s.fill])++[PD.i s.kw])++[PD.i s.kh])++[PD.l (il s.ws)])++[PD.l (il s.row)])++[PD.l (il s.col)])++[PD.i s.s1])++[PD.i s.s2])++[PD.l (fh s.X)])++[PD.l (fh s.Y)])++[PD.i s.bins])++[PD.l (iK s.ops)])++[PD.i s.max])=eG (sts++[s]):=by have hadd:=Wd sts s;simp only[bg,aZ];exact hadd
set_option maxRecDepth 100000 in
theorem Dq(xs:List Sg)(s t:Sg):(cM (cM (cM (cM (cM (cM (cM (cM (cM (cM (cM (cM (cM (cM (cM (cM (cM (cM (eG (xs++[s])) (xs.length:Int) 18 0 (.i t.kind)) (xs.length:Int) 18 1 (.i t.a)) (xs.length:Int) 18 2 (.i t.b)) (xs.length:Int) 18 3 (.i t.bar)) (xs.length:Int) 18 4 (.i t.pol)) (xs.length:Int) 18 5 (.i t.fill)) (xs.length:Int) 18 6 (.i t.kw)) (xs.length:Int) 18 7 (.i t.kh)) (xs.length:Int) 18 8 (.l (il t.ws))) (xs.length:Int) 18 9 (.l (il t.row))) (xs.length:Int) 18 10 (.l (il t.col))) (xs.length:Int) 18 11 (.i t.s1)) (xs.length:Int) 18 12 (.i t.s2)) (xs.length:Int) 18 13 (.l (fh t.X))) (xs.length:Int) 18 14 (.l (fh t.Y))) (xs.length:Int) 18 15 (.i t.bins)) (xs.length:Int) 18 16 (.l (iK t.ops))) (xs.length:Int) 18 17 (.i t.max))=eG (xs++[t]):=by
 have hA:(eG xs).length=xs.length*18:=rZ (enc:=Sg.pd) (es:=18) (fun _=>rfl) xs
 rw[<-Wd,<-Wd];generalize eG xs=A at hA;unfold cM;simp only[au,<-hA,ch];simp[Sg.pd]
theorem aFw(sts:List Sg)(hl:sts.length<=10)(a:Int)(s:Sg)(hb:s.bar=0\/s.bar=1)(c:Int):XD NN (.l (eG sts)) (.i a) (.i s.kind) (.i s.a) (.i s.b) (.i s.bar) (.i s.pol) (.i s.fill) (.i s.kw) (.i s.kh) (.l (il s.ws)) (.l (il s.row)) (.l (il s.col)) (.i s.s1) (.i s.s2) (.l (fh s.X)) (.l (fh s.Y)) (.i s.bins) (.l (iK s.ops)) (.i s.max) (.i c)=
  some (.brk 0 [.l (eG (sts++[if c=0 then s else HQ a]))]):=by
 have hbar:(if s.bar=0 then(0:Int)else 1)=s.bar:=by rcases hb with h|h<;>rw[h]<;>rfl
 have hlast:=Dq sts s (HQ a);have hln:bH (eG (sts++[s])) 18=(sts.length:Int)+1:=by rw[cZ];simp
 have w:aH ((sts.length:Int)+1-1)=(sts.length:Int):=by rw[az (by omega) (by omega)];omega
 have hadd2:=qu sts s;unfold XD;simp only[aW,bj,Int.reduceNeg,hbar,hadd2,hln,w]
 by_cases hc:c=0
 ·rw[ak (dP hc),ab hc]
 ·rw[ab hc,ab (by omega),ab (by omega),ak hc,<-hlast]
  rfl
theorem aFv(sts:List Sg)(hl:sts.length<=10)(a:Int)(s:Sg)(hb:s.bar=0\/s.bar=1)(c:Int):Xv NN (.l (eG sts)) (.i a) (.i s.kind) (.i s.a) (.i s.b) (.i s.bar) (.i s.pol) (.i s.fill) (.i s.kw) (.i s.kh) (.l (il s.ws)) (.l (il s.row)) (.l (il s.col)) (.i s.s1) (.i s.s2) (.l (fh s.X)) (.l (fh s.Y)) (.i s.bins) (.l (iK s.ops)) (.i s.max) (.i c)=
  some (.brk 0 [.l (eG (sts++[if c=0 then s else HQ a]))]):=by
 have hbar:(if s.bar=0 then(0:Int)else 1)=s.bar:=by rcases hb with h|h<;>rw[h]<;>rfl
 have hlast:=Dq sts s (HQ a);have hln:bH (eG (sts++[s])) 18=(sts.length:Int)+1:=by rw[cZ];simp
 have w:aH ((sts.length:Int)+1-1)=(sts.length:Int):=by rw[az (by omega) (by omega)];omega
 have hadd2:=qu sts s;unfold Xv;simp only[aW,bj,Int.reduceNeg,hbar,hadd2,hln,w]
 by_cases hc:c=0
 ·rw[ak (dP hc),ab hc]
 ·rw[ab hc,ab (by omega),ab (by omega),ak hc,<-hlast]
  rfl
theorem aBq(sts:List Sg)(hl:sts.length<=10)(a:Int)(s:Sg)(hb:s.bar=0\/s.bar=1)(c:Int):Kh NN (.l (eG sts)) (.i a) (.i s.kind) (.i s.a) (.i s.b) (.i s.bar) (.i s.pol) (.i s.fill) (.i s.kw) (.i s.kh) (.l (il s.ws)) (.l (il s.row)) (.l (il s.col)) (.i s.s1) (.i s.s2) (.l (fh s.X)) (.l (fh s.Y)) (.i s.bins) (.l (iK s.ops)) (.i s.max) (.i c)=
  some (.brk 0 [.l (eG (sts++[if c=0 then s else HQ a]))]):=by
 have hbar:(if s.bar=0 then(0:Int)else 1)=s.bar:=by rcases hb with h|h<;>rw[h]<;>rfl
 have hlast:=Dq sts s (HQ a);have hln:bH (eG (sts++[s])) 18=(sts.length:Int)+1:=by rw[cZ];simp
 have w:aH ((sts.length:Int)+1-1)=(sts.length:Int):=by rw[az (by omega) (by omega)];omega
 have hadd2:=qu sts s;unfold Kh;simp only[aW,bj,Int.reduceNeg,hbar,hadd2,hln,w]
 by_cases hc:c=0
 ·rw[ak (dP hc),ab hc]
 ·rw[ab hc,ab (by omega),ab (by omega),ak hc,<-hlast]
  rfl
theorem aBp(sts:List Sg)(hl:sts.length<=10)(a:Int)(s:Sg)(hb:s.bar=0\/s.bar=1)(c:Int):Kg NN (.l (eG sts)) (.i a) (.i s.kind) (.i s.a) (.i s.b) (.i s.bar) (.i s.pol) (.i s.fill) (.i s.kw) (.i s.kh) (.l (il s.ws)) (.l (il s.row)) (.l (il s.col)) (.i s.s1) (.i s.s2) (.l (fh s.X)) (.l (fh s.Y)) (.i s.bins) (.l (iK s.ops)) (.i s.max) (.i c)=
  some (.brk 0 [.l (eG (sts++[if c=0 then s else HQ a]))]):=by
 have hbar:(if s.bar=0 then(0:Int)else 1)=s.bar:=by rcases hb with h|h<;>rw[h]<;>rfl
 have hlast:=Dq sts s (HQ a);have hln:bH (eG (sts++[s])) 18=(sts.length:Int)+1:=by rw[cZ];simp
 have w:aH ((sts.length:Int)+1-1)=(sts.length:Int):=by rw[az (by omega) (by omega)];omega
 have hadd2:=qu sts s;unfold Kg;simp only[aW,bj,Int.reduceNeg,hbar,hadd2,hln,w]
 by_cases hc:c=0
 ·rw[ak (dP hc),ab hc]
 ·rw[ab hc,ab (by omega),ab (by omega),ak hc,<-hlast]
  rfl
theorem EN{α:Type}{l:List α}{s t:α}{i:Nat}(h:(l++[s])[i]?=some t):l[i]?=some t\/(i=l.length/\t=s):=by
 by_cases hi:i<l.length
 ·rw[bl hi]at h;exact Or.inl h
 ·have:=(av.1 h).1;simp at this;have hi2:i=l.length:=by omega
  subst hi2;rw[bA (bD _),kp]at h;simp at h;exact Or.inr ⟨rfl,h.symm⟩
@[reducible] def ZH(sh:Nat->Sz)(n:Nat)(o:Sz)(k:Nat):Sz:=if k=n then o else sh k
section
variable {ins:List Pl}{sts:List Sg}{sh:Nat->Sz}(h:p_ ins sts sh)(hl:sts.length<=9)
include h hl
theorem p_.shOk{k:Nat}(hk:k<ins.length+sts.length):(sh k).Ok:=by
 by_cases h0:sts.length=0
 ·have hg:=aj (l:=ins) (show k<ins.length by omega)
  obtain⟨h1,h2⟩:=h.planes _ _ hg;rw[h2];exact h1.sh
 ·have ho:=h.ok (by omega) (prio:=0) (by omega) (by omega) (outs:=[0]) (by simp) (by simp) (fun o ho=>by
   rw[ck.1 ho];have:=h.ins1;omega)
  exact ho.sh sts.length k hk (bD _)
theorem ab7{s:Sg}(f:SgF s)(a1:0<=s.a)(a2:s.a.toNat<ins.length+sts.length)(b1:s.b.toNat<ins.length+sts.length)(b2:s.two=true->0<=s.b)(hd:yj s (sh s.a.toNat) (sh s.b.toNat))(hX:s.X.length<=6)(hY:s.Y.length<=6)(hbins:s.bins<=7):
  p_ ins (sts++[s]) (ZH sh (ins.length+sts.length) (fp s (sh s.a.toNat))):=by
 have hlow:∀k,k<ins.length+sts.length->ZH sh (ins.length+sts.length) (fp s (sh s.a.toNat)) k=sh k:=fun k hk=>ak (by omega)
 have htop:ZH sh (ins.length+sts.length) (fp s (sh s.a.toNat)) (ins.length+sts.length)=fp s (sh s.a.toNat):=ab rfl;refine⟨h.ins1,h.ins2,by simp;omega,fun k p hp=>?_,fun i t ht=>?_,fun i t ht=>?_,fun k hk=>?_⟩
 ·obtain⟨p1,p2⟩:=h.planes k p hp;have hk:=(av.1 hp).1;exact⟨p1,by rw[hlow k (by omega)];exact p2⟩
 ·rcases EN ht with ht|⟨rfl,rfl⟩
  ·exact h.src i t ht
  ·exact⟨a1,a2,b1,b2,f⟩
 ·rcases EN ht with ht|⟨rfl,rfl⟩
  ·obtain⟨d1,d2⟩:=h.done i t ht;obtain⟨e1,e2,e3,_⟩:=h.src i t ht;have hi:=(av.1 ht).1;rw[hlow _ (by omega),hlow _ (by omega),hlow _ (by omega)]
   exact⟨d1,d2⟩
  ·rw[htop,hlow _ a2,hlow _ b1];exact⟨hd,rfl⟩
 ·by_cases hkn:k=ins.length+sts.length
  ·subst hkn;rw[htop];have hs:=h.small _ a2;unfold fp;split
   ·have:=kf hX hY
    show s.X.length*s.Y.length<=200
    omega
   ·split
    ·show s.bins*1<=200
     omega
    ·split
     ·exact hs
     ·exact hs
  ·simp at hk;rw[hlow k (by omega)]
   exact h.small k (by omega)
theorem oJ{a:Nat}(ha:a<ins.length+sts.length){b:Int}(hb:b<((ins.length+sts.length:Nat):Int)){s:Sg}(hd:QF a b s){prio:Int}(p1:0<=prio)(p2:prio<4):
  ∃ (l:List PD) (k c:Int) (sh':Nat->Sz),fu [.l (fE ins),.l (eG (sts++[s])),.l (il [0]),.i prio]=some [.l l,.i k,.i c]/\p_ ins (sts++[if c=0 then s else HQ a]) sh':=by
 have hi1:=h.ins1;have hi2:=h.ins2;have sa:s.a.toNat=a:=by rw[hd.a];rfl
 have sb:s.b.toNat<ins.length+sts.length:=by
  rcases hd.b with h|⟨h,h'⟩
  ·rw[h];show 0<_;omega
  ·rw[h];omega
 have sb2:s.two=true->0<=s.b:=fun ht=>by
  rcases hd.b with h|⟨h,h'⟩
  ·exact absurd h ((JM s).1 ht).2
  ·omega
 have hpre:Jb.Pre ⟨ins,sts++[s],[0],prio⟩ sh:=⟨hi1,by simp,by simp;omega,by simp,by simp,fun o ho=>by
  rw[ck.1 ho];simp;omega,p1,p2,h.planes,fun i t ht=>by
  rcases EN ht with ht|⟨rfl,rfl⟩
  ·exact h.src i t ht
  ·exact⟨by rw[hd.a];omega,by rw[sa];exact ha,sb,sb2,hd.f⟩,fun i t hi ht=>by
  rcases EN ht with ht|⟨rfl,rfl⟩
  ·exact h.done i t ht
  ·simp at hi⟩
 have hlen:(sts++[s]).length-1=sts.length:=by simp
 obtain⟨l,k,c,r1,r2,_⟩:=As hpre (s:=s) (by show(sts++[s])[(sts++[s]).length-1]?=some s;rw[hlen];simp)
 by_cases hc:c=0
 ·obtain⟨g1,_⟩:=r2 hc;refine⟨l,k,c,ZH sh (ins.length+sts.length) (fp s (sh s.a.toNat)),r1,?_⟩;rw[ab hc];exact ab7 h hl hd.f (by rw[hd.a];omega) (by rw[sa];exact ha) sb sb2 g1 hd.X hd.Y hd.bins
 ·refine⟨l,k,c,ZH sh (ins.length+sts.length) (fp (HQ a) (sh a)),r1,?_⟩;rw[ak hc];exact ab7 h hl (s:=HQ a) (.point (by decide)) (show(0:Int)<=(a:Int)by omega) ha (show(-1:Int).toNat<_ by show 0<_;omega) (fun ht=>by cases ht) (apm (h.shOk hl ha) a) (by simp) (by simp) (by simp)
end
end Go.Proofs.YtlchkibailfldaaGreat.Ex
