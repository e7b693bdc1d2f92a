/-
  Part 22 of the proof that TopTiles returns true at every call and leaves what it was given as it was; no condition beyond the row's own.
-/
import Derived.BigQuiet
import Derived.Carry
import Derived.Deep.QuietTactic
import Derived.Handy
import Derived.OpenShut
import Derived.ProofKit
import Derived.Test.YtlchkibailfldaaGreatM19
import Derived.Test.YtlchkibailfldaaGreatM21
set_option linter.unusedVariables false
set_option linter.unusedSimpArgs false
set_option linter.unusedSectionVars false
namespace Go.Proofs.YtlchkibailfldaaGreat.Ex
open Go Go.RowKit
theorem aaS(P:Pl):((([]++[PD.i (P.W:Int)])++[PD.i (P.H:Int)])++[PD.i P.M])++[PD.l (il P.pix)]=fE [P]:=rfl
theorem aaR(P Q:Pl):(((([]++[PD.i (P.W:Int)])++[PD.i (P.H:Int)])++[PD.i P.M])++[PD.l (il P.pix)])++(((([]++[PD.i (Q.W:Int)])++[PD.i (Q.H:Int)])++[PD.i Q.M])++[PD.l (il Q.pix)])=fE [P,Q]:=rfl
section
variable {P:Pl}{sts:List Sg}{sh:Nat->Sz}(h:p_ [P] sts sh)(hl:sts.length<=9){prio:Int}(p1:0<=prio)(p2:prio<4){xs:List Int}{i:Nat}(i1:1<=i)(i2:i<=1000)
include h hl p1 p2 i1 i2
theorem am6{a:Nat}(ha:a<[P].length+sts.length){b:Int}(hb:b<(([P].length+sts.length:Nat):Int)){s:Sg}(hd:QF a b s)(q:Int):
  ∃ (c:Int) (sh':Nat->Sz),XE NN (.i prio) (.i P.W) (.i P.H) (.i P.M) (.l (il P.pix)) (.i (i:Int)) (.l (eG sts)) (.i (a:Int)) (.i s.kind) (.i s.a) (.i s.b) (.i s.bar) (.i s.pol) (.i s.fill) (.i s.kw) (.i s.kh) (.l (il s.ws)) (.l (il s.row)) (.l (il s.col)) (.i s.s1) (.i s.s2) (.l (fh s.X)) (.l (fh s.Y)) (.i s.bins) (.l (iK s.ops)) (.i s.max) (.i q)=some (.again [.i ((i-1:Nat):Int),.i q,.l (eG (sts++[if c=0 then s else HQ a]))])/\p_ [P] (sts++[if c=0 then s else HQ a]) sh':=by
 obtain⟨l,k,c,sh',r1,r2⟩:=oJ h hl ha hb hd p1 p2;refine⟨c,sh',?_,r2⟩;have hbar:(if s.bar=0 then(0:Int)else 1)=s.bar:=by rcases hd.bar with h|h<;>rw[h]<;>rfl
 have hadd2:=qu sts s;have hln:bH (eG sts) 18=(sts.length:Int):=cZ _;have hln2:bH ([]++eG sts) 18=(sts.length:Int):=cZ _;have w:aH ((i:Int)-1)=((i-1:Nat):Int):=by rw[az (by omega) (by omega)];omega
 have r1':fu [.l (fE [P]),.l (eG (sts++[s])),.l ([]++[PD.i 0]),.i prio]=_:=r1;have hlp:aO (fun S:List PD=>Kh NN (.l (eG sts)) (.i (a:Int)) (.i s.kind) (.i s.a) (.i s.b) (.i s.bar) (.i s.pol) (.i s.fill) (.i s.kw) (.i s.kh) (.l (il s.ws)) (.l (il s.row)) (.l (il s.col)) (.i s.s1) (.i s.s2) (.l (fh s.X)) (.l (fh s.Y)) (.i s.bins) (.l (iK s.ops)) (.i s.max) (.i c)) NN []=some (.brk 0 [.l (eG (sts++[if c=0 then s else HQ a]))]):=fq (aBq sts (by omega) a s hd.bar c)
 unfold XE;simp only[aW,bj,hbar,hadd2,hln,hln2,aaS];rw[ab (by omega),ab (by omega),r1',ag (by rfl)]
 unfold aj8;simp only[aW];rw[hlp,gk];unfold aj9;simp only[aW,w]
theorem Uy{a:Nat}(ha:a<[P].length+sts.length){b:Int}(hb:b<(([P].length+sts.length:Nat):Int)){s:Sg}(hd:QF a b s)(q:Int):
  ∃ (c:Int) (sh':Nat->Sz),XB NN (.i prio) (.i P.W) (.i P.H) (.i P.M) (.l (il P.pix)) (.i (i:Int)) (.l (eG sts)) (.i (a:Int)) (.i s.kind) (.i s.a) (.i s.b) (.i s.bar) (.i s.pol) (.i s.fill) (.i s.kw) (.i s.kh) (.l (il s.ws)) (.l (il s.row)) (.l (il s.col)) (.i s.s1) (.i s.s2) (.l (fh s.X)) (.l (fh s.Y)) (.i s.bins) (.l (iK s.ops)) (.i s.max) (.i q)=some (.again [.i ((i-1:Nat):Int),.i q,.l (eG (sts++[if c=0 then s else HQ a]))])/\p_ [P] (sts++[if c=0 then s else HQ a]) sh':=by
 obtain⟨l,k,c,sh',r1,r2⟩:=oJ h hl ha hb hd p1 p2;refine⟨c,sh',?_,r2⟩;have hbar:(if s.bar=0 then(0:Int)else 1)=s.bar:=by rcases hd.bar with h|h<;>rw[h]<;>rfl
 have hadd2:=qu sts s;have hln:bH (eG sts) 18=(sts.length:Int):=cZ _;have hln2:bH ([]++eG sts) 18=(sts.length:Int):=cZ _;have w:aH ((i:Int)-1)=((i-1:Nat):Int):=by rw[az (by omega) (by omega)];omega
 have r1':fu [.l (fE [P]),.l (eG (sts++[s])),.l ([]++[PD.i 0]),.i prio]=_:=r1;have hlp:aO (fun S:List PD=>Kg NN (.l (eG sts)) (.i (a:Int)) (.i s.kind) (.i s.a) (.i s.b) (.i s.bar) (.i s.pol) (.i s.fill) (.i s.kw) (.i s.kh) (.l (il s.ws)) (.l (il s.row)) (.l (il s.col)) (.i s.s1) (.i s.s2) (.l (fh s.X)) (.l (fh s.Y)) (.i s.bins) (.l (iK s.ops)) (.i s.max) (.i c)) NN []=some (.brk 0 [.l (eG (sts++[if c=0 then s else HQ a]))]):=fq (aBp sts (by omega) a s hd.bar c)
 unfold XB;simp only[aW,bj,hbar,hadd2,hln,hln2,aaS];rw[ab (by omega),ab (by omega),r1',ag (by rfl)]
 unfold aj6;simp only[aW];rw[hlp,gk];unfold aj7;simp only[aW,w]
def VR(xs:List Int)(P:Pl)(sts:List Sg)(i:Nat)(o:Option iX):Prop:=∃ (s:Sg) (sh':Nat->Sz) (q:Int),o=some (.again [.i ((i-1:Nat):Int),.i q,.l (eG (sts++[s]))])/\p_ [P] (sts++[s]) sh'/\At xs q
theorem awc{a b:Nat}(ha:a<[P].length+sts.length)(hb:b<[P].length+sts.length){p:Int}(hp:At xs p):
  VR xs P sts i (XA NN (.l (il xs)) (.i prio) (.i P.W) (.i P.H) (.i P.M) (.l (il P.pix)) (.i (i:Int)) (.l (eG sts)) (.l (jR (jL sh ([P].length+sts.length) ([P].length+sts.length)))) (.i (a:Int)) (.i (b:Int)) (.i p)):=by
 obtain⟨a1,a2,a3⟩:=lb sh ha ha;obtain⟨b1,b2,b3⟩:=lb sh hb hb;have hA:(sh a).Ok:=h.shOk hl ha;unfold XA;simp only[aW,bj,fS,dS,a1,b1];rw[ab (by omega),ab (by omega),ab (by omega),ab (by omega)]
 have one:VR xs P sts i (XC NN (.l (il xs)) (.i prio) (.i P.W) (.i P.H) (.i P.M) (.l (il P.pix)) (.i (i:Int)) (.l (eG sts)) (.l (jR (jL sh ([P].length+sts.length) ([P].length+sts.length)))) (.i (a:Int)) (.i p)):=by
  obtain⟨s,q,e1,e2,e3⟩:=mE hp (a:Int) (-1) hA;obtain⟨c,sh',f1,f2⟩:=am6 h hl p1 p2 i1 i2 ha (b:= -1) (by omega) e2 q
  unfold XC;simp only[aW,a1,a2,a3];rw[e1,ag (by rfl)]
  exact⟨_,sh',q,f1,f2,e3⟩
 by_cases hw:((sh a).W:Int)=(sh b).W
 rotate_left
 ·have e:aO (fun S:List PD=>XI NN) NN []=some (.brk 0 []):=fq rfl
  rw[ak hw,ab (by omega),e,gk]
  exact one
 ·rw[ab hw,ak (show ¬ ¬ (0:Int)=0 by omega)]
  by_cases hh:((sh a).H:Int)=(sh b).H
  ·have e:aO (fun S:List PD=>Ep NN (.l (jR (jL sh ([P].length+sts.length) ([P].length+sts.length)))) (.i (a:Int)) (.i (b:Int))) NN []=some (.brk 0 [.i (b:Int)]):=fq (by
    unfold Ep;simp only[aW,bj,Int.reduceNeg,a2,b2];rw[ab hh,ak (show ¬ ¬ (0:Int)=0 by omega)])
   rw[e,gk];obtain⟨s,q,e1,e2,e3⟩:=mE hp (a:Int) (b:Int) hA;obtain⟨c,sh',f1,f2⟩:=Uy h hl p1 p2 i1 i2 ha (b:=(b:Int)) (by omega) e2 q
   show VR xs P sts i (Eo NN (.l (il xs)) (.i prio) (.i P.W) (.i P.H) (.i P.M) (.l (il P.pix)) (.i (i:Int)) (.l (eG sts)) (.l (jR (jL sh ([P].length+sts.length) ([P].length+sts.length)))) (.i (a:Int)) (.i p) (.i (b:Int)))
   unfold Eo;simp only[aW,a1,a2,a3];rw[e1,ag (by rfl)]
   exact⟨_,sh',q,f1,f2,e3⟩
  ·have e:aO (fun S:List PD=>Ep NN (.l (jR (jL sh ([P].length+sts.length) ([P].length+sts.length)))) (.i (a:Int)) (.i (b:Int))) NN []=some (.brk 0 [.i (-1)]):=fq (by
    unfold Ep;simp only[aW,bj,Int.reduceNeg,a2,b2];rw[ak hh,ab (by omega)])
   rw[e,gk];obtain⟨s,q,e1,e2,e3⟩:=mE hp (a:Int) (-1) hA;obtain⟨c,sh',f1,f2⟩:=Uy h hl p1 p2 i1 i2 ha (b:= -1) (by omega) e2 q
   show VR xs P sts i (Eo NN (.l (il xs)) (.i prio) (.i P.W) (.i P.H) (.i P.M) (.l (il P.pix)) (.i (i:Int)) (.l (eG sts)) (.l (jR (jL sh ([P].length+sts.length) ([P].length+sts.length)))) (.i (a:Int)) (.i p) (.i (-1)))
   unfold Eo;simp only[aW,a1,a2,a3];rw[e1,ag (by rfl)]
   exact⟨_,sh',q,f1,f2,e3⟩
theorem agz{p:Int}(hp:At xs p):VR xs P sts i (En NN (.l (il xs)) (.i prio) (.i P.W) (.i P.H) (.i P.M) (.l (il P.pix)) (.i (i:Int)) (.i p) (.l (eG sts))):=by
 have hi1:=h.ins1;have hi2:=h.ins2;obtain⟨a0,q1,a1,a2,a3,a4,_⟩:=cV hp (n:=(([P].length+sts.length:Nat):Int)) (by omega)
 obtain⟨x,q2,b1,b2,b3,b4,_⟩:=cV a2 (n:=2) (by omega)
 obtain⟨b,q3,c1,c2,c3,c4,_⟩:=cV b2 (n:=(([P].length+sts.length:Nat):Int)) (by omega)
 have a5:=a4 (by omega)
 have c5:=c4 (by omega)
 obtain⟨a0,rfl⟩:=aN a3;obtain⟨b,rfl⟩:=aN c3;have hsh:=Ip h p1 p2 xs p;have main:∀a:Nat,a<[P].length+sts.length->VR xs P sts i (Xz NN (.l (il xs)) (.i prio) (.i P.W) (.i P.H) (.i P.M) (.l (il P.pix)) (.i (i:Int)) (.l (eG sts)) (.l (jR (jL sh ([P].length+sts.length) ([P].length+sts.length)))) (.i q2) (.i (a:Int))):=by
  intro a ha;unfold Xz;simp only[aW,fS,dS];rw[c1,ag (by rfl)]
  exact awc h hl p1 p2 i1 i2 ha (by omega) c2
 unfold En;simp only[aW,bj,aaS];rw[ab (by omega),hsh,ag (by rfl)]
 unfold aj3;simp only[aW,fS,dS];rw[a1,ag (by rfl)]
 unfold aj4;simp only[aW];rw[b1,ag (by rfl)]
 unfold aj5;simp only[aW]
 by_cases hx:x=0
 ·have w:aH ((([P].length+sts.length:Nat):Int)-1)=(([P].length+sts.length-1:Nat):Int):=by rw[az (by omega) (by omega)];omega
  have e:aO (fun S:List PD=>Er NN (.l (jR (jL sh ([P].length+sts.length) ([P].length+sts.length)))) (.i (a0:Int)) (.i x)) NN []=some (.brk 0 [.i (([P].length+sts.length-1:Nat):Int)]):=fq (by
   unfold Er;simp only[aW,bj,fS,dS,w];rw[ab hx])
  rw[e,gk];exact main _ (by omega)
 ·have e:aO (fun S:List PD=>Er NN (.l (jR (jL sh ([P].length+sts.length) ([P].length+sts.length)))) (.i (a0:Int)) (.i x)) NN []=some (.brk 0 [.i (a0:Int)]):=fq (by
   unfold Er;simp only[aW,bj];rw[ak hx])
  rw[e,gk];exact main _ (by omega)
end
section
variable {P Q:Pl}{sts:List Sg}{sh:Nat->Sz}(h:p_ [P,Q] sts sh)(hl:sts.length<=9){prio:Int}(p1:0<=prio)(p2:prio<4){xs:List Int}{i:Nat}(i1:1<=i)(i2:i<=1000)
include h hl p1 p2 i1 i2
theorem am5{a:Nat}(ha:a<[P,Q].length+sts.length){b:Int}(hb:b<(([P,Q].length+sts.length:Nat):Int)){s:Sg}(hd:QF a b s)(q:Int):
  ∃ (c:Int) (sh':Nat->Sz),agx NN (.i prio) (.i P.W) (.i P.H) (.i P.M) (.l (il P.pix)) (.i Q.W) (.i Q.H) (.i Q.M) (.l (il Q.pix)) (.i (i:Int)) (.l (eG sts)) (.i (a:Int)) (.i s.kind) (.i s.a) (.i s.b) (.i s.bar) (.i s.pol) (.i s.fill) (.i s.kw) (.i s.kh) (.l (il s.ws)) (.l (il s.row)) (.l (il s.col)) (.i s.s1) (.i s.s2) (.l (fh s.X)) (.l (fh s.Y)) (.i s.bins) (.l (iK s.ops)) (.i s.max) (.i q)=some (.again [.i ((i-1:Nat):Int),.i q,.l (eG (sts++[if c=0 then s else HQ a]))])/\p_ [P,Q] (sts++[if c=0 then s else HQ a]) sh':=by
 obtain⟨l,k,c,sh',r1,r2⟩:=oJ h hl ha hb hd p1 p2;refine⟨c,sh',?_,r2⟩;have hbar:(if s.bar=0 then(0:Int)else 1)=s.bar:=by rcases hd.bar with h|h<;>rw[h]<;>rfl
 have hadd2:=qu sts s;have hln:bH (eG sts) 18=(sts.length:Int):=cZ _;have hln2:bH ([]++eG sts) 18=(sts.length:Int):=cZ _;have w:aH ((i:Int)-1)=((i-1:Nat):Int):=by rw[az (by omega) (by omega)];omega
 have r1':fu [.l (fE [P,Q]),.l (eG (sts++[s])),.l ([]++[PD.i 0]),.i prio]=_:=r1;have hlp:aO (fun S:List PD=>XD NN (.l (eG sts)) (.i (a:Int)) (.i s.kind) (.i s.a) (.i s.b) (.i s.bar) (.i s.pol) (.i s.fill) (.i s.kw) (.i s.kh) (.l (il s.ws)) (.l (il s.row)) (.l (il s.col)) (.i s.s1) (.i s.s2) (.l (fh s.X)) (.l (fh s.Y)) (.i s.bins) (.l (iK s.ops)) (.i s.max) (.i c)) NN []=some (.brk 0 [.l (eG (sts++[if c=0 then s else HQ a]))]):=fq (aFw sts (by omega) a s hd.bar c)
 unfold agx;simp only[aW,bj,hbar,hadd2,hln,hln2,aaR];rw[ab (by omega),ab (by omega),r1',ag (by rfl)]
 unfold arb;simp only[aW];rw[hlp,gk];unfold arc;simp only[aW,w]
theorem Ux{a:Nat}(ha:a<[P,Q].length+sts.length){b:Int}(hb:b<(([P,Q].length+sts.length:Nat):Int)){s:Sg}(hd:QF a b s)(q:Int):
  ∃ (c:Int) (sh':Nat->Sz),XL NN (.i prio) (.i P.W) (.i P.H) (.i P.M) (.l (il P.pix)) (.i Q.W) (.i Q.H) (.i Q.M) (.l (il Q.pix)) (.i (i:Int)) (.l (eG sts)) (.i (a:Int)) (.i s.kind) (.i s.a) (.i s.b) (.i s.bar) (.i s.pol) (.i s.fill) (.i s.kw) (.i s.kh) (.l (il s.ws)) (.l (il s.row)) (.l (il s.col)) (.i s.s1) (.i s.s2) (.l (fh s.X)) (.l (fh s.Y)) (.i s.bins) (.l (iK s.ops)) (.i s.max) (.i q)=some (.again [.i ((i-1:Nat):Int),.i q,.l (eG (sts++[if c=0 then s else HQ a]))])/\p_ [P,Q] (sts++[if c=0 then s else HQ a]) sh':=by
 obtain⟨l,k,c,sh',r1,r2⟩:=oJ h hl ha hb hd p1 p2;refine⟨c,sh',?_,r2⟩;have hbar:(if s.bar=0 then(0:Int)else 1)=s.bar:=by rcases hd.bar with h|h<;>rw[h]<;>rfl
 have hadd2:=qu sts s;have hln:bH (eG sts) 18=(sts.length:Int):=cZ _;have hln2:bH ([]++eG sts) 18=(sts.length:Int):=cZ _;have w:aH ((i:Int)-1)=((i-1:Nat):Int):=by rw[az (by omega) (by omega)];omega
 have r1':fu [.l (fE [P,Q]),.l (eG (sts++[s])),.l ([]++[PD.i 0]),.i prio]=_:=r1;have hlp:aO (fun S:List PD=>Xv NN (.l (eG sts)) (.i (a:Int)) (.i s.kind) (.i s.a) (.i s.b) (.i s.bar) (.i s.pol) (.i s.fill) (.i s.kw) (.i s.kh) (.l (il s.ws)) (.l (il s.row)) (.l (il s.col)) (.i s.s1) (.i s.s2) (.l (fh s.X)) (.l (fh s.Y)) (.i s.bins) (.l (iK s.ops)) (.i s.max) (.i c)) NN []=some (.brk 0 [.l (eG (sts++[if c=0 then s else HQ a]))]):=fq (aFv sts (by omega) a s hd.bar c)
 unfold XL;simp only[aW,bj,hbar,hadd2,hln,hln2,aaR];rw[ab (by omega),ab (by omega),r1',ag (by rfl)]
 unfold akd;simp only[aW];rw[hlp,gk];unfold ake;simp only[aW,w]
def VQ(xs:List Int)(P Q:Pl)(sts:List Sg)(i:Nat)(o:Option iX):Prop:=∃ (s:Sg) (sh':Nat->Sz) (q:Int),o=some (.again [.i ((i-1:Nat):Int),.i q,.l (eG (sts++[s]))])/\p_ [P,Q] (sts++[s]) sh'/\At xs q
theorem awb{a b:Nat}(ha:a<[P,Q].length+sts.length)(hb:b<[P,Q].length+sts.length){p:Int}(hp:At xs p):
  VQ xs P Q sts i (XK NN (.l (il xs)) (.i prio) (.i P.W) (.i P.H) (.i P.M) (.l (il P.pix)) (.i Q.W) (.i Q.H) (.i Q.M) (.l (il Q.pix)) (.i (i:Int)) (.l (eG sts)) (.l (jR (jL sh ([P,Q].length+sts.length) ([P,Q].length+sts.length)))) (.i (a:Int)) (.i (b:Int)) (.i p)):=by
 obtain⟨a1,a2,a3⟩:=lb sh ha ha;obtain⟨b1,b2,b3⟩:=lb sh hb hb;have hA:(sh a).Ok:=h.shOk hl ha;unfold XK;simp only[aW,bj,fS,dS,a1,b1];rw[ab (by omega),ab (by omega),ab (by omega),ab (by omega)]
 have one:VQ xs P Q sts i (agw NN (.l (il xs)) (.i prio) (.i P.W) (.i P.H) (.i P.M) (.l (il P.pix)) (.i Q.W) (.i Q.H) (.i Q.M) (.l (il Q.pix)) (.i (i:Int)) (.l (eG sts)) (.l (jR (jL sh ([P,Q].length+sts.length) ([P,Q].length+sts.length)))) (.i (a:Int)) (.i p)):=by
  obtain⟨s,q,e1,e2,e3⟩:=mE hp (a:Int) (-1) hA;obtain⟨c,sh',f1,f2⟩:=am5 h hl p1 p2 i1 i2 ha (b:= -1) (by omega) e2 q
  unfold agw;simp only[aW,a1,a2,a3];rw[e1,ag (by rfl)]
  exact⟨_,sh',q,f1,f2,e3⟩
 by_cases hw:((sh a).W:Int)=(sh b).W
 rotate_left
 ·have e:aO (fun S:List PD=>XI NN) NN []=some (.brk 0 []):=fq rfl
  rw[ak hw,ab (by omega),e,gk]
  exact one
 ·rw[ab hw,ak (show ¬ ¬ (0:Int)=0 by omega)]
  by_cases hh:((sh a).H:Int)=(sh b).H
  ·have e:aO (fun S:List PD=>O7 NN (.l (jR (jL sh ([P,Q].length+sts.length) ([P,Q].length+sts.length)))) (.i (a:Int)) (.i (b:Int))) NN []=some (.brk 0 [.i (b:Int)]):=fq (by
    unfold O7;simp only[aW,bj,Int.reduceNeg,a2,b2];rw[ab hh,ak (show ¬ ¬ (0:Int)=0 by omega)])
   rw[e,gk];obtain⟨s,q,e1,e2,e3⟩:=mE hp (a:Int) (b:Int) hA;obtain⟨c,sh',f1,f2⟩:=Ux h hl p1 p2 i1 i2 ha (b:=(b:Int)) (by omega) e2 q
   show VQ xs P Q sts i (Et NN (.l (il xs)) (.i prio) (.i P.W) (.i P.H) (.i P.M) (.l (il P.pix)) (.i Q.W) (.i Q.H) (.i Q.M) (.l (il Q.pix)) (.i (i:Int)) (.l (eG sts)) (.l (jR (jL sh ([P,Q].length+sts.length) ([P,Q].length+sts.length)))) (.i (a:Int)) (.i p) (.i (b:Int)))
   unfold Et;simp only[aW,a1,a2,a3];rw[e1,ag (by rfl)]
   exact⟨_,sh',q,f1,f2,e3⟩
  ·have e:aO (fun S:List PD=>O7 NN (.l (jR (jL sh ([P,Q].length+sts.length) ([P,Q].length+sts.length)))) (.i (a:Int)) (.i (b:Int))) NN []=some (.brk 0 [.i (-1)]):=fq (by
    unfold O7;simp only[aW,bj,Int.reduceNeg,a2,b2];rw[ak hh,ab (by omega)])
   rw[e,gk];obtain⟨s,q,e1,e2,e3⟩:=mE hp (a:Int) (-1) hA;obtain⟨c,sh',f1,f2⟩:=Ux h hl p1 p2 i1 i2 ha (b:= -1) (by omega) e2 q
   show VQ xs P Q sts i (Et NN (.l (il xs)) (.i prio) (.i P.W) (.i P.H) (.i P.M) (.l (il P.pix)) (.i Q.W) (.i Q.H) (.i Q.M) (.l (il Q.pix)) (.i (i:Int)) (.l (eG sts)) (.l (jR (jL sh ([P,Q].length+sts.length) ([P,Q].length+sts.length)))) (.i (a:Int)) (.i p) (.i (-1)))
   unfold Et;simp only[aW,a1,a2,a3];rw[e1,ag (by rfl)]
   exact⟨_,sh',q,f1,f2,e3⟩
theorem agy{p:Int}(hp:At xs p):VQ xs P Q sts i (Es NN (.l (il xs)) (.i prio) (.i P.W) (.i P.H) (.i P.M) (.l (il P.pix)) (.i Q.W) (.i Q.H) (.i Q.M) (.l (il Q.pix)) (.i (i:Int)) (.i p) (.l (eG sts))):=by
 have hi1:=h.ins1;have hi2:=h.ins2;obtain⟨a0,q1,a1,a2,a3,a4,_⟩:=cV hp (n:=(([P,Q].length+sts.length:Nat):Int)) (by omega)
 obtain⟨x,q2,b1,b2,b3,b4,_⟩:=cV a2 (n:=2) (by omega)
 obtain⟨b,q3,c1,c2,c3,c4,_⟩:=cV b2 (n:=(([P,Q].length+sts.length:Nat):Int)) (by omega)
 have a5:=a4 (by omega)
 have c5:=c4 (by omega)
 obtain⟨a0,rfl⟩:=aN a3;obtain⟨b,rfl⟩:=aN c3;have hsh:=Ip h p1 p2 xs p;have main:∀a:Nat,a<[P,Q].length+sts.length->VQ xs P Q sts i (XJ NN (.l (il xs)) (.i prio) (.i P.W) (.i P.H) (.i P.M) (.l (il P.pix)) (.i Q.W) (.i Q.H) (.i Q.M) (.l (il Q.pix)) (.i (i:Int)) (.l (eG sts)) (.l (jR (jL sh ([P,Q].length+sts.length) ([P,Q].length+sts.length)))) (.i q2) (.i (a:Int))):=by
  intro a ha;unfold XJ;simp only[aW,fS,dS];rw[c1,ag (by rfl)]
  exact awb h hl p1 p2 i1 i2 ha (by omega) c2
 unfold Es;simp only[aW,bj,aaR];rw[ab (by omega),hsh,ag (by rfl)]
 unfold aka;simp only[aW,fS,dS];rw[a1,ag (by rfl)]
 unfold akb;simp only[aW];rw[b1,ag (by rfl)]
 unfold akc;simp only[aW]
 by_cases hx:x=0
 ·have w:aH ((([P,Q].length+sts.length:Nat):Int)-1)=(([P,Q].length+sts.length-1:Nat):Int):=by rw[az (by omega) (by omega)];omega
  have e:aO (fun S:List PD=>O8 NN (.l (jR (jL sh ([P,Q].length+sts.length) ([P,Q].length+sts.length)))) (.i (a0:Int)) (.i x)) NN []=some (.brk 0 [.i (([P,Q].length+sts.length-1:Nat):Int)]):=fq (by
   unfold O8;simp only[aW,bj,fS,dS,w];rw[ab hx])
  rw[e,gk];exact main _ (by omega)
 ·have e:aO (fun S:List PD=>O8 NN (.l (jR (jL sh ([P,Q].length+sts.length) ([P,Q].length+sts.length)))) (.i (a0:Int)) (.i x)) NN []=some (.brk 0 [.i (a0:Int)]):=fq (by
   unfold O8;simp only[aW,bj];rw[ak hx])
  rw[e,gk];exact main _ (by omega)
end
def au4(xs:List Int)(o:Option iX):Prop:=∃ (j:Jb) (sh:Nat->Sz) (q:Int),o=some (.fin [.l (fE j.ins),.l (eG j.sts),.l (il j.outs),.i j.prio,.l (il xs),.i q])/\j.Ok sh/\(∀k,k<j.ins.length+j.sts.length->(sh k).W*(sh k).H<=200)/\At xs q
theorem ari{P:Pl}{sts:List Sg}(hl:sts.length<=10)(h1:1<=sts.length){prio:Int}{xs:List Int}{p:Int}(hp:At xs p):∃ (outs:List Int) (q:Int),
  Xy NN (.l (il xs)) (.i prio) (.i P.W) (.i P.H) (.i P.M) (.l (il P.pix)) (.l (eG sts)) (.i p)=some (.fin [.l (fE [P]),.l (eG sts),.l (il outs),.i prio,.l (il xs),.i q])/\1<=outs.length/\outs.length<=16/\(∀o∈outs,0<=o/\o<(([P].length+sts.length:Nat):Int))/\At xs q:=by
 have hi:[P].length=1:=rfl;have hln:bH (fE [P]) 4=1:=cO _;obtain⟨v,q1,a1,a2,a3,a4,_⟩:=cV hp (n:=3) (by omega)
 obtain⟨o,q2,b1,b2,b3,b4,_⟩:=cV a2 (n:=(([P].length+sts.length:Nat):Int)) (by omega)
 have b5:=b4 (by omega)
 have w1:aH (1+(sts.length:Int))=(([P].length+sts.length:Nat):Int):=by rw[az (by omega) (by omega),hi];omega
 have w2:aH ((([P].length+sts.length:Nat):Int)-1)=(([P].length+sts.length-1:Nat):Int):=by rw[az (by omega) (by omega)];omega
 unfold Xy;simp only[aW];rw[a1,ag (by rfl)]
 unfold aj1;simp only[aW,bj,aaS,cZ,w1,w2]
 by_cases hv:v=0
 ·rw[ab hv,b1,ag (by rfl)]
  unfold aj2;simp only[aW,aaS,cZ,w1,w2];exact⟨[(([P].length+sts.length-1:Nat):Int),o],q2,rfl,by simp,by simp,fun x hx=>by
   simp only[aS,eV,or_false]at hx;omega,b2⟩
 ·rw[ak hv];exact⟨[(([P].length+sts.length-1:Nat):Int)],q1,rfl,by simp,by simp,fun x hx=>by
   simp only[aS,eV,or_false]at hx;omega,a2⟩
theorem am4{P:Pl}{sh:Nat->Sz}(h:p_ [P] [] sh){prio:Int}(p1:0<=prio)(p2:prio<4){xs:List Int}{p:Int}(hp:At xs p){v:Nat}(hv:v<=2):
  au4 xs (Xx NN (.l (il xs)) (.i prio) (.i P.W) (.i P.H) (.i P.M) (.l (il P.pix)) (.i (v:Int)) (.i p)):=by
 have w0:aH (1+(v:Int))=((1+v-0:Nat):Int):=by rw[az (by omega) (by omega)];omega
 obtain⟨k,X,e1,rfl,sts,sh',q',e2,e3,e4,rfl⟩:=cX (b:=fun S=>En NN (.l (il xs)) (.i prio) (.i P.W) (.i P.H) (.i P.M) (.l (il P.pix)) (gg S 0) (gg S 1) (gg S 2))
  (fun i S=>∃ (sts:List Sg) (sh:Nat->Sz) (q:Int),p_ [P] sts sh/\sts.length=i/\At xs q/\S=[.i ((1+v-i:Nat):Int),.i q,.l (eG sts)])
  (fun k X=>k=0/\∃ (sts:List Sg) (sh:Nat->Sz) (q:Int),p_ [P] sts sh/\sts.length=1+v/\At xs q/\X=[.l (eG sts),.i q]) (1+v) (fun i S hi ⟨sts,sh,q,g1,g2,g3,hS⟩=>by
  subst hS;obtain⟨s,sh',q',f1,f2,f3⟩:=agz g1 (by omega) p1 p2 (i:=1+v-i) (by omega) (by omega) g3
  left
  simp only[nM,lY];exact⟨_,f1,sts++[s],sh',q',f2,by simp[g2],f3,by rw[show 1+v-i-1=1+v-(i+1)by omega]⟩) (fun S ⟨sts,sh,q,g1,g2,g3,hS⟩=>by
  subst hS;refine⟨0,_,?_,rfl,sts,sh,q,g1,g2,g3,rfl⟩;unfold En;simp only[aW,bj];rw[ak (by omega)]) (1+v) 0 NN [.i ((1+v-0:Nat):Int),.i p,.l (eG [])] (by omega) (cC (by omega)) ⟨[],sh,p,h,rfl,hp,rfl⟩
 obtain⟨outs,q,f1,f2,f3,f4,f5⟩:=ari (by omega) (by omega) (prio:=prio) e4 (sts:=sts) (P:=P)
 unfold Xx;have e0:PD.l []=PD.l (eG []):=rfl;simp only[aW,w0];rw[e0,e1,gk];exact⟨⟨[P],sts,outs,prio⟩,sh',q,f1,e2.ok (by omega) p1 p2 f2 f3 f4,e2.small,f5⟩
theorem arh{P Q:Pl}{sts:List Sg}(hl:sts.length<=10)(h1:1<=sts.length){prio:Int}{xs:List Int}{p:Int}(hp:At xs p):∃ (outs:List Int) (q:Int),
  XH NN (.l (il xs)) (.i prio) (.i P.W) (.i P.H) (.i P.M) (.l (il P.pix)) (.i Q.W) (.i Q.H) (.i Q.M) (.l (il Q.pix)) (.l (eG sts)) (.i p)=some (.fin [.l (fE [P,Q]),.l (eG sts),.l (il outs),.i prio,.l (il xs),.i q])/\1<=outs.length/\outs.length<=16/\(∀o∈outs,0<=o/\o<(([P,Q].length+sts.length:Nat):Int))/\At xs q:=by
 have hi:[P,Q].length=2:=rfl;have hln:bH (fE [P,Q]) 4=2:=cO _;obtain⟨v,q1,a1,a2,a3,a4,_⟩:=cV hp (n:=3) (by omega)
 obtain⟨o,q2,b1,b2,b3,b4,_⟩:=cV a2 (n:=(([P,Q].length+sts.length:Nat):Int)) (by omega)
 have b5:=b4 (by omega)
 have w1:aH (2+(sts.length:Int))=(([P,Q].length+sts.length:Nat):Int):=by rw[az (by omega) (by omega),hi];omega
 have w2:aH ((([P,Q].length+sts.length:Nat):Int)-1)=(([P,Q].length+sts.length-1:Nat):Int):=by rw[az (by omega) (by omega)];omega
 unfold XH;simp only[aW];rw[a1,ag (by rfl)]
 unfold aj_;simp only[aW,bj,aaR,hln,cZ,w1,w2]
 by_cases hv:v=0
 ·rw[ab hv,b1,ag (by rfl)]
  unfold aj';simp only[aW,aaR,hln,cZ,w1,w2];exact⟨[(([P,Q].length+sts.length-1:Nat):Int),o],q2,rfl,by simp,by simp,fun x hx=>by
   simp only[aS,eV,or_false]at hx;omega,b2⟩
 ·rw[ak hv];exact⟨[(([P,Q].length+sts.length-1:Nat):Int)],q1,rfl,by simp,by simp,fun x hx=>by
   simp only[aS,eV,or_false]at hx;omega,a2⟩
theorem am3{P Q:Pl}{sh:Nat->Sz}(h:p_ [P,Q] [] sh){prio:Int}(p1:0<=prio)(p2:prio<4){xs:List Int}{p:Int}(hp:At xs p){v:Nat}(hv:v<=2):
  au4 xs (XG NN (.l (il xs)) (.i prio) (.i P.W) (.i P.H) (.i P.M) (.l (il P.pix)) (.i Q.W) (.i Q.H) (.i Q.M) (.l (il Q.pix)) (.i (v:Int)) (.i p)):=by
 have w0:aH (1+(v:Int))=((1+v-0:Nat):Int):=by rw[az (by omega) (by omega)];omega
 obtain⟨k,X,e1,rfl,sts,sh',q',e2,e3,e4,rfl⟩:=cX (b:=fun S=>Es NN (.l (il xs)) (.i prio) (.i P.W) (.i P.H) (.i P.M) (.l (il P.pix)) (.i Q.W) (.i Q.H) (.i Q.M) (.l (il Q.pix)) (gg S 0) (gg S 1) (gg S 2))
  (fun i S=>∃ (sts:List Sg) (sh:Nat->Sz) (q:Int),p_ [P,Q] sts sh/\sts.length=i/\At xs q/\S=[.i ((1+v-i:Nat):Int),.i q,.l (eG sts)])
  (fun k X=>k=0/\∃ (sts:List Sg) (sh:Nat->Sz) (q:Int),p_ [P,Q] sts sh/\sts.length=1+v/\At xs q/\X=[.l (eG sts),.i q]) (1+v) (fun i S hi ⟨sts,sh,q,g1,g2,g3,hS⟩=>by
  subst hS;obtain⟨s,sh',q',f1,f2,f3⟩:=agy g1 (by omega) p1 p2 (i:=1+v-i) (by omega) (by omega) g3
  left
  simp only[nM,lY];exact⟨_,f1,sts++[s],sh',q',f2,by simp[g2],f3,by rw[show 1+v-i-1=1+v-(i+1)by omega]⟩) (fun S ⟨sts,sh,q,g1,g2,g3,hS⟩=>by
  subst hS;refine⟨0,_,?_,rfl,sts,sh,q,g1,g2,g3,rfl⟩;unfold Es;simp only[aW,bj];rw[ak (by omega)]) (1+v) 0 NN [.i ((1+v-0:Nat):Int),.i p,.l (eG [])] (by omega) (cC (by omega)) ⟨[],sh,p,h,rfl,hp,rfl⟩
 obtain⟨outs,q,f1,f2,f3,f4,f5⟩:=arh (by omega) (by omega) (prio:=prio) e4 (sts:=sts) (P:=P) (Q:=Q)
 unfold XG;have e0:PD.l []=PD.l (eG []):=rfl;simp only[aW,w0];rw[e0,e1,gk];exact⟨⟨[P,Q],sts,outs,prio⟩,sh',q,f1,e2.ok (by omega) p1 p2 f2 f3 f4,e2.small,f5⟩
theorem awa{P:Pl}(hP:P.Ok)(s1:P.W<=6)(s2:P.H<=5){prio:Int}(p1:0<=prio)(p2:prio<4){xs:List Int}{p:Int}(hp:At xs p):au4 xs (Xw NN (.i 3) (.l (il xs)) (.i prio) (.i P.W) (.i P.H) (.i P.M) (.l (il P.pix)) (.i p)):=by
 have ha:P.W*P.H<=6*5:=kf s1 s2;obtain⟨t,q1,a1,a2,_⟩:=cV hp (n:=2) (by omega)
 unfold Xw;simp only[aW];rw[a1,ag (by rfl)]
 unfold aj0;simp only[aW,bj]
 by_cases ht:t=0
 ·obtain⟨Q,q2,b1,b2,b3,b4,b5⟩:=O0 a2 hP.w1 (show P.W<=100 by omega) hP.h1 (show P.H<=100 by omega) (by omega)
  obtain⟨v,q3,c1,c2,c3,c4,_⟩:=cV b5 (n:=3) (by omega)
  obtain⟨v,rfl⟩:=aN c3;have c5:=c4 (by omega)
  rw[ab ht,b1,ag (by rfl)]
  show au4 xs (XF NN (.i 3) (.l (il xs)) (.i prio) (.i P.W) (.i P.H) (.i P.M) (.l (il P.pix)) (.i Q.W) (.i Q.H) (.i Q.M) (.l (il Q.pix)) (.i q2))
  unfold XF;simp only[aW,bj];rw[ab (by decide),c1,ag (by rfl)]
  refine am3 (sh:=fun k=>if k=0 then P.sh else Q.sh) ⟨by simp,by simp,by simp,fun k p hp=>?_,fun i s hs=>by simp at hs,fun i s hs=>by simp at hs,fun k hk=>?_⟩ p1 p2 c2 (by omega)
  ·match k,hp with
   |0,hp=>
    obtain rfl:P=p:=by simpa using hp
    exact⟨hP,rfl⟩
   |1,hp=>
    obtain rfl:Q=p:=by simpa using hp
    exact⟨b2,rfl⟩
   |k+2,hp=>simp at hp
  ·have hq:Q.W*Q.H=P.W*P.H:=by rw[b3,b4]
   by_cases h0:k=0
   ·show(if k=0 then P.sh else Q.sh).W*(if k=0 then P.sh else Q.sh).H<=200
    rw[ab h0]
    show P.W*P.H<=200
    omega
   ·show(if k=0 then P.sh else Q.sh).W*(if k=0 then P.sh else Q.sh).H<=200
    rw[ak h0]
    show Q.W*Q.H<=200
    omega
 ·obtain⟨v,q3,c1,c2,c3,c4,_⟩:=cV a2 (n:=3) (by omega)
  obtain⟨v,rfl⟩:=aN c3;have c5:=c4 (by omega)
  rw[ak ht,c1,ag (by rfl)]
  refine am4 (sh:=fun k=>P.sh) ⟨by simp,by simp,by simp,fun k p hp=>?_,fun i s hs=>by simp at hs,fun i s hs=>by simp at hs,fun k hk=>?_⟩ p1 p2 c2 (by omega)
  ·match k,hp with
   |0,hp=>
    obtain rfl:P=p:=by simpa using hp
    exact⟨hP,rfl⟩
   |k+1,hp=>simp at hp
  ·show P.W*P.H<=200
   omega
theorem aq'{xs:List Int}{p:Int}(hp:At xs p):∃ (j:Jb) (sh:Nat->Sz) (q:Int),ajY [.i 3,.l (il xs),.i p]=some [.l (fE j.ins),.l (eG j.sts),.l (il j.outs),.i j.prio,.l (il xs),.i q]/\j.Ok sh/\(∀k,k<j.ins.length+j.sts.length->(sh k).W*(sh k).H<=200)/\At xs q:=by
 suffices hh:au4 xs (aBX NN (.i 3) (.l (il xs)) (.i p))by
  obtain⟨j,sh,q,f1,f2⟩:=hh;refine⟨j,sh,q,aK (N:=NN) ?_,f2⟩;rw[av0];exact bI f1
 obtain⟨prio,q1,a1,a2,a3,a4,_⟩:=cV hp (n:=4) (by omega)
 obtain⟨P,q2,b1,b2,b3,b4,b5⟩:=agt a2;unfold aBX;simp only[aW];rw[a1,ag (by rfl)]
 unfold ajZ;simp only[aW];rw[b1,ag (by rfl)]
 exact awa b2 b3 b4 a3 (a4 (by omega)) b5
theorem QL{xs:List Int}(hl:(xs.length:Int)<=9223372036854775807)(turn:Int):Y1 [.l (il xs),.i turn]=some [.i 1]:=by
 obtain⟨j,sh,q,a1,a2,a3,a4⟩:=aq' (xs:=xs) (p:=0) ⟨by omega,by omega,hl⟩
 obtain⟨P,hP⟩:=TT a2 j.sts.length (bD _);obtain⟨v,q2,b1,b2,b3,b4,_⟩:=cV a4 (n:=5) (by omega)
 refine aK (N:=NN) ?_;rw[Y2];refine bI ?_;unfold topTiles;simp only[aW];rw[a1,ag (by rfl)]
 exact arB a2 hP a3 (il xs) turn q b1 b3 (b4 (by omega))
end Go.Proofs.YtlchkibailfldaaGreat.Ex
namespace Go.Proofs.YtlchkibailfldaaGreat
open Go.RowKit
def gS(w:World)(B:Nat)(A:Option Addr)(n:Nat)(xs:List Int):Prop:=
 xs.length=n/\(∀x∈xs,-9223372036854775808<=x/\x<=9223372036854775807)/\
  (0<n->∃b off,A=some ⟨b,off,none⟩/\b<B/\∀j v,xs[j]?=some v->w.cell? ⟨b,off+j,none⟩=some (.int .i64 v))
theorem Yg{α:Type}{xs:List α}{k:Nat}{v:α}(h:xs[k]?=some v):xs.drop k=v::xs.drop (k+1):=by obtain⟨hk,rfl⟩:=av.1 h;exact eY hk
theorem ayT{w:World}{B:Nat}{A:Option Addr}{n:Nat}{xs:List Int}(h:gS w B A n xs)(hn:0<n):
  ∃b off,A=some ⟨b,off,none⟩/\b<B/\∀k,k<n->∃v,xs[k]?=some v/\xs.drop k=v::xs.drop (k+1)/\ -9223372036854775808<=v/\v<=9223372036854775807/\w.cell? ⟨b,off+k,none⟩=some (.int .i64 v):=by
 obtain⟨hl,hr,hc⟩:=h;obtain⟨b,off,rfl,hb,hcell⟩:=hc hn;refine⟨b,off,rfl,hb,fun k hk=>?_⟩
 have hg:xs[k]?=some xs[k]:=aj (by omega)
 have hm:=hr xs[k] (ce (by omega))
 exact⟨_,hg,Yg hg,hm.1,hm.2,hcell k _ hg⟩
theorem aBa{w:World}{B:Nat}{A:Option Addr}{xs:List Int}(h:gS w B A 0 xs):xs=[]:=dx h.1
theorem gS.keep{w w':World}{B:Nat}{A:Option Addr}{n:Nat}{xs:List Int}(h:gS w B A n xs)(hk:∀b o,b<B->w'.cell? ⟨b,o,none⟩=w.cell? ⟨b,o,none⟩):gS w' B A n xs:=by
 refine⟨h.1,h.2.1,fun hn=>?_⟩
 obtain⟨b,off,rfl,hb,hcell⟩:=h.2.2 hn;exact⟨b,off,rfl,hb,fun j v hv=>(hk b _ hb).trans (hcell j v hv)⟩
theorem ayU{w w':World}{B B':Nat}{A:Option Addr}{n:Nat}{xs:List Int}(h:gS w B A n xs)(hb:Below B' w w')(hB:B<=B'):gS w' B A n xs:=
 h.keep fun b o hlt=>hb.cell (p:=⟨b,o,none⟩) (dm hlt hB)
theorem gS.drew{w:World}{B:Nat}{A:Option Addr}{n:Nat}{xs:List Int}(h:gS w B A n xs):gS w.drew B A n xs:=h
theorem gS.drewN{w:World}{B:Nat}{A:Option Addr}{n:Nat}{xs:List Int}(h:gS w B A n xs)(k:Nat):gS (w.drewN k) B A n xs:=h
theorem gS.more{w:World}{B B':Nat}{A:Option Addr}{n:Nat}{xs:List Int}(h:gS w B A n xs)(hB:B<=B'):gS w B' A n xs:=by
 refine⟨h.1,h.2.1,fun hn=>?_⟩
 obtain⟨b,off,rfl,hb,hcell⟩:=h.2.2 hn;exact⟨b,off,rfl,by omega,hcell⟩
theorem gS.set{w:World}{B b off n:Nat}{xs:List Int}{k:Nat}{p:Int}(h:gS w B (some ⟨b,off,none⟩) n xs)(hk:k<n)(hp: -9223372036854775808<=p/\p<=9223372036854775807):
  gS (w.setCell ⟨b,off+k,none⟩ (.int .i64 p)) B (some ⟨b,off,none⟩) n (xs.set k p):=by
 have hl:=h.1;refine⟨by simpa using hl,fun x hx=>?_,fun hn=>?_⟩
 ·rcases ij hx with h1|h1
  ·exact h.2.1 x h1
  ·subst h1;exact hp
 ·obtain⟨b',off',e,hb,hc⟩:=h.2.2 hn;injection e with e
  injection e with e1 e2
  subst e1;subst e2;refine⟨b,off,rfl,hb,fun j v hv=>?_⟩
  by_cases hj:j=k
  ·subst hj;rw[ej (by omega)]at hv
   injection hv with hv
   subst hv;exact World.cell?_setCell_same w _ _ (hc j xs[j] (aj (by omega)))
  ·rw[iB (by omega)]at hv
   rw[World.cell?_setCell_other w _ _ _ (fun e=>by injection e with e1 e2;omega)]
   exact hc j v hv
end Go.Proofs.YtlchkibailfldaaGreat
namespace Go.Proofs.YtlchkibailfldaaGreat
open Go.ChangeShapes Go.WideShapes Go.ChangeAt Go.RowKit
theorem arn{H:Type}{enc:TypeId×Value->H}{P:Program}{W:World}{t e:TypeId}{a0:Option Addr}{len cap:Nat}{d:DataW H}{p:List MemPlace}
  (ht:P.underlying t=some (.slice e)) (he:P.underlying e=some (.int .i64)) (hC:P.cellsOf e=1) (h:DataW.Trod enc P W 0 (fun _=>true) true t (.slice a0 len cap) d p) (hlt:∀x∈p,x.block<W.heap.size):
  ∃xs,gS W W.heap.size a0 len xs/\len<=9223372036854775807:=by
 obtain⟨fuel,hf⟩:=h;rcases open_ints ht he hC hf with⟨hcs,hx⟩|⟨a,len',cap',zs,hcs,_,hl,hm,hz,hx,hcell,hwz⟩
 ·simp[Value.cells]at hcs;obtain⟨rfl,rfl,rfl⟩:=hcs;exact⟨[],⟨rfl,by simp,by omega⟩,by omega⟩
 ·simp[Value.cells]at hcs;obtain⟨rfl,rfl,rfl⟩:=hcs;simp only[aA]at hx;obtain⟨rfl,rfl⟩:=hx;simp only[gN]at hz;refine⟨zs.take len,⟨by simp;omega,fun x hx=>UL (hwz x (fD hx)),fun hn=>?_⟩,by unfold maxLen at hm;omega⟩
  obtain⟨b,off,spot⟩:=a;have hspot:spot=none:=by simpa[Addr.add]using World.cell?_spot (hcell 0 (by omega))
  subst hspot;refine⟨b,off,rfl,hlt (.cell b off) (MemPlace.mem_row.2 ⟨0,by omega,by simp⟩),fun j v hv=>?_⟩
  have hj:j<zs.length:=by obtain⟨h1,_⟩:=av.1 hv;simp at h1;omega
  have hjl:j<len:=by obtain⟨h1,_⟩:=av.1 hv;simp at h1;omega
  have hc:=hcell j hj;rw[add_plain]at hc;rw[hc];have:zs.getD j 0=v:=by rw[List.getElem?_take_of_lt hjl]at hv;simp[List.getD,hv]
  rw[this]
end Go.Proofs.YtlchkibailfldaaGreat
namespace Go.Proofs.YtlchkibailfldaaGreat
open Go Go.RowKit Ex
theorem Ru{P:Program}{w:World}{r:Reach}{base:Nat}{t e:TypeId}{v:Value}(ht:P.underlying t=some (.slice e))(h:Value.okWide P w r base t v):
  ∃A n c,v= .slice A n c/\n<=c/\(∀a,A=some a->a.spot=none)/\(A=none->c=0):=by
 unfold Value.okWide at h;rw[ht]at h;simp only at h;unfold Cell.okWide at h;rw[ht]at h;simp only at h;unfold Cell.ok at h;rw[ht]at h;simp only at h;split at h
 all_goals first|(rename_i h1 _;cases h1;done)|skip
 all_goals simp_all
 ·exact⟨none,0,0,⟨rfl,rfl,rfl⟩,bD _,fun a h=>(by cases h),fun _=>rfl⟩
 ·exact⟨some _,_,_,⟨rfl,rfl,rfl⟩,h.1,fun a ha=>(by cases ha;exact h.2.2.2.1),fun ha=>(by cases ha)⟩
theorem aoZ{w:World}(A0:Option Addr)(n0 c0:Nat)(xs0:List Int)(hx0:gS w w.heap.size A0 n0 xs0)(hn0:n0<=9223372036854775807)(hc:n0<=c0)(hs:∀a,A0=some a->a.spot=none)(hz:A0=none->c0=0)(a1:Int):
  Calls Tryz.prog 3 #[.slice A0 n0 c0,.int .i64 a1] w fun e w'=>e= .returned (.bool true)/\Below w.heap.size w w':=by
 obtain⟨hl,_,ho⟩:=id hx0;have hR:∃us:List VT,qX w (fun b=>b<w.heap.size) (.lst [.int .i64]) (.mk (.slice A0 n0 c0) us) (.l (il xs0)):=by
  cases A0 with
  |none=>
   have h0:=hz rfl;have h1:n0=0:=by omega
   subst h0 h1;have hx:xs0=[]:=List.length_eq_zero_iff.1 hl;subst hx;exact⟨[],.nil _⟩
  |some a=>
   refine⟨xs0.map fun x=> .mk (.int .i64 x) [],.lst _ a n0 c0 _ _ (by simp[hl]) (by simp) hc (hs a rfl) (fun j hj=>?_) (fun j t hj ht=>?_)⟩
   ·have hj':j<xs0.length:=by simpa using hj
    obtain⟨b,off,h1,h2,h3⟩:=ho (by omega)
    cases h1;refine⟨h2,(h3 j _ (aj hj')).trans ?_⟩;rw[ae,aM,aj hj'];rfl
   ·have hj':j<xs0.length:=by simpa using hj
    have e:t= .int .i64:=by simp[gn]at ht;exact ht.symm
    subst e;rw[ae,ae,aM,aM,aj hj'];exact .int _ _ _
 obtain⟨us,hR⟩:=hR;have hr:=Y3.ok.run rfl w (fun b=>b<w.heap.size) [.mk (.slice A0 n0 c0) us,.mk (.int .i64 a1) []] [.l (il xs0),.i a1] w.heap.size 0 #[] [.i 1] (fun b h=>h) (Nat.lt_irrefl _)
  ⟨rfl,rfl,fun j t hj=>by
   match j,hj with
   |0,hj=>cases hj;exact hR
   |1,hj=>cases hj;exact .int _ _ _
   |j+2,hj=>cases hj⟩ (fun h=>absurd rfl h) (QL (by omega) a1)
 refine hr.mono ?_;rintro e w' ⟨ys,z',rfl,hp⟩;have hy:=hp.reps.rep 0 .bool rfl;have hly:=hp.reps.lx
 match ys,hly,hy with
 | [y],_,hy=>
  have hy:qX w' z' .bool y (.i 1):=hy;cases hy with
  |bool b us x hb=>subst hb;exact⟨rfl,hp.os,hp.tape,hp.output,hp.sz,fun b hb=>hp.fr b hb (Or.inl rfl)⟩
end Go.Proofs.YtlchkibailfldaaGreat
