/-
  Part 6 of the proof that TopTiles returns true at every call and leaves what it was given as it was; no condition beyond the row's own.
-/
import Derived.Test.YtlchkibailfldaaGreatM05
import Derived.Test.YtlchkibailfldaaGreatProg
set_option linter.unusedVariables false
set_option linter.unusedSimpArgs false
set_option linter.unusedSectionVars false
namespace Go.Proofs.YtlchkibailfldaaGreat.Ex
open Go Go.RowKit
def De:Nat->Nat->List PD->List PD
 |0,_,_=>[]
 |n+1,i,S=>S.getD i (.i 0)::De n (i+1) S
@[reducible] def rf(n:Nat)(S:List PD):List PD:=De n 0 S
theorem KJ:∀ (n i:Nat) (S:List PD),S.length=i+n->De n i S=S.drop i
 |0,i,S,h=>by rw[List.drop_eq_nil_of_le (by omega)];rfl
 |n+1,i,S,h=>by
  rw[De,KJ n (i+1) S (by omega),ae,aj (by omega),<-List.getElem_cons_drop (by omega:i<S.length)]
  rfl
theorem rR{n:Nat}{S:List PD}(h:S.length=n):rf n S=S:=by
 show De n 0 S=S
 rw[KJ n 0 S (by omega),eO]
def aO(b:List PD->Option iX):Nat->List PD->Option iX
 |0,_=>none
 |n+1,S=>match b S with
  |some (.again S')=>aO b n S'
  |r=>r
def bi(o:Option iX)(r0 r1:List PD->Option iX):Option iX:=match o with
 |some (.brk 0 X)=>r0 X
 |some (.brk (_+1) X)=>r1 X
 |_=>none
def aB(o:Option (List PD))(n:Nat)(k:List PD->Option iX):Option iX:=match o with
 |some rs=>bif Nat.beq rs.length n then k rs else none
 |none=>none
def kR(N:Nat)(K:List (Nat×dO))(Φ:VO)(fo:List Ty):PL->List PD->Option iX
 | .leaf (.fin outs),e=>some (.fin (List.zipWith (Km e) fo outs))
 | .leaf (.again x),e=>some (.again (x.vals.map (QH e)))
 | .leaf (.brk k x),e=>some (.brk k (x.vals.map (QH e)))
 | .ite b x y,e=>bif YW e b then kR N K Φ fo x e else kR N K Φ fo y e
 | .chk b x,e=>bif YW e b then kR N K Φ fo x e else none
 | .call k ins x,e=>match K[k]? with
  |some (_,σ)=>aB (Φ k (List.zipWith (Km e) σ.ins ins)) (kC σ) fun rs=>kR N K Φ fo x (e++rf (kC σ) rs)
  |none=>none
 | .loop _ _ _ ini e0 e1 body r0 r1,e=>bi (aO (fun S=>kR N K Φ fo body (e++rf ini.vals.length S)) N (ini.vals.map (QH e))) (fun X=>kR N K Φ fo r0 (e++rf e0.n X)) (fun X=>kR N K Φ fo r1 (e++rf e1.n X))
 | .stop,_=>none
theorem abf{b:List PD->Option iX}{ns n0 n1:Nat}(hb:∀S o,b S=some o->match o with
  | .again S'=>S'.length=ns
  | .brk 0 X=>X.length=n0
  | .brk (_+1) X=>X.length=n1
  |_=>True):∀ (n:Nat) (S:List PD) (o:iX),aO b n S=some o->match o with
  | .again S'=>S'.length=ns
  | .brk 0 X=>X.length=n0
  | .brk (_+1) X=>X.length=n1
  |_=>True
 |0,S,o,h=>by cases h
 |n+1,S,o,h=>by
  simp only[aO]at h;split at h
  ·exact abf hb n _ o h
  ·exact hb S o h
theorem abh{b b':List PD->Option iX}{ns:Nat}(hS:∀S,S.length=ns->b S=b' S)(hb:∀S S',S.length=ns->b S=some (.again S')->S'.length=ns):∀ (n:Nat) (S:List PD),S.length=ns->aO b n S=aO b' n S
 |0,S,h=>rfl
 |n+1,S,h=>by
  simp only[aO];rw[<-hS S h];split
  ·rename_i S' hS';exact abh hS hb n S' (hb S S' h hS')
  ·rfl
theorem Gw(b:List PD->Option iX)(e:List PD):∀ (n:Nat) (S:List PD),m6 b e n S=aO (fun S=>b (e++S)) n S
 |0,S=>rfl
 |n+1,S=>by
  simp only[m6,aO];cases b (e++S)with
  |none=>rfl
  |some o=>cases o with
   |again S'=>exact Gw b e n S'
   |fin ds=>rfl
   |brk k X=>rfl
theorem awR{cx:Cx}{N:Nat}{Φ:VO}{fo:List Ty}:∀ {pl:PL} {goal:Fv} {bs:Nat} {c:Code} {t:qn} {m:Nat} {A:List (Bm×Bool)} {C:List QG} {L:List LF},fw cx pl bs c t goal m A C L=true->∀e:List PD,kR N cx.K Φ fo pl e=den N cx.K Φ fo pl e:=by
 intro pl
 induction pl with
 |leaf l=>intro goal bs c t m A C L hc e;cases l<;>rfl
 |ite b x y ihx ihy=>intro goal bs c t m A C L hc e;simp only[fw,ah]at hc;simp only[kR,den,ihx hc.2.1,ihy hc.2.2]
 |chk b x ih=>intro goal bs c t m A C L hc e;simp only[fw,ah]at hc;simp only[kR,den,ih hc.2]
 |call k ins x ih=>
  intro goal bs c t m A C L hc e;simp only[fw]at hc;simp only[kR,den];split at hc
  ·rename_i g σ hk;simp only[ah]at hc;rw[hk]
   show aB _ _ _=_
   unfold aB;cases hrs:Φ k (List.zipWith (Km e) σ.ins ins)with
   |none=>rfl
   |some rs=>
    show(bif Nat.beq rs.length (kC σ)then kR N cx.K Φ fo x (e++rf (kC σ) rs)else none)=(bif Nat.beq rs.length (kC σ)then den N cx.K Φ fo x (e++rs)else none)
    cases hl:Nat.beq rs.length (kC σ)with
    |false=>rfl
    |true=>simp only[aP];rw[rR (af hl),ih hc.2.2]
  ·cases hc
 |loop id f0 hd ini e0 e1 body r0 r1 ihb ih0 ih1=>
  intro goal bs c t m A C L hc e;simp only[fw]at hc;split at hc
  ·rename_i b' xb hxb;simp only[ah]at hc;obtain⟨_,_,_,_,_,_,_,hb,h0,h1⟩:=hc;simp only[kR,den];have hlen:∀ (S:List PD) (o:iX),den N cx.K Φ fo body (e++S)=some o->match o with
     | .again S'=>S'.length=ini.vals.length
     | .brk 0 X=>X.length=e0.n
     | .brk (_+1) X=>X.length=e1.n
     |_=>True:=fun S o ho=>by
    have:=akw (goal:= .lp m f0 ini.vals.length hd e0 e1) hb ho;cases o with
    |fin ds=>trivial
    |again S'=>exact this
    |brk k X=>cases k<;>exact this
   have e1':aO (fun S=>kR N cx.K Φ fo body (e++rf ini.vals.length S)) N (ini.vals.map (QH e))=m6 (den N cx.K Φ fo body) e N (ini.vals.map (QH e)):=by
    rw[Gw];refine abh (ns:=ini.vals.length) (fun S hS=>?_) (fun S S' hS h=>?_) N _ (by rw[bO])
    ·rw[rR hS];exact ihb hb _
    ·rw[rR hS,ihb hb]at h;exact hlen S _ h
   rw[e1'];have hX:=fun o ho=>abf (ns:=ini.vals.length) (n0:=e0.n) (n1:=e1.n) (b:=fun S=>den N cx.K Φ fo body (e++S)) (fun S o ho=>hlen S o ho) N (ini.vals.map (QH e)) o ho
   rw[<-Gw]at hX;unfold bi;cases ho:m6 (den N cx.K Φ fo body) e N (ini.vals.map (QH e))with
   |none=>rfl
   |some o=>
    have hX:=hX o ho;cases o with
    |fin ds=>rfl
    |again S'=>rfl
    |brk k X=>
     cases k with
     |zero=>
      have hX:X.length=e0.n:=hX
      show kR N cx.K Φ fo r0 _=_
      rw[rR hX,ih0 h0]
     |succ k=>
      have hX:X.length=e1.n:=hX
      show kR N cx.K Φ fo r1 _=_
      rw[rR hX,ih1 h1]
  ·cases hc
 |stop=>intro goal bs c t m A C L hc e;rfl
section
variable {cx:Cx}{bs:Nat}{c:Code}{t:qn}{goal:Fv}{m:Nat}{A:List (Bm×Bool)}{C:List QG}{L:List LF}
theorem fG{b:Bm}{x y:PL}(h0:bmt m [] b b=true)(hx:fw cx x bs c t goal m (A++[(b,true)]) C L=true)(hy:fw cx y bs c t goal m (A++[(b,false)]) C L=true):fw cx (.ite b x y) bs c t goal m A C L=true:=by simp only[fw,h0,hx,hy,Bool.and_self]
theorem aJv{b:Bm}{x:PL}(h0:bmt m [] b b=true)(hx:fw cx x bs c t goal m (A++[(b,true)]) C L=true):fw cx (.chk b x) bs c t goal m A C L=true:=by simp only[fw,h0,hx,Bool.and_self]
theorem acS{k g:Nat}{σ:dO}{ins:List Tm}{x:PL}(hk:cx.K[k]?=some (g,σ))(h0:Nat.beq ins.length σ.ins.length=true)(h1:ahB (fun u=>mt m [] true u u) ins=true)(hx:fw cx x bs c t goal (m+kC σ) A (C++[⟨g,σ,ins,m⟩]) L=true):fw cx (.call k ins x) bs c t goal m A C L=true:=by simp only[fw,hk,h0,h1,hx,Bool.and_self]
theorem aFX{id f0 b':Nat}{hd:qn}{ini:Hy}{e0 e1:Xt}{body r0 r1:PL}{xb:Code}(hf:pT id cx.all=some (b',xb))(h0:(Nat.beq (lG id cx.all) 1&&(ahB (fun u=>mt m [] true u u) ini.vals&&(KC (m+ini.vals.length) hd&&(KC (m+e0.n) e0.t&&(KC (m+e1.n) e1.t&&(Nat.ble f0 hd.f&&(bif XM xb then sd e0.x&&sd e1.x else lT body)))))))=true)
  (hb:fw cx body b' (sk xb) hd (.lp m f0 ini.vals.length hd e0 e1) (m+ini.vals.length) A C L=true) (hr0:fw cx r0 bs c t goal (m+e0.n) A C (L++[⟨id,f0,hd,m,ini,e0.x,e0.t⟩])=true) (hr1:fw cx r1 bs c t goal (m+e1.n) A C (L++[⟨id,f0,hd,m,ini,e1.x,e1.t⟩])=true):
  fw cx (.loop id f0 hd ini e0 e1 body r0 r1) bs c t goal m A C L=true:=by
 simp only[ah]at h0;obtain⟨h1,h2,h3,h4,h5,h6,h7⟩:=h0;simp only[fw,hf,h1,h2,h3,h4,h5,h6,h7,hb,hr0,hr1,Bool.and_self]
theorem xS{σ:dO}{fn:Func}{pl:PL}(h:fw cx pl 0 cx.body (nD σ fn.ntmps) (.fn σ fn.results.toList) σ.ins.length [] [] []=true)(h0:(KC σ.ins.length (nD σ fn.ntmps)&&!σ.rw)=true):oL cx σ fn pl=true:=by unfold oL;rw[h,h0];rfl
end
theorem OT{b b':List PD->Option iX}(h:∀S o,b S=some o->b' S=some o):∀ (n m:Nat) (S:List PD) (o:iX),n<=m->aO b n S=some o->aO b' m S=some o
 |0,m,S,o,_,hb=>by cases hb
 |n+1,0,S,o,hn,hb=>by omega
 |n+1,m+1,S,o,hn,hb=>by
  simp only[aO]at hb ⊢;cases hs:b S with
  |none=>rw[hs]at hb;cases hb
  |some r=>
   rw[hs]at hb;rw[h S r hs];cases r with
   |again S'=>exact OT h n m S' o (by omega) hb
   |fin ds=>exact hb
   |brk k X=>exact hb
theorem anC{K:List (Nat×dO)}{Φ:VO}{fo:List Ty}{N M:Nat}(hN:N<=M):∀ (pl:PL) (e:List PD) (o:iX),kR N K Φ fo pl e=some o->kR M K Φ fo pl e=some o:=by
 intro pl
 induction pl with
 |leaf l=>intro e o h;cases l<;>exact h
 |ite b x y ihx ihy=>
  intro e o h;simp only[kR]at h ⊢;cases hb:YW e b with
  |true=>rw[hb]at h;exact ihx e o h
  |false=>rw[hb]at h;exact ihy e o h
 |chk b x ih=>
  intro e o h;simp only[kR]at h ⊢;cases hb:YW e b with
  |true=>rw[hb]at h;exact ih e o h
  |false=>rw[hb]at h;cases h
 |call k ins x ih=>
  intro e o h;simp only[kR]at h ⊢;split at h
  ·unfold aB at h ⊢;split at h
   ·rename_i rs hrs;have h:(bif Nat.beq rs.length (kC _)then kR N K Φ fo x (e++rf (kC _) rs)else none)=some o:=h
    show(bif Nat.beq rs.length (kC _)then kR M K Φ fo x (e++rf (kC _) rs)else none)=some o
    cases hl:Nat.beq rs.length (kC _)with
    |false=>rw[hl]at h;cases h
    |true=>rw[hl]at h;exact ih _ o h
   ·cases h
  ·cases h
 |loop id f0 hd ini e0 e1 body r0 r1 ihb ih0 ih1=>
  intro e o h;simp only[kR]at h ⊢;cases hl:aO (fun S=>kR N K Φ fo body (e++rf ini.vals.length S)) N (ini.vals.map (QH e))with
  |none=>rw[hl]at h;cases h
  |some r=>
   rw[hl]at h;rw[OT (fun S o ho=>ihb _ o ho) N M _ r hN hl]
   cases r with
   |fin ds=>cases h
   |again S'=>cases h
   |brk k X=>cases k with
    |zero=>exact ih0 _ o h
    |succ k=>exact ih1 _ o h
 |stop=>intro e o h;cases h
def AH:Option iX->Option (List PD)
 |some (.fin rs)=>some rs
 |_=>none
def avz(N:Nat)(K:List (Nat×dO))(Φ:VO)(σ:dO)(pl:PL)(ds:List PD):Option (List PD):=AH (kR N K Φ (pS σ) pl ds)
theorem avy{cx:Cx}{N:Nat}{Φ:VO}{σ:dO}{fn:Func}{pl:PL}(h:oL cx σ fn pl=true)(ds:List PD):avz N cx.K Φ σ pl ds=phi N cx.K Φ σ pl ds:=by
 unfold oL at h;rw[ah]at h;unfold avz phi AH;rw[awR h.1];cases den N cx.K Φ (pS σ) pl ds with
 |none=>rfl
 |some o=>cases o<;>rfl
open Classical in
noncomputable def lim(φ:Nat->List PD->Option (List PD))(ds:List PD):Option (List PD):=if h:∃rs N,φ N ds=some rs then some h.choose else none
theorem Xj{φ:Nat->List PD->Option (List PD)}{ds rs:List PD}(h:lim φ ds=some rs):∃N,φ N ds=some rs:=by
 unfold lim at h;split at h
 ·rename_i hx;simp only[ad]at h;rw[<-h];exact hx.choose_spec
 ·cases h
def aJd(φ:Nat->List PD->Option (List PD)):Prop:=∀N M ds rs,N<=M->φ N ds=some rs->φ M ds=some rs
theorem aBH{φ:Nat->List PD->Option (List PD)}(hm:aJd φ){N:Nat}{ds rs:List PD}(h:φ N ds=some rs):lim φ ds=some rs:=by
 cases hl:lim φ ds with
 |none=>unfold lim at hl;rw[dif_pos ⟨rs,N,h⟩]at hl;cases hl
 |some rs'=>obtain⟨M,hM⟩:=Xj hl;have h1:=hm N (max N M) ds rs (Nat.le_max_left _ _) h;have h2:=hm M (max N M) ds rs' (Nat.le_max_right _ _) hM;rw[h1]at h2;exact h2.symm
theorem amH{K:List (Nat×dO)}{Φ:VO}{σ:dO}{pl:PL}:aJd fun N=>avz N K Φ σ pl:=fun N M ds rs hN h=>by
 have h:AH (kR N K Φ (pS σ) pl ds)=some rs:=h
 show AH (kR M K Φ (pS σ) pl ds)=some rs
 cases ho:kR N K Φ (pS σ) pl ds with
 |none=>rw[ho]at h;cases h
 |some o=>rw[ho]at h;rw[anC hN pl ds _ ho];exact h
noncomputable def awN(K:List (Nat×dO))(Φ:VO)(σ:dO)(pl:PL):List PD->Option (List PD):=lim fun N=>avz N K Φ σ pl
theorem awM{cx:Cx}(hcx:au9 cx){Φ:VO}(hΦ:∀k g σ,cx.K[k]?=some (g,σ)->Aq cx.P g σ (Φ k)){g:Nat}{σ:dO}{fn:Func}{pl:PL}(hg:cx.P.funcs[g]?=some fn)(hb:fn.body=some cx.body)(hen:∀xs w,(callFunc g xs).run cx.P w= .ok (.enter g xs) w)(hck:oL cx σ fn pl=true):Aq cx.P g σ (awN cx.K Φ σ pl):=
 ⟨hen,fun h0 w z xs ds bo oo arr rs h1 h2 h3 h4 h5=>by
  obtain⟨N,hN⟩:=Xj h5;rw[avy hck]at hN;exact(aFU hcx (N:=N) hΦ hg hb hen hck).run h0 w z xs ds bo oo arr rs h1 h2 h3 h4 hN,fun h=>by
  unfold oL at hck;rw[ah,ah]at hck;rw[h]at hck;cases hck.2.2⟩
theorem anr{K:List (Nat×dO)}{Φ:VO}{σ:dO}{pl:PL}{N:Nat}{ds rs:List PD}(h:AH (kR N K Φ (pS σ) pl ds)=some rs):awN K Φ σ pl ds=some rs:=aBH amH (N:=N) h
theorem aFV{K:List (Nat×dO)}{Φ:VO}{σ:dO}{pl:PL}{ds rs:List PD}(h:awN K Φ σ pl ds=some rs):∃N,AH (kR N K Φ (pS σ) pl ds)=some rs:=Xj h
@[reducible] def aH(x:Int):Int:=IntKind.wrap .i64 x
@[reducible] def aek(x:Int):Int:=IntKind.wrap .u64 x
@[reducible] def ltB(a b:Int):Bool:=decide (a<b)
@[reducible] def bC(a b:Int):Bool:=decide (a<=b)
@[reducible] def eqB(a b:Int):Bool:=decide (a=b)
@[reducible] def cY(a b:Int):Bool:=decide (a≠b)
def FK(k:IntKind)(a b:Int):Int:=k.wrap (a*2^b.toNat)
def aFs(a b:Int):Int:=a/2^b.toNat
def lU(a b:Int):Int:=if b<a then b else a
def gI(a b:Int):Int:=if a<b then b else a
def bH(a:List PD)(es:Nat):Int:=((a.length/es:Nat):Int)
def el(a:List PD)(t:Int)(es j:Nat):PD:=a.getD (t.toNat*es+j) (.i 0)
def cM(a:List PD)(t:Int)(es j:Nat)(x:PD):List PD:=a.set (t.toNat*es+j) x
def iv(a:List PD)(lo hi:Int)(es:Nat):List PD:=(a.take (hi.toNat*es)).drop (lo.toNat*es)
def vg(a:List PD)(t:Int)(b:List PD):List PD:=(a.take t.toNat++b++a.drop (t.toNat+b.length)).take a.length
def ajC(a:List PD)(k:Int):Int:=if(lV a k).isSome then 1 else 0
def aa9(a:List PD)(k:Int):List PD:=((lV a k).getD (.l [])).q
def aI(b:Bool)(x:Option iX):Option iX:=bif b then x else none
def u1(r:List SV):List SV:= .unk::r
def u2(r:List SV):List SV:= .unk:: .unk::r
def u4(r:List SV):List SV:= .unk:: .unk:: .unk:: .unk::r
def u8(r:List SV):List SV:= .unk:: .unk:: .unk:: .unk:: .unk:: .unk:: .unk:: .unk::r
def iY(r:List SV):List SV:= .unk:: .unk:: .unk:: .unk:: .unk:: .unk:: .unk:: .unk:: .unk:: .unk:: .unk:: .unk:: .unk:: .unk:: .unk:: .unk::r
def iO(r:List SV):List SV:=iY (iY r)
def u64(r:List SV):List SV:=iY (iY (iY (iY r)))
theorem bG.nil{P:Program}:bG P []:=@bG.mk P [] (fun p h=>by cases h) (fun p h=>by cases h)
theorem bG.cons{P:Program}{g:Nat}{fn:Func}{r:List (Nat×Func)}(h1:P.funcs[g]?=some fn)(h2:∀xs w,(callFunc g xs).run P w= .ok (.enter g xs) w)(h:bG P r):bG P ((g,fn)::r):=by
 refine @bG.mk P _ (fun p hp=>?_) (fun p hp=>?_)
 ·rcases aS.1 hp with rfl|hp
  ·exact h1
  ·exact h.func p hp
 ·rcases aS.1 hp with rfl|hp
  ·exact h2
  ·exact h.enter p hp
def KOk(P:Program)(Φ:VO)(K:List (Nat×dO)):Prop:=∀k g σ,K[k]?=some (g,σ)->Aq P g σ (Φ k)
theorem KOk.nil{P:Program}{Φ:VO}:KOk P Φ []:=fun k g σ h=>by simp at h
theorem KOk.cons{P:Program}{Φ:VO}{g:Nat}{σ:dO}{r:List (Nat×dO)}(h1:Aq P g σ (Φ 0))(h:KOk P (fun k=>Φ (k+1)) r):KOk P Φ ((g,σ)::r):=fun k g' σ' hk=>by
 cases k with
 |zero=>simp only[bn,ad,aA]at hk;obtain⟨rfl,rfl⟩:=hk;exact h1
 |succ k=>rw[bk]at hk;exact h k g' σ' hk
theorem abg{b:List PD->Option iX}(I:List PD->Prop)(μ:List PD->Nat)(Q:Nat->List PD->Prop)(h:∀S,I S->(∃S',b S=some (.again S')/\I S'/\μ S'<μ S)\/∃k X,b S=some (.brk k X)/\Q k X):
  ∀ (n:Nat) (S:List PD),I S->μ S<n->∃k X,aO b n S=some (.brk k X)/\Q k X
 |0,S,hI,hn=>by omega
 |n+1,S,hI,hn=>by
  rcases h S hI with⟨S',h1,h2,h3⟩|⟨k,X,h1,h2⟩
  ·obtain⟨k,X,g1,g2⟩:=abg I μ Q h n S' h2 (by omega)
   exact⟨k,X,by simp only[aO,h1];exact g1,g2⟩
  ·exact⟨k,X,by simp only[aO,h1],h2⟩
theorem agc{b:List PD->Option iX}(I:List PD->Prop)(Q:Nat->List PD->Prop)(h:∀S o,I S->b S=some o->match o with
  | .again S'=>I S'
  | .brk k X=>Q k X
  | .fin _=>True):∀ (n:Nat) (S:List PD),I S->∀k X,aO b n S=some (.brk k X)->Q k X
 |0,S,hI,k,X,hl=>by cases hl
 |n+1,S,hI,k,X,hl=>by
  simp only[aO]at hl;split at hl
  ·rename_i S' hb;exact agc I Q h n S' (h S _ hI hb) k X hl
  ·rename_i hno;exact h S _ hI hl
theorem afL:Tryz.prog.follows .mixedOrders=true:=by kernel_rfl
end Go.Proofs.YtlchkibailfldaaGreat.Ex
