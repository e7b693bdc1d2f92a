/-
  Part 5 of the proof that TopTiles returns true at every call and leaves what it was given as it was; no condition beyond the row's own.
-/
import Derived.Test.YtlchkibailfldaaGreatM04
set_option linter.unusedVariables false
set_option linter.unusedSimpArgs false
set_option linter.unusedSectionVars false
namespace Go.Proofs.YtlchkibailfldaaGreat.Ex
open Go Go.RowKit
def aJ_(cx:Cx)(w0:World)(fo:List Ty)(PF:List PD->Exit->Act->World->Prop)(goal:Fv)(eS:List PD)(θ0:Th)(G0:C3)(fi:Nat)(wS:World):Prop:=match goal with
 | .lp _ _ _ _ _ _=>True
 | .fn σ rs=>∀ (A:List (Bm×Bool)) (outs:List Tm) (T':List SV) (H':bt) (f':Nat) (e:List PD) (x:Ex) (U':Th) (a':Act) (w':World),(∃r,e=eS++r)->(∀p∈A,AEv e p)->arD cx A σ rs outs T' H'=true->(x= .normal\/x= .ret)->
   @uV (dt w0 e) U' f' T' a'->@dA (dt w0 e) θ0 G0 fi wS U' (get H') f' w'->PF (List.zipWith (Km e) fo outs) x.out a' w'
def alf(goal:Fv)(e eb:List PD)(fi:Nat):Prop:=match goal with
 | .fn _ _=>True
 | .lp m f0 _ _ _ _=>eb.length=m/\fi=f0/\∃r,e=eb++r
theorem alf.more{goal:Fv}{e eb r:List PD}{fi:Nat}(h:alf goal e eb fi):alf goal (e++r) eb fi:=by
 cases goal with
 |fn=>trivial
 |lp m f0 ns hd e0 e1=>obtain⟨h1,h2,q,h3⟩:=h;exact⟨h1,h2,q++r,by rw[h3,dg]⟩
theorem oV{b:Nat}:∀ {l:List Code} {c:Code} {i:Nat},c∈l->AA c=some i->(b+i,b,c)∈wR b l
 | [],c,i,h,_=>by cases h
 |d::r,c,i,h,hi=>by
  simp only[wR];rcases aS.1 h with rfl|h
  ·rw[hi];exact bN ..
  ·split
   ·exact aU _ (oV h hi)
   ·exact oV h hi
theorem sf{b:Nat}:∀ {l:List Code} {k b':Nat} {c:Code},(k,b',c)∈wR b l->b'=b/\c∈l/\∃i,AA c=some i/\k=b+i
 | [],k,b',c,h=>by cases h
 |d::r,k,b',c,h=>by
  simp only[wR]at h;split at h
  ·rename_i i hi;rcases aS.1 h with h|h
   ·simp only[aA]at h;obtain⟨rfl,rfl,rfl⟩:=h;exact⟨rfl,bN ..,i,hi,rfl⟩
   ·obtain⟨h1,h2,h3⟩:=sf h;exact⟨h1,aU _ h2,h3⟩
  ·obtain⟨h1,h2,h3⟩:=sf h;exact⟨h1,aU _ h2,h3⟩
theorem s6{g:Nat}{fn:Func}{b:Code}(hb:fn.body=some b):∀ {tab:List (Nat×Func)},(g,fn)∈tab->∀x∈wR (rJ g) (jV b),x∈kG tab
 | [],h,x,hx=>by cases h
 |(g',fn')::r,h,x,hx=>by
  simp only[kG];rcases aS.1 h with h|h
  ·simp only[aA]at h;obtain⟨rfl,rfl⟩:=h;rw[hb];exact aU _ (cq _ hx)
  ·split
   ·exact aU _ (ci _ (s6 hb h x hx))
   ·exact s6 hb h x hx
theorem q_{g:Nat}{fn:Func}{b:Code}(hb:fn.body=some b):∀ {tab:List (Nat×Func)},(g,fn)∈tab->(rJ g+999999,rJ g,b)∈kG tab
 | [],h=>by cases h
 |(g',fn')::r,h=>by
  simp only[kG];rcases aS.1 h with h|h
  ·simp only[aA]at h;obtain⟨rfl,rfl⟩:=h;rw[hb];exact bN ..
  ·split
   ·exact aU _ (ci _ (q_ hb h))
   ·exact q_ hb h
theorem s7:∀ {tab:List (Nat×Func)} {k b:Nat} {c:Code},(k,b,c)∈kG tab->∃d,(∀z∈wR b (jV d),z∈kG tab)/\(c=d\/(k,b,c)∈wR b (jV d))
 | [],k,b,c,h=>by cases h
 |(g,fn)::r,k,b,c,h=>by
  simp only[kG]at h ⊢;split at h
  ·rename_i d hd;rcases aS.1 h with h|h
   ·simp only[aA]at h;obtain⟨rfl,rfl,rfl⟩:=h;exact⟨c,fun z hz=>aU _ (cq _ hz),.inl rfl⟩
   ·rcases cw.1 h with h|h
    ·obtain⟨rfl,_⟩:=sf h;exact⟨d,fun z hz=>aU _ (cq _ hz),.inr h⟩
    ·obtain⟨d',h1,h2⟩:=s7 h;exact⟨d',fun z hz=>aU _ (ci _ (h1 z hz)),h2⟩
  ·exact s7 h
theorem avh{cx:Cx}{g:Nat}{fn:Func}{c z:Code}{i:Nat}(h1:FG cx.tab g=some fn)(h2:fn.body=some c)(hz:z∈jV c)(hi:AA z=some i):(rJ g+i,rJ g,z)∈cx.all:=
 ci _ (s6 h2 (@s8 (dt default []) Fa.bare (@fN.bare (dt default [])) _ _ _ h1) _ (oV hz hi))
theorem avV{cx:Cx}(hcx:au9 cx){w0:World}{A:List (Bm×Bool)}{C:List QG}{L:List LF}{e:List PD}(hA:∀p∈A,AEv e p)(hC:∀a∈C,CEv cx.P e a)(hL:∀l∈L,LEv cx w0 e l){bs:Nat}{c:Code}(hc:∀z∈jV c,∀i,AA z=some i->(bs+i,bs,z)∈cx.all){t:qn}{x:Ex}{T':List SV}{H':bt}{f':Nat}
  (h:aiX cx A C L bs c t=some (x,T',H',f')): @R8 (dt w0 e) cx.P c t.T t.H t.f x T' H' f':=by
 have h1:=@aCm (dt w0 e) ⟨A,[],[],[],true⟩ (xF w0 hA) cx.P cx.fl C fun a ha=>aFY w0 (hC a ha)
 have h2:=@acT (dt w0 e) ⟨A,[],[],[],true⟩ (xF w0 hA) cx.P cx.tab hcx.tab hcx.mix cx.lf _ h1 (fun g i=>lfF L (rJ g+i)) (fun g fn c h1 h2=>⟨aqD hL fun z hz i hi=>avh h1 h2 hz hi,aCj hL (ci _ (q_ h2 (@s8 (dt default []) Fa.bare (@fN.bare (dt default [])) _ _ _ h1)))⟩) cx.dep
 exact @aks (dt w0 e) ⟨A,[],[],[],true⟩ (xF w0 hA) cx.P _ h2 hcx.mix (fun i=>lfF L (bs+i)) cx.lf c (aqD hL hc) _ _ _ _ _ _ _ h
theorem anI{cx:Cx}{w0:World}{A:List (Bm×Bool)}{e:List PD}(hA:∀p∈A,AEv e p){goal:Fv}{l:Lf}{r:Res}{c:Code}{t:qn}{x:Ex}{T':List SV}{H':bt}{f':Nat}
  (hr:∀x T' H' f',r=some (x,T',H',f')->@R8 (dt w0 e) cx.P c t.T t.H t.f x T' H' f') (h:ahn A goal l r=some (x,T',H',f')): @R8 (dt w0 e) cx.P c t.T t.H t.f x T' H' f':=by
 unfold ahn at h;split at h
 ·rename_i x1 T1 H1 f1;have hd:=hr _ _ _ _ rfl;cases hc:(amP H1&&Kt goal l)with
  |false=>rw[hc]at h;simp only[cD,ad,aA]at h;obtain⟨rfl,rfl,rfl,rfl⟩:=h;exact hd
  |true=>
   rw[hc]at h;simp only[aP,ad,aA]at h;obtain⟨rfl,rfl,rfl,rfl⟩:=h;intro U a w Q ht hm hl hq;refine hd U a w Q ht hm hl fun a' U' w' ht' hs'=>?_
   have hm': @b9 (dt w0 e) U' (get H1) w':=by obtain⟨km,_⟩:=hs';exact km
   have hl':ga f1 (get H1):=by obtain⟨_,kl,_⟩:=hs';exact kl
   obtain⟨θ2,s2⟩:=@xR (dt w0 e) ⟨A,[],[],[],true⟩ (xF w0 hA) H1 H1 f1 U' w' hm' hl';have hle:f1<=(@nv ⟨A,[],[],[],true⟩ H1 H1 f1).2:=by obtain⟨_,_,k,_⟩:=s2;exact k
   have hext:∀n,n<f1->θ2 n=U' n:=by obtain⟨_,_,_,k,_⟩:=s2;exact k
   exact hq a' θ2 w' (@uV.ext (dt w0 e) ⟨A,[],[],[],true⟩ (xF w0 hA) _ _ _ _ _ _ ht' hext hle) (@dA.trans (dt w0 e) _ _ _ _ _ _ _ _ _ _ _ _ hs' s2)
 ·cases h
theorem apy{m:Nat}{w0:World}{eb r:List PD}{vals:List Tm}(h:eb.length=m):Rel m vals w0 w0 (eb++vals.map (QH (eb++r))) (eb++r):=
 ⟨fun i hi=>by rw[ae,bl (by omega),ae,bl (by omega)],fun k s hk=>by
  rw[ae,bA (by omega),h,cN,aM,hk,avA]
  rfl⟩
theorem EV{id:Nat}:∀ {l:List (Nat×Nat×Code)} {b:Nat} {c:Code},pT id l=some (b,c)->(id,b,c)∈l
 | [],b,c,h=>by cases h
 |(k,b',d)::r,b,c,h=>by
  simp only[pT]at h;cases hb:Nat.beq k id with
  |true=>rw[hb]at h;simp only[aP,ad,aA]at h;obtain⟨rfl,rfl⟩:=h;rw[af hb];exact bN ..
  |false=>rw[hb]at h;exact aU _ (EV h)
theorem AJ{id:Nat}:∀ {l:List (Nat×Nat×Code)} {b:Nat} {c:Code},(id,b,c)∈l->0<lG id l
 | [],b,c,h=>by cases h
 |(k,b',d)::r,b,c,h=>by
  simp only[lG];rcases aS.1 h with h|h
  ·simp only[aA]at h;rw[<-h.1,show Nat.beq id id=true from ku id]
   simp only[aP];omega
  ·have:=AJ h;cases Nat.beq k id<;>simp <;>omega
theorem OS{id:Nat}:∀ {l:List (Nat×Nat×Code)} {b b':Nat} {c d:Code},lG id l=1->pT id l=some (b,c)->(id,b',d)∈l->d=c
 | [],b,b',c,d,_,_,h=>by cases h
 |(k,b0,e)::r,b,b',c,d,h1,h2,h3=>by
  simp only[lG]at h1;simp only[pT]at h2;cases hb:Nat.beq k id with
  |true=>
   rw[hb]at h1 h2;simp only[aP,ad,aA]at h1 h2;rcases aS.1 h3 with h3|h3
   ·simp only[aA]at h3;rw[h3.2.2,h2.2]
   ·have:=AJ h3;omega
  |false=>
   rw[hb]at h1 h2;simp only[cD]at h1 h2;rcases aS.1 h3 with h3|h3
   ·simp only[aA]at h3;rw[<-h3.1,show Nat.beq id id=true from ku id]at hb
    cases hb
   ·exact OS h1 h2 h3
theorem ap1:∀ {c x:Code},x∈jV c->∀z∈jV x,z∈jV c:=by
 intro c
 induction c with
 |seq a b iha ihb=>
  intro x hx z hz;rcases cw.1 hx with h|h
  ·exact cq _ (iha h z hz)
  ·exact ci _ (ihb h z hz)
 |cond q a b iha ihb=>
  intro x hx z hz;rcases aS.1 hx with rfl|h
  ·exact hz
  ·rcases cw.1 h with h|h
   ·exact aU _ (cq _ (iha h z hz))
   ·exact aU _ (ci _ (ihb h z hz))
 |block id a ih=>
  intro x hx z hz;rcases aS.1 hx with rfl|h
  ·exact hz
  ·exact aU _ (ih h z hz)
 |loop a ih=>
  intro x hx z hz;rcases aS.1 hx with rfl|h
  ·exact hz
  ·exact aU _ (ih h z hz)
 |_=>intro x hx;cases hx
theorem amv{x z:Code}(h:z∈jV (sk x)):z∈jV x:=by
 cases x with
 |loop a=>exact aU _ h
 |_=>exact h
theorem aqe{x:Ex}(h:sd x=true):x≠ .normal:=fun e=>by subst e;cases h
theorem anT{cx:Cx}{k b:Nat}{c:Code}(h:(k,b,c)∈cx.all):∀z∈jV (sk c),∀i,AA z=some i->(b+i,b,z)∈cx.all:=by
 intro z hz i hi;have hz:=amv hz;rcases cw.1 h with h|h
 ·obtain⟨rfl,h1,_⟩:=sf h;exact cq _ (oV (ap1 h1 z hz) hi)
 ·obtain⟨d,h1,h2⟩:=s7 h;refine ci _ (h1 _ (oV ?_ hi));rcases h2 with rfl|h2
  ·exact hz
  ·obtain⟨_,h3,_⟩:=sf h2;exact ap1 h3 z hz
theorem aqj{N:Nat}{K:List (Nat×dO)}{Φ:VO}{fo:List Ty}:∀ {pl:PL} {e S:List PD},lT pl=true->den N K Φ fo pl e≠some (.again S):=by
 intro pl
 induction pl with
 |leaf l=>
  intro e S h hd;cases l with
  |again x=>cases h
  |fin o=>cases hd
  |brk k x=>cases hd
 |ite b x y ihx ihy=>
  intro e S h hd;simp only[lT,ah]at h;simp only[den]at hd;cases hb:YW e b with
  |true=>rw[hb]at hd;exact ihx h.1 hd
  |false=>rw[hb]at hd;exact ihy h.2 hd
 |chk b x ih=>
  intro e S h hd;simp only[den]at hd;cases hb:YW e b with
  |true=>rw[hb]at hd;exact ih h hd
  |false=>rw[hb]at hd;cases hd
 |call k ins x ih=>
  intro e S h hd;simp only[den]at hd;split at hd
  ·split at hd
   ·rename_i rs hrs;cases hl:Nat.beq rs.length (kC _)with
    |true=>rw[hl]at hd;exact ih h hd
    |false=>rw[hl]at hd;cases hd
   ·cases hd
  ·cases hd
 |loop id f0 hd' ini e0 e1 body r0 r1 ihb ih0 ih1=>
  intro e S h hd;simp only[lT,ah]at h;simp only[den]at hd;split at hd
  ·exact ih0 h.1 hd
  ·exact ih1 h.2 hd
  ·cases hd
 |stop=>intro e S h hd;cases hd
def aFx(P:Program)(Q:Exit->Act->World->Prop)(n:Nat)(a:Act)(w:World):Code->Prop
 | .loop y=>Code.rounds P y Q n a w
 |y=>y.wp P Q a w
theorem aFr{cx:Cx}(hcx:au9 cx){w0:World}{N:Nat}{Φ:VO}{fo:List Ty}(hΦ:∀k g σ,cx.K[k]?=some (g,σ)->Aq cx.P g σ (Φ k)){PF:List PD->Exit->Act->World->Prop}:
  ∀ (pl:PL) (bs:Nat) (c:Code) (t:qn) (goal:Fv) (m:Nat) (A:List (Bm×Bool)) (C:List QG) (L:List LF) (e eS tl eb:List PD) (fi:Nat) (o:iX),fw cx pl bs c t goal m A C L=true->(∀z∈jV c,∀i,AA z=some i->(bs+i,bs,z)∈cx.all)->e.length=m->e=eS++tl->KC eS.length t=true->(∀p∈A,AEv e p)->(∀a∈C,CEv cx.P e a)->(∀l∈L,LEv cx w0 e l)->
   alf goal e eb fi->den N cx.K Φ fo pl e=some o->∀ (θ0:Th) (G0:C3) (wS:World) (U:Th) (a:Act) (w:World) (Q:Exit->Act->World->Prop),aJ_ cx w0 fo PF goal eS θ0 G0 fi wS->fi<=t.f->@uV (dt w0 eS) U t.f t.T a->@dA (dt w0 eS) θ0 G0 fi wS U (get t.H) t.f w->
   (∀x a' w',aJ' cx w0 PF goal eb o θ0 G0 wS x a' w'->Q x a' w')->c.wp cx.P Q a w:=by
 intro pl
 induction pl with
 |leaf l=>
  intro bs c t goal m A C L e eS tl eb fi o hck hc he heS htm hA hC hL hG hd θ0 G0 wS U a w Q hF hfi ht hs hq;simp only[fw,Ym]at hck;split at hck
  ·rename_i x T' H' f' hr;have hdo:=anI (w0:=w0) hA (fun _ _ _ _ hr=>avV (w0:=w0) hcx hA hC hL hc hr) hr
   obtain⟨k1,k2⟩:=Sk (r:=tl) rfl htm hs ht hfi;rw[<-heS]at k1 k2;have km: @b9 (dt w0 e) U (get t.H) w:=by obtain⟨km,_⟩:=k2;exact km
   have kl:ga t.f (get t.H):=by obtain⟨_,kl,_⟩:=k2;exact kl
   refine hdo U a w Q k1 km kl fun a' U' w' ht' hs'=>hq _ a' w' ?_
   have hst: @dA (dt w0 e) θ0 G0 fi wS U' (get H') f' w':=@dA.trans (dt w0 e) _ _ _ _ _ _ _ _ _ _ _ _ k2 hs';cases goal with
   |fn σ rs=>
    cases l with
    |fin outs=>
     simp only[ah]at hck;simp only[den,ad]at hd;subst hd;refine⟨_,rfl,hF A outs T' H' f' e x U' a' w' ⟨tl,heS⟩ hA hck.2 ?_ ht' hst⟩;rcases dY.1 hck.1 with h|h
     ·exact .inl (EZ h)
     ·exact .inr (EZ h)
    |again y=>simp at hck
    |brk k y=>simp at hck
   |lp m' f0 ns hd' e0 e1=>
    obtain⟨g1,g2,q,g3⟩:=hG;subst g2;have R:∀vals:List Tm,Rel m' vals w0 w0 (eb++vals.map (QH e)) e:=fun vals=>by
     have:=apy (w0:=w0) (r:=q) (vals:=vals) g1
     rwa [<-g3]at this
    cases l with
    |fin outs=>simp at hck
    |again y=>simp only[ah]at hck;simp only[den,ad]at hd;subst hd;obtain⟨c1,c2,c3⟩:=hck;have c1:=EZ c1;subst c1;obtain⟨q1,q2⟩:=EU (R y.vals) c3 hst ht';exact⟨rfl,by rw[bO];exact af c2,_,q1,q2⟩
    |brk k y=>
     simp only[den,ad]at hd;subst hd;cases k with
     |zero=>simp only[ah]at hck;obtain⟨c1,c2,c3⟩:=hck;have c1:=EZ c1;subst c1;obtain⟨q1,q2⟩:=EU (R y.vals) c3 hst ht';exact⟨rfl,by rw[bO];exact af c2,_,q1,q2⟩
     |succ k=>simp only[ah]at hck;obtain⟨c1,c2,c3⟩:=hck;have c1:=EZ c1;subst c1;obtain⟨q1,q2⟩:=EU (R y.vals) c3 hst ht';exact⟨rfl,by rw[bO];exact af c2,_,q1,q2⟩
  ·cases hck
 |ite b x y ihx ihy=>
  intro bs c t goal m A C L e eS tl eb fi o hck hc he heS htm hA hC hL hG hd;simp only[fw,ah]at hck;simp only[den]at hd;have hA':∀d,YW e b=d->∀p∈A++[(b,d)],AEv e p:=fun d hd p hp=>by
   rcases cw.1 hp with hp|hp
   ·exact hA p hp
   ·rw[ck]at hp;subst hp;exact⟨e,[],m,by simp,he,hck.1,hd⟩
  cases hb:YW e b with
  |true=>rw[hb]at hd;exact ihx bs c t goal m _ C L e eS tl eb fi o hck.2.1 hc he heS htm (hA' true hb) hC hL hG hd
  |false=>rw[hb]at hd;exact ihy bs c t goal m _ C L e eS tl eb fi o hck.2.2 hc he heS htm (hA' false hb) hC hL hG hd
 |chk b x ih=>
  intro bs c t goal m A C L e eS tl eb fi o hck hc he heS htm hA hC hL hG hd;simp only[fw,ah]at hck;simp only[den]at hd;cases hb:YW e b with
  |false=>rw[hb]at hd;cases hd
  |true=>
   rw[hb]at hd;refine ih bs c t goal m _ C L e eS tl eb fi o hck.2 hc he heS htm (fun p hp=>?_) hC hL hG hd
   rcases cw.1 hp with hp|hp
   ·exact hA p hp
   ·rw[ck]at hp;subst hp;exact⟨e,[],m,by simp,he,hck.1,hb⟩
 |call k ins x ih=>
  intro bs c t goal m A C L e eS tl eb fi o hck hc he heS htm hA hC hL hG hd;simp only[fw]at hck;simp only[den]at hd;split at hck
  ·rename_i g σ hk;rw[hk]at hd;simp only at hd;simp only[ah]at hck;split at hd
   ·rename_i rs hrs;cases hl:Nat.beq rs.length (kC σ)with
    |false=>rw[hl]at hd;cases hd
    |true=>
     rw[hl]at hd;simp only[aP]at hd;have hl:=af hl;refine ih bs c t goal (m+kC σ) A _ L (e++rs) eS (tl++rs) eb fi o hck.2.2 hc (by rw[ba,he,hl]) (by rw[heS,dg]) htm (fun p hp=>(hA p hp).more) (fun a ha=>?_) (fun l hl=>(hL l hl).more) hG.more hd
     rcases cw.1 ha with ha|ha
     ·exact(hC a ha).more
     ·rw[ck]at ha;subst ha;exact⟨e,rs,[],Φ k,by simp,he,hl,fun u hu=>Fc hck.2.1 u hu,hΦ k g σ hk,hrs⟩
   ·cases hd
  ·cases hck
 |loop id f0 hd' ini e0 e1 body r0 r1 ihb ih0 ih1=>
  intro bs c t goal m A C L e eS tl eb fi o hck hc he heS htm hA hC hL hG hd;simp only[fw]at hck;split at hck
  ·rename_i b' xb hxb;simp only[ah]at hck;obtain⟨c1,c2,c3,c4,c5,c6,c78,cb,cr0,cr1⟩:=hck;have c1:=af c1;have c6:=bY c6;have hx1:=EV hxb;simp only[den]at hd;have body_ok:=fun(S:List PD) (hS:S.length=ini.vals.length) (o:iX) (ho:den N cx.K Φ fo body (e++S)=some o)=>ihb b' (sk xb) hd' (.lp m f0 ini.vals.length hd' e0 e1) (m+ini.vals.length) A C L (e++S) (e++S) [] e f0 o cb (anT hx1) (by rw[ba,he,hS]) (by simp) (by rw[ba,he,hS];exact c3) (fun p hp=>(hA p hp).more) (fun a ha=>(hC a ha).more) (fun l hl=>(hL l hl).more) ⟨he,rfl,S,rfl⟩ ho
   have body_len:=fun(S:List PD) (o:iX) (ho:den N cx.K Φ fo body (e++S)=some o)=>akw (goal:= .lp m f0 ini.vals.length hd' e0 e1) cb ho
   have rounds:∀ (n:Nat) (S:List PD) (k:Nat) (X:List PD),m6 (den N cx.K Φ fo body) e n S=some (.brk k X)->S.length=ini.vals.length->(match k with|0=>X.length=e0.n|_=>X.length=e1.n)/\∀ (θ0:Th) (G0:C3) (wS:World) (U:Th) (a:Act) (w:World) (Q:Exit->Act->World->Prop),@uV (dt w0 (e++S)) U hd'.f hd'.T a->@dA (dt w0 (e++S)) θ0 G0 f0 wS U (get hd'.H) hd'.f w->
     (∀a' U' w',(match k with
      |0=>@uV (dt w0 (e++X)) U' e0.t.f e0.t.T a'/\@dA (dt w0 (e++X)) θ0 G0 f0 wS U' (get e0.t.H) e0.t.f w'
      |_=>@uV (dt w0 (e++X)) U' e1.t.f e1.t.T a'/\@dA (dt w0 (e++X)) θ0 G0 f0 wS U' (get e1.t.H) e1.t.f w')->Q (match k with|0=>e0.x.out|_=>e1.x.out) a' w')->aFx cx.P Q n a w xb:=by
    cases hlc:XM xb with
    |false=>
     rw[hlc]at c78;have hin:sk xb=xb:=by cases xb<;>first|rfl|cases hlc
     intro n S k X h hS;have hb:den N cx.K Φ fo body (e++S)=some (.brk k X):=by
      cases n with
      |zero=>cases h
      |succ n=>
       simp only[m6]at h;cases hd2:den N cx.K Φ fo body (e++S)with
       |none=>rw[hd2]at h;cases h
       |some o2=>
        cases o2 with
        |again S'=>exact absurd hd2 (aqj c78)
        |fin ds=>rw[hd2]at h;cases h
        |brk k2 X2=>rw[hd2]at h;exact h
     have hlen:=body_len S _ hb;refine⟨by cases k<;>exact hlen,fun θ0 G0 wS U a w Q ht hs hq=>?_⟩
     have main:(sk xb).wp cx.P Q a w:=by
      refine body_ok S hS _ hb θ0 G0 wS U a w _ trivial c6 ht hs fun x a' w' hend=>?_
      cases k with
      |zero=>obtain⟨rfl,_,U',t',s'⟩:=hend;exact hq a' U' w' ⟨t',s'⟩
      |succ k=>obtain⟨rfl,_,U',t',s'⟩:=hend;exact hq a' U' w' ⟨t',s'⟩
     rw[hin]at main;cases xb with
     |loop y=>cases hlc
     |_=>exact main
    |true=>
     rw[hlc]at c78;simp only[aP,ah]at c78;obtain⟨c7,c8⟩:=c78;cases xb with
     |loop y=>
      intro n
      induction n with
      |zero=>intro S k X h;simp[m6]at h
      |succ n ih=>
       intro S k X h hS;simp only[m6]at h;split at h
       ·rename_i S' hb;obtain⟨i1,i2⟩:=ih S' k X h (body_len S _ hb);refine⟨i1,fun θ0 G0 wS U a w Q ht hs hq=>?_⟩
        show Code.rounds cx.P y Q (n+1) a w
        rw[rounds_succ];refine body_ok S hS _ hb θ0 G0 wS U a w _ trivial c6 ht hs fun x a' w' hend=>?_
        obtain⟨rfl,_,U',t',s'⟩:=hend;exact i2 θ0 G0 wS U' a' w' Q t' s' hq
       ·rename_i hno;cases hb:den N cx.K Φ fo body (e++S)with
        |none=>rw[hb]at h;cases h
        |some o'=>
         rw[hb]at h;simp only[ad]at h;subst h;have hlen:=body_len S _ hb;refine⟨by cases k<;>exact hlen,fun θ0 G0 wS U a w Q ht hs hq=>?_⟩
         show Code.rounds cx.P y Q (n+1) a w
         rw[rounds_succ];refine body_ok S hS _ hb θ0 G0 wS U a w _ trivial c6 ht hs fun x a' w' hend=>?_
         cases k with
         |zero=>obtain⟨rfl,_,U',t',s'⟩:=hend;exact @JQ (dt w0 e) Fa.bare (@fN.bare (dt w0 e)) _ (aqe c7) _ _ _ _ (hq a' U' w' ⟨t',s'⟩)
         |succ k=>obtain⟨rfl,_,U',t',s'⟩:=hend;exact @JQ (dt w0 e) Fa.bare (@fN.bare (dt w0 e)) _ (aqe c8) _ _ _ _ (hq a' U' w' ⟨t',s'⟩)
     |_=>cases hlc
   have toWp:∀ (a:Act) (w:World) (Q:Exit->Act->World->Prop),aFx cx.P Q N a w xb->xb.wp cx.P Q a w:=fun a w Q h=>by
    cases xb with
    |loop y=>exact wp_loop_rounds N h
    |_=>exact h
   split at hd
   ·rename_i X hX;obtain⟨r1',r2'⟩:=rounds N _ 0 X hX (by rw[bO])
    refine ih0 bs c t goal (m+e0.n) A C _ (e++X) eS (tl++X) eb fi o cr0 hc (by rw[ba,he,r1']) (by rw[heS,dg]) htm (fun p hp=>(hA p hp).more) (fun a ha=>(hC a ha).more) (fun l hl=>?_) hG.more hd
    rcases cw.1 hl with hl|hl
    ·exact(hL l hl).more
    ·rw[ck]at hl;subst hl;refine⟨e,X,[],by simp,he,fun u hu=>Fc c2 u hu,by rw[r1'];exact c4,fun b'' xb' hxb'=>?_⟩
     have:=OS c1 hxb hxb';subst this;intro θ0 G0 wS U a w Q ht hs hq;exact toWp a w Q (r2' θ0 G0 wS U a w Q ht hs fun a' U' w' hh=>hq a' U' w' hh.1 hh.2)
   ·rename_i k X hX;obtain⟨r1',r2'⟩:=rounds N _ (k+1) X hX (by rw[bO])
    refine ih1 bs c t goal (m+e1.n) A C _ (e++X) eS (tl++X) eb fi o cr1 hc (by rw[ba,he,r1']) (by rw[heS,dg]) htm (fun p hp=>(hA p hp).more) (fun a ha=>(hC a ha).more) (fun l hl=>?_) hG.more hd
    rcases cw.1 hl with hl|hl
    ·exact(hL l hl).more
    ·rw[ck]at hl;subst hl;refine⟨e,X,[],by simp,he,fun u hu=>Fc c2 u hu,by rw[r1'];exact c5,fun b'' xb' hxb'=>?_⟩
     have:=OS c1 hxb hxb';subst this;intro θ0 G0 wS U a w Q ht hs hq;exact toWp a w Q (r2' θ0 G0 wS U a w Q ht hs fun a' U' w' hh=>hq a' U' w' hh.1 hh.2)
   ·cases hd
  ·cases hck
 |stop=>intro bs c t goal m A C L e eS tl eb fi o hck hc he heS htm hA hC hL hG hd;simp[den]at hd
def nj(q:Nat):List Sh->Nat->List SV
 | [],_=>[]
 | .one t::r,i=> .r (.one (og t i i))::nj q r (i+1)
 | .agg ts::r,i=> .r (.agg (ir ts i i))::nj q r (i+ts.length)
 | .ptr::r,i=> .r (.one (.ptr q 0))::nj q r i
def s9(σ:dO):bt:=lZ false σ.ins 0 0++(match σ.io with
 | []=>[]
 |io=>[(σ.ins.length,.cells 0 σ.ioT (ir io (cz σ.args).length (cz σ.args).length))])
def nD(σ:dO)(nt:Nat):qn:=⟨nj σ.ins.length σ.args 0++List.replicate (nt-(nj σ.ins.length σ.args 0).length) .undef,s9 σ,σ.ins.length+1⟩
def oL(cx:Cx)(σ:dO)(fn:Func)(pl:PL):Bool:=fw cx pl 0 cx.body (nD σ fn.ntmps) (.fn σ fn.results.toList) σ.ins.length [] [] []&&(KC σ.ins.length (nD σ fn.ntmps)&&!σ.rw)
def pS(σ:dO):List Ty:=cz σ.outs++σ.io
def phi(N:Nat)(K:List (Nat×dO))(Φ:VO)(σ:dO)(pl:PL)(ds:List PD):Option (List PD):=match den N K Φ (pS σ) pl ds with
 |some (.fin rs)=>some rs
 |_=>none
theorem azb{α:Type}(l:List α)(d:α)(k j:Nat):(l.drop k).getD j d=l.getD (k+j) d:=by rw[ae,b_,ae]
section
variable {w:World}{z:Nat->Prop}{xs:List VT}{ds:List PD}{σ:dO}{bo oo:Nat}{arr:Array Value}
theorem aCd[Sy]{fr:Bool}{f:Nat}:∀ {ts:List Ty} {i m:Nat},i+ts.length<=f->ga f (get (lZ fr ts i m)):=fun{ts i m} h n x hx=>by
 obtain⟨j,tys,h1,h2,h3⟩:=@qN _ Fa.bare (@fN.bare _) _ _ _ _ _ _ hx;have:=(av.1 h1).1;subst h3;exact⟨by omega,rfl⟩
theorem zr[Sy][Fa][fN]{U:Th}{q:Nat}{p:Value}(hp:p= .pointer (some (U.addr q 0))):∀ {sh:List Sh} {ys:List VT} {es:List PD} {i:Nat},ys.length=(cz sh).length->(∀j t,(cz sh)[j]?=some t->qX w z t (ys.getD j .no) (es.getD j (.i 0))/\(U (i+j)).x.t=ys.getD j .no/\Sy.n (i+j)=(es.getD j (.i 0)).n)->(nj q sh i).map (SV.val U)=d9 p sh ys
 | [],ys,es,i,hl,h=>rfl
 | .ptr::r,ys,es,i,hl,h=>by
  simp only[nj,d9,cL];rw[zr hp (ys:=ys) (es:=es) (by simpa[cz,Sh.tys]using hl) (by simpa[cz,Sh.tys]using h),hp]
  rfl
 | .one t::r,ys,es,i,hl,h=>by
  have hl':ys.length=(cz r).length+1:=by rw[hl];simp[cz,Sh.tys]
  obtain⟨h1,h2,h3⟩:=h 0 t rfl;have:=zr (U:=U) (p:=p) hp (sh:=r) (ys:=ys.drop 1) (es:=es.drop 1) (i:=i+1) (by rw[cJ];omega) (fun j t' hj=>by
   obtain⟨g1,g2,g3⟩:=h (j+1) t' (by show([t]++cz r)[j+1]?=_;rw[List.singleton_append,bk];exact hj)
   rw[sn,sn,jq,cT i];exact⟨g1,g2,g3⟩)
  simp only[nj,d9,cL,this];have e:ys.headD .no=ys.getD 0 .no:=by cases ys<;>rfl
  rw[e];have e2:=wH (U:=U) (f:=i) (m:=i) h1 h2 h3;rw[<-e2];rfl
 | .agg ts::r,ys,es,i,hl,h=>by
  have hl':ys.length=ts.length+(cz r).length:=by rw[hl];simp[cz,Sh.tys]
  have hin:∀ (j:Nat) (t:Ty),ts[j]?=some t->(cz (.agg ts::r))[j]?=some t:=fun j t hj=>by
   show(ts++cz r)[j]?=_
   rw[bl (av.1 hj).1];exact hj
  have h1:=oe (U:=U) (z:=z) (w:=w) (ts:=ts) (ys:=ys.take ts.length) (ds:=es) (f:=i) (m:=i) (by rw[bu];omega) (fun j t hj=>by
   obtain⟨g1,g2,g3⟩:=h j t (hin j t hj);have:(ys.take ts.length).getD j .no=ys.getD j .no:=by rw[ae,bX,ab (av.1 hj).1,<-ae]
   rw[this];exact⟨g1,g2,g3⟩)
  have h2:=zr (U:=U) (p:=p) hp (sh:=r) (ys:=ys.drop ts.length) (es:=es.drop ts.length) (i:=i+ts.length) (by rw[cJ];omega) (fun j t' hj=>by
   obtain⟨g1,g2,g3⟩:=h (ts.length+j) t' (by show(ts++cz r)[ts.length+j]?=_;rw[bA (by omega),cN];exact hj)
   rw[ut,ut,cT i];exact⟨g1,g2,g3⟩)
  simp only[nj,d9,cL,h2]
  show Value.agg ((ir ts i i).map (SC.val U)).toArray::_=_
  rw[h1]
theorem EB[Sy]{q g:Nat}(hq:q<g):∀ {sh:List Sh} {i:Nat},i+(cz sh).length<=g->∀s∈nj q sh i,s.ltB g=true
 | [],i,h,s,hs=>by cases hs
 | .ptr::r,i,h,s,hs=>by
  rcases aS.1 hs with rfl|hs
  ·simp[SV.ltB,SR.ltB,SC.ltB,hq]
  ·exact EB hq (by simpa[cz,Sh.tys]using h) s hs
 | .one t::r,i,h,s,hs=>by
  simp only[cz,Sh.tys,ba,cj,dr]at h;rcases aS.1 hs with rfl|hs
  ·exact @BV _ Fa.bare (@fN.bare _) t i i g (by omega)
  ·exact EB hq (by omega) s hs
 | .agg ts::r,i,h,s,hs=>by
  simp only[cz,Sh.tys,ba]at h;rcases aS.1 hs with rfl|hs
  ·exact @qG _ Fa.bare (@fN.bare _) ts i i g (by omega)
  ·exact EB hq (by omega) s hs
def th1(k:Nat)(xs:List VT)(z:Nat->Prop)(bo oo:Nat):Th:=fun n=>if n<k then⟨0,0,0,⟨false,xs.getD n .no,z⟩⟩else⟨bo,oo,0,xd⟩
theorem Zk{wd:World}(hh:wd.heap.size=w.heap.size)(hb0:Below 0 wd w)(hd:σ.io≠[]->wd.drawn=bo)(hz:∀b,z b->b<w.heap.size)(hno:¬z bo)(hr:C2 w z σ.ins xs ds)(hio:σ.io≠[]->w.heap[bo]?=some (.cells arr σ.ioT (0,0))/\∀j,j<σ.io.length->arr[oo+j]?=some (xs.getD ((cz σ.args).length+j) .no).v):
  @b9 (dt wd ds) (th1 σ.ins.length xs z bo oo) (get (s9 σ)) w/\ga (σ.ins.length+1) (get (s9 σ))/\(∀n x,get (s9 σ) n=some x->gG (th1 σ.ins.length xs z bo oo) n x->σ.io≠[]/\n=σ.ins.length):=by
 have e1:∀i,i<σ.ins.length->th1 σ.ins.length xs z bo oo i=⟨0,0,0,⟨false,xs.getD i .no,z⟩⟩:=fun i hi=>by simp only[th1];rw[ab hi]
 have e2:th1 σ.ins.length xs z bo oo σ.ins.length=⟨bo,oo,0,xd⟩:=by simp only[th1];rw[ak (Nat.lt_irrefl _)]
 have hins:σ.ins.length=(cz σ.args).length+σ.io.length:=by unfold dO.ins;rw[ba]
 have hcase:∀n x,get (s9 σ) n=some x->(∃i tys,σ.ins[i]?=some (.lst tys)/\n=i/\x= .frz false tys (.ds i))\/(σ.io≠[]/\n=σ.ins.length/\x= .cells 0 σ.ioT (ir σ.io (cz σ.args).length (cz σ.args).length)):=fun n x h=>by
  unfold s9 at h;rw[@jl (dt wd ds) Fa.bare (@fN.bare (dt wd ds))]at h;split at h
  ·rename_i y hy;cases h;obtain⟨i,tys,h1,h2,h3⟩:=@qN (dt wd ds) Fa.bare (@fN.bare (dt wd ds)) _ _ _ _ _ _ hy;rw[bR]at h2 h3;exact .inl ⟨i,tys,h1,h2,h3⟩
  ·right
   cases hq:σ.io with
   |nil=>rw[hq]at h;cases h
   |cons t r=>
    rw[hq]at h;rw[@di (dt wd ds)]at h;split at h
    ·rename_i he;cases h;exact⟨by simp,he.symm,rfl⟩
    ·cases h
 have hown:∀n x,get (s9 σ) n=some x->gG (th1 σ.ins.length xs z bo oo) n x->σ.io≠[]/\n=σ.ins.length:=fun n x h o=>by
  rcases hcase n x h with⟨i,tys,h1,h2,rfl⟩|⟨h1,h2,h3⟩
  ·exact o.elim
  ·exact⟨h1,h2⟩
 refine⟨@b9.mk (dt wd ds) _ _ _ (fun n x hx=>?_) (fun n m x y b hx hy hne o u=>?_) (@Far.mk (dt wd ds) _ _ _ (fun _ _ _ _=>ec _) hb0 (ec _) (fun n x hx o=>by
  obtain⟨q1,q2⟩:=hown n x hx o;rw[q2,e2];exact .inr (hd q1).symm) (kr hh)),fun n x hx=>?_,hown⟩
 ·rcases hcase n x hx with⟨i,tys,h1,rfl,rfl⟩|⟨h1,rfl,rfl⟩
  ·have hil:=(av.1 h1).1;refine⟨?_,?_⟩
   ·rw[e1 n hil];exact hr.rep n _ h1
   ·rw[e1 n hil];exact fun b hb=>⟨hz b hb,fun e=>by cases e⟩
  ·obtain⟨k1,k2⟩:=hio h1;refine⟨by rw[e2];rfl,arr,by rw[e2];exact k1,fun j c hj=>?_,.inl rfl⟩
   rw[e2];have hcv:=@oe (dt wd ds) Fa.bare (@fN.bare (dt wd ds)) w z (th1 σ.ins.length xs z bo oo) σ.io (xs.drop (cz σ.args).length) (ds.drop (cz σ.args).length) (cz σ.args).length (cz σ.args).length (by rw[cJ,hr.lx,hins];omega) (fun j t ht=>by
    have hjl:=(av.1 ht).1;rw[azb,azb,e1 _ (by omega)]
    refine⟨hr.rep _ t ?_,rfl,rfl⟩;unfold dO.ins;rw[bA (by omega),cN]
    exact ht)
   have hjl:j<(ir σ.io (cz σ.args).length (cz σ.args).length).length:=(av.1 hj).1;have hlen:(ir σ.io (cz σ.args).length (cz σ.args).length).length=σ.io.length:=by have:=congrArg List.length hcv;rw[bO,bO,cJ,hr.lx,hins]at this;omega
   show arr[oo+j]?=_
   rw[k2 j (by omega)]
   have h4:((ir σ.io (cz σ.args).length (cz σ.args).length).map (@SC.val (dt wd ds) (th1 σ.ins.length xs z bo oo)))[j]?=some (@SC.val (dt wd ds) (th1 σ.ins.length xs z bo oo) c):=by rw[aM,hj];rfl
   rw[hcv,aM]at h4;obtain⟨y,hy,hyc⟩:=cA.1 h4;rw[<-hyc];rw[b_]at hy;rw[ae,hy];rfl
 ·obtain⟨h1,rfl⟩:=hown n x hx o;rcases hcase m y hy with⟨i,tys,h2,rfl,rfl⟩|⟨_,h2,_⟩
  ·rcases u with⟨u,_⟩|u
   ·exact u.elim
   ·have:z b:=by
     have u:(th1 σ.ins.length xs z bo oo m).x.z b:=u;rw[e1 m (av.1 h2).1]at u;exact u
    rw[e2];exact fun e=>hno (by show z bo;rw[show bo=b from e];exact this)
  ·exact absurd h2.symm hne
 ·rcases hcase n x hx with⟨i,tys,h1,rfl,rfl⟩|⟨h1,rfl,rfl⟩
  ·exact⟨by have:=(av.1 h1).1;omega,rfl⟩
  ·exact⟨g7 _,@qG (dt wd ds) Fa.bare (@fN.bare (dt wd ds)) _ _ _ _ (by rw[hins];omega)⟩
theorem Ew{w0:World}{e:List PD}{A:List (Bm×Bool)}(hA:∀p∈A,AEv e p){U:Th}{H:bt}{w:World}{fl:Nat}(hm: @b9 (dt w0 e) U (get H) w):∀ {io:List Ty} {i:Nat} {cs:List SC} {l:List Tm},@AC H fl ⟨A,[],[],[],true⟩ io i cs=some l->cs.length=io.length/\l.length=io.length/\∀ (j:Nat) (t:Ty),io[j]?=some t->∃c u,cs[j]?=some c/\l[j]?=some u/\
   (match t with
   | .lst _=>c= .dat (i+j) .root/\u= .ds (i+j)
   |t=>nU t (Km e t u)=some (@SC.val (dt w0 e) U c))
 | [],i,[],l,h=>by
  simp only[AC,ad]at h;subst h;exact⟨rfl,rfl,fun j t hj=>by simp at hj⟩
 | [],i,_::_,l,h=>by simp[AC]at h
 |t::r,i,[],l,h=>by cases t<;>simp[AC]at h
 | .lst us::r,i,c::cs,l,h=>by
  simp only[AC]at h;split at h
  ·rename_i n;cases hb:Nat.beq n i with
   |false=>rw[hb]at h;cases h
   |true=>
    rw[hb]at h;simp only[aP]at h;have hb:=af hb;subst hb;split at h
    ·rename_i l' hl;simp only[ad]at h;subst h;obtain⟨h1,h2,h3⟩:=Ew hA hm hl;refine⟨by simp[h1],by simp[h2],fun j t hj=>?_⟩
     cases j with
     |zero=>simp only[bn,ad]at hj;subst hj;exact⟨_,_,rfl,rfl,rfl,rfl⟩
     |succ j=>
      rw[bk]at hj;obtain⟨c,u,g1,g2,g3⟩:=h3 j t hj;refine⟨c,u,by rw[bk];exact g1,by rw[bk];exact g2,?_⟩
      rw[show n+(j+1)=n+1+j by omega]
      exact g3
    ·cases h
  ·cases h
 | .int k::r,i,c::cs,l,h=>by
  simp only[AC]at h;split at h
  ·rename_i m ns hr;split at h
   ·rename_i l' hl;simp only[ad]at h;subst h;obtain⟨h1,h2,h3⟩:=Ew hA hm hl;refine⟨by simp[h1],by simp[h2],fun j t hj=>?_⟩
    cases j with
    |zero=>
     simp only[bn,ad]at hj;subst hj;obtain⟨vt,v1,v2⟩:=@m_ (dt w0 e) ⟨A,[],[],[],true⟩ (xF w0 hA) U H w hm _ _ _ _ _ hr;refine⟨_,_,rfl,rfl,?_⟩;have:=@S8 (dt w0 e) ⟨A,[],[],[],true⟩ (xF w0 hA) _ _ _ _ _ v2 (by simp)
     rw[aw0]at this;rw[<-v1];exact this
    |succ j=>
     rw[bk]at hj;obtain⟨c,u,g1,g2,g3⟩:=h3 j t hj;refine⟨c,u,by rw[bk];exact g1,by rw[bk];exact g2,?_⟩
     rw[show i+(j+1)=i+1+j by omega]
     exact g3
   ·cases h
  ·cases h
 | .bool::r,i,c::cs,l,h=>by
  simp only[AC]at h;split at h
  ·rename_i m ns hr;split at h
   ·rename_i l' hl;simp only[ad]at h;subst h;obtain⟨h1,h2,h3⟩:=Ew hA hm hl;refine⟨by simp[h1],by simp[h2],fun j t hj=>?_⟩
    cases j with
    |zero=>
     simp only[bn,ad]at hj;subst hj;obtain⟨vt,v1,v2⟩:=@m_ (dt w0 e) ⟨A,[],[],[],true⟩ (xF w0 hA) U H w hm _ _ _ _ _ hr;refine⟨_,_,rfl,rfl,?_⟩;have:=@S8 (dt w0 e) ⟨A,[],[],[],true⟩ (xF w0 hA) _ _ _ _ _ v2 (by simp)
     rw[aw0]at this;rw[<-v1];exact this
    |succ j=>
     rw[bk]at hj;obtain⟨c,u,g1,g2,g3⟩:=h3 j t hj;refine⟨c,u,by rw[bk];exact g1,by rw[bk];exact g2,?_⟩
     rw[show i+(j+1)=i+1+j by omega]
     exact g3
   ·cases h
  ·cases h
theorem PA{q:Nat}{H:bt}:∀ {ns:List Nat},X0 q H ns=true->∀n∈ns,n≠q/\∃x,get H n=some x/\frx x=true
 | [],_,n,hn=>by cases hn
 |m::r,h,n,hn=>by
  simp only[X0,ah,d7]at h;rcases aS.1 hn with rfl|hn
  ·refine⟨fun e=>?_,?_⟩
   ·have:=h.1;rw[e,show Nat.beq q q=true from ku q]at this
    cases this
   ·have h2:=h.2.1;split at h2
    ·rename_i x hx;exact⟨x,hx,h2⟩
    ·cases h2
  ·exact PA h.2.2 n hn
theorem Kp{w0:World}{e:List PD}:∀ (ts:List Ty) (l:List Tm),List.zipWith (@Tm.at (dt w0 e)) ts l=List.zipWith (Km e) ts l
 | [],_=>rfl
 |_::_,[]=>rfl
 |t::ts,u::l=>by simp only[List.zipWith_cons_cons,aw0,Kp ts l]
theorem aFU{cx:Cx}(hcx:au9 cx){N:Nat}{Φ:VO}(hΦ:∀k g σ,cx.K[k]?=some (g,σ)->Aq cx.P g σ (Φ k)){g:Nat}{σ:dO}{fn:Func}{pl:PL}(hg:cx.P.funcs[g]?=some fn)(hb:fn.body=some cx.body)(hen:∀xs w,(callFunc g xs).run cx.P w= .ok (.enter g xs) w)(hck:oL cx σ fn pl=true):Aq cx.P g σ (phi N cx.K Φ σ pl):=by
 unfold oL at hck;rw[ah,ah]at hck;obtain⟨hck,htm,hnrw⟩:=hck;refine⟨hen,fun _ w z xs ds bo oo arr rs hz hno hr hio hφ=>?_,fun h=>by rw[h]at hnrw;cases hnrw⟩
 unfold phi at hφ;split at hφ
 ·rename_i rs' hden;simp only[ad]at hφ;subst hφ;obtain⟨wd,hh,hb0,hd,hX⟩:∃wd:World,wd.heap.size=w.heap.size/\Below 0 wd w/\(σ.io≠[]->wd.drawn=bo)/\(σ.io=[]->wd.drawn=w.heap.size):=by
   by_cases hio0:σ.io=[]
   ·exact⟨{w with drawn:=w.heap.size},rfl,⟨rfl,rfl,rfl,bD _,fun b hb=>by omega⟩,fun h=>absurd hio0 h,fun _=>rfl⟩
   ·exact⟨{w with drawn:=bo},rfl,⟨rfl,rfl,rfl,bD _,fun b hb=>by omega⟩,fun _=>rfl,fun h=>absurd h hio0⟩
  obtain⟨km,kl,kown⟩:=Zk (wd:=wd) hh hb0 hd hz hno hr hio;have e1:∀i,i<σ.ins.length->th1 σ.ins.length xs z bo oo i=⟨0,0,0,⟨false,xs.getD i .no,z⟩⟩:=fun i hi=>by simp only[th1];rw[ab hi]
  have e2:th1 σ.ins.length xs z bo oo σ.ins.length=⟨bo,oo,0,xd⟩:=by simp only[th1];rw[ak (Nat.lt_irrefl _)]
  have hins:σ.ins.length=(cz σ.args).length+σ.io.length:=by unfold dO.ins;rw[ba]
  generalize hθ:th1 σ.ins.length xs z bo oo=U at km kown e1 e2;have hargs:(nj σ.ins.length σ.args 0).map (@SV.val (dt wd ds) U)=d9 (.pointer (some ⟨bo,oo,none⟩)) σ.args xs:=by
   have h1:xs=xs.take (cz σ.args).length++xs.drop (cz σ.args).length:=(List.take_append_drop _ _).symm;have h2:(xs.take (cz σ.args).length).length=(cz σ.args).length:=by rw[bu,hr.lx,hins];omega
   rw[h1,@jt (dt wd ds) Fa.bare (@fN.bare (dt wd ds)) _ _ _ _ h2];refine @zr w z (dt wd ds) Fa.bare (@fN.bare (dt wd ds)) U _ _ (by rw[Th.addr,e2];rfl) _ _ ds 0 h2 fun j t hj=>?_
   have hjl:=(av.1 hj).1;have h3:(xs.take (cz σ.args).length).getD j .no=xs.getD j .no:=by rw[ae,bX,ab hjl,<-ae]
   rw[h3,bR,e1 j (by omega)]
   refine⟨hr.rep j t ?_,rfl,rfl⟩;unfold dO.ins;rw[bl hjl];exact hj
  rw[<-hargs];refine calls_of_wp hg hb ?_;have hT: @uV (dt wd ds) U (σ.ins.length+1) (nD σ fn.ntmps).T {tmps:=((nj σ.ins.length σ.args 0).map (@SV.val (dt wd ds) U)).toArray++Array.replicate (fn.ntmps-((nj σ.ins.length σ.args 0).map (@SV.val (dt wd ds) U)).toArray.size) undef,defers:=[]}:=by
   refine @uV.mk (dt wd ds) _ _ _ _ ?_ (fun t s hs hk=>?_) (fun s hs=>?_) rfl
   ·simp[nD]
   ·have e:(((nj σ.ins.length σ.args 0).map (@SV.val (dt wd ds) U)).toArray++Array.replicate (fn.ntmps-((nj σ.ins.length σ.args 0).map (@SV.val (dt wd ds) U)).toArray.size) Go.undef)=((nD σ fn.ntmps).T.map (@SV.val (dt wd ds) U)).toArray:=by
     apply Array.ext';simp[nD,SV.val,Go.undef]
    show(((nj σ.ins.length σ.args 0).map (@SV.val (dt wd ds) U)).toArray++Array.replicate (fn.ntmps-((nj σ.ins.length σ.args 0).map (@SV.val (dt wd ds) U)).toArray.size) Go.undef)[t]?=_
    rw[e,eF,aM,hs];rfl
   ·rcases cw.1 hs with hs|hs
    ·exact @EB (dt wd ds) _ _ (g7 _) _ _ (by rw[hins];omega) s hs
    ·rw[(List.mem_replicate.1 hs).2];rfl
  have hst: @dA (dt wd ds) U (get (s9 σ)) (σ.ins.length+1) w U (get (nD σ fn.ntmps).H) (nD σ fn.ntmps).f w:=@dA.refl (dt wd ds) _ _ _ _ km kl;refine aFr hcx hΦ (w0:=wd) (N:=N) (fo:=pS σ) (PF:=fun rs x a' w'=>bodyPost cx.P fn (fun en w'=>∃ys z',en= .returned (amF (d9 .nilFunc σ.outs ys))/\Post w σ xs ds bo oo rs ys z' w') x a' w') pl 0 cx.body (nD σ fn.ntmps) (.fn σ fn.results.toList) σ.ins.length [] [] [] ds ds [] [] (σ.ins.length+1) (.fin rs') hck (fun z hz i hi=>by rw[bR];exact cq _ (by have:=oV (b:=0) hz hi;rwa [bR]at this)) hr.ld (by simp) (by rw[hr.ld];exact htm) (fun p hp=>by cases hp) (fun a ha=>by cases ha) (fun l hl=>by cases hl) trivial hden U (get (s9 σ)) w U _ w _ ?_ (bD _) hT hst ?_
  ·
   intro A outs T' H' f' e x U' a' w' he hA hfin hx hT' hS';obtain⟨er,he⟩:=he;obtain⟨⟨sok,sinj,sfar⟩,slt,sle,sext,sfr,ssz,sos,stape,soutput,snb,snz⟩:=hS';have hM: @b9 (dt wd e) U' (get H') w':=@b9.mk (dt wd e) _ _ _ sok sinj sfar;have tdef:a'.defers=[]:=by obtain⟨_,_,_,td⟩:=hT';exact td
   unfold arD at hfin;split at hfin
   ·rename_i srs hsrs;split at hfin
    ·rename_i l ns hargs';simp only[ah]at hfin;obtain⟨f1,f2,f3⟩:=hfin;obtain⟨r1,_⟩:=@HS (dt wd e) ⟨A,[],[],[],true⟩ (xF wd hA) cx.P U' f' T' a' H' w' fn srs hT' hM slt hsrs;obtain⟨ys,g1,g2,g3⟩:=@mF (dt wd e) ⟨A,[],[],[],true⟩ (xF wd hA) U' H' w' hM cx.fl σ.outs (srs.map .r) l ns none hargs';have hval: @SV.val (dt wd e) U' (pA srs)=amF (d9 .nilFunc σ.outs ys):=by
      rw[@T3 (dt wd e) ⟨A,[],[],[],true⟩ (xF wd hA),g3 .nilFunc (fun n hn=>by cases hn),List.map_map]
      rfl
     rw[Kp]at g2;have hfresh:∀b,Zn U' H' ns b->w.heap.size<=b/\b<w'.heap.size:=fun b ⟨n,hn,y,hy,hu⟩=>by
      obtain⟨k1,x,kx,k2⟩:=PA f2 n hn;rw[hy]at kx;cases kx;refine⟨?_,@ek.uses_lt (dt wd e) _ _ _ _ _ (sok n y hy) hu⟩;rcases @ag1 (dt wd e) ⟨A,[],[],[],true⟩ (xF wd hA) U' H' w' hM n y hy k2 b hu with hF|hF
      ·have hF:wd.heap.size<=b:=hF;rw[hh]at hF;exact hF
      ·have hF:b=wd.drawn:=hF;cases hio':σ.io with
       |nil=>rw[hF,hX hio'];exact bD _
       |cons t r=>
        have hne:σ.io≠[]:=by rw[hio'];simp
        rw[hio']at f3;simp only at f3;split at f3
        ·rename_i ee cs hcs;have h1:=sinj σ.ins.length n _ y b hcs hy (Ne.symm k1) trivial hu;rw[sext _ (g7 _),e2]at h1;exact absurd (hF.trans (hd hne)).symm h1
        ·cases f3
     have lout:l.length=(cz σ.outs).length:=g1;have hioP:∃l2:List Tm,outs=l++l2/\l2.length=σ.io.length/\(σ.io≠[]->∃arr',w'.heap[bo]?=some (.cells arr' σ.ioT (0,0))/\∀j t,σ.io[j]?=some t->∃u,arr'[oo+j]?=some u/\au5 t (xs.getD ((cz σ.args).length+j) .no).v (ds.getD ((cz σ.args).length+j) (.i 0)) (Km e t (l2.getD j (.lit 0))) u):=by
      cases hio':σ.io with
      |nil=>rw[hio']at f3;simp only at f3;exact⟨[],by rw[@sr (dt wd e) ⟨A,[],[],[],true⟩ (xF wd hA) _ _ f3];simp,rfl,fun h=>absurd rfl h⟩
      |cons t r=>
       rw[hio']at f3;simp only at f3;split at f3
       ·rename_i ee cs hcs;rw[ah]at f3;obtain⟨f4,f5⟩:=f3;have f4:=af f4;split at f5
        ·rename_i l2 hl2;obtain⟨i1,i2,i3⟩:=Ew hA hM hl2;refine⟨l2,@sr (dt wd e) ⟨A,[],[],[],true⟩ (xF wd hA) _ _ f5,i2,fun _=>?_⟩
         obtain⟨b0,arr',b1,b2,_⟩:=sok _ _ hcs;have e3:U' σ.ins.length=⟨bo,oo,0,xd⟩:=(sext _ (g7 _)).trans e2;rw[e3]at b1 b2;refine⟨arr',by rw[<-f4];exact b1,fun j t' hj=>?_⟩
         obtain⟨c,u,c1,c2,c3⟩:=i3 j t' hj;refine⟨_,b2 j c c1,?_⟩;have hu:l2.getD j (.lit 0)=u:=by rw[ae,c2];rfl
         rw[hu];have hjl:=(av.1 hj).1;have hin:(cz σ.args).length+j<σ.ins.length:=by rw[hins,hio'];omega
         cases t' with
         |int k=>exact c3
         |bool=>exact c3
         |lst us=>
          obtain⟨rfl,rfl⟩:=c3;have hrep:=hr.rep ((cz σ.args).length+j) (.lst us) (by
           unfold dO.ins;rw[bA (by omega),cN,hio']
           exact hj)
          refine⟨?_,?_⟩
          ·show xY (U' ((cz σ.args).length+j)).x.t.v=_
           rw[sext _ (by omega),e1 _ hin]
           exact @yF (dt wd e) ⟨A,[],[],[],true⟩ (xF wd hA) _ _ _ _ _ hrep
          ·have hd:e.getD ((cz σ.args).length+j) (.i 0)=ds.getD ((cz σ.args).length+j) (.i 0):=by
            rw[he,ae,bl (by rw[hr.ld];exact hin),<-ae]
           show PD.l (e.getD ((cz σ.args).length+j) (.i 0)).q=_
           rw[hd];exact(@ae9 (dt wd e) ⟨A,[],[],[],true⟩ (xF wd hA) _ _ _ _ _ hrep).symm
        ·cases f5
       ·cases f3
     obtain⟨l2,o1,o2,o3⟩:=hioP;have hpost:Post w σ xs ds bo oo (List.zipWith (Km e) (pS σ) outs) ys (Zn U' H' ns) w':=by
      have hz:List.zipWith (Km e) (pS σ) outs=List.zipWith (Km e) (cz σ.outs) l++List.zipWith (Km e) σ.io l2:=by unfold pS;rw[o1];exact List.zipWith_append lout.symm
      have hzl:(List.zipWith (Km e) (cz σ.outs) l).length=(cz σ.outs).length:=by rw[List.length_zipWith,lout,Nat.min_self]
      refine⟨?_,hfresh,fun hne=>?_,fun b hb hbo=>sfr b hb fun n x hx ho=>?_,ssz,sos,stape,soutput⟩
      ·rw[hz,List.take_left' hzl];exact g2
      ·obtain⟨arr',p1,p2⟩:=o3 hne;refine⟨arr',p1,fun j t hj=>?_⟩
       obtain⟨u,u1,u2⟩:=p2 j t hj;refine⟨u,u1,?_⟩;have hjl:=(av.1 hj).1;have:(List.zipWith (Km e) (pS σ) outs).getD ((cz σ.outs).length+j) (.i 0)=Km e t (l2.getD j (.lit 0)):=by
        rw[hz,ae,bA (by omega),hzl,cN,List.getElem?_zipWith,hj,aj (by omega:j<l2.length),ae,aj (by omega:j<l2.length)]
        rfl
       rw[this];exact u2
      ·obtain⟨q1,rfl⟩:=kown n x hx ho;rw[e2];rcases hbo with h|h
       ·exact absurd h q1
       ·exact fun e'=>h e'.symm
     have hfinal:a'.defers=[]/\∃v,(results fn a'.tmps).run cx.P w'= .ok v w'/\∃ys z',Ending.returned v= .returned (amF (d9 .nilFunc σ.outs ys))/\Post w σ xs ds bo oo (List.zipWith (Km e) (pS σ) outs) ys z' w':=
      ⟨tdef,_,r1,ys,_,by rw[hval],hpost⟩
     rcases hx with rfl|rfl
     ·exact hfinal
     ·exact hfinal
    ·cases hfin
   ·cases hfin
  ·intro x a' w' hend;obtain⟨ds',h1,h2⟩:=hend;cases h1;exact h2
 ·cases hφ
end
end Go.Proofs.YtlchkibailfldaaGreat.Ex
