/-
  Part 4 of the proof that TopTiles returns true at every call and leaves what it was given as it was; no condition beyond the row's own.
-/
import Derived.LoopN
import Derived.Test.YtlchkibailfldaaGreatM03
set_option linter.unusedVariables false
set_option linter.unusedSimpArgs false
set_option linter.unusedSectionVars false
namespace Go.Proofs.YtlchkibailfldaaGreat.Ex
open Go Go.RowKit
section
variable [Sy][Fa][fN]
def Gd(als:List Al)(L:Array Bool)(p:Pt):bt:=iE als (fun a=>L.getD a.j false&&!(BX a.nm p.mg))++p.E
theorem acl{L:Array Bool}{i:Nat}(hi:i<L.size)(j:Nat):(L.setIfInBounds i true).getD j false=if i=j then true else L.getD j false:=by
 rw[da,da]
 by_cases h:i=j
 ·subst h;rw[eI hi,ab rfl];rfl
 ·rw[fU h,ak h]
section
variable {P:Program}{F:gA}{ops:Array Oper}{T0:List SV}{H0:bt}{f0:Nat}{als:List Al}{ms:List Nat}{s:DS}
structure aoM(ops:Array Oper)(T0:List SV)(H0:bt)(f0:Nat)(als:List Al)(s:DS)(θ0:Th)(w0:World)(L:Array Bool)(k:Nat)(p:Pt)(a:Act)(U:Th)(w:World):Prop where
 size:L.size=ops.size
 down:∀ (i:Nat) (o:Oper),L.getD i false=true->ops[i]?=some o->∀e∈o.after,Region.binds .any e=true->L.getD e.on false=true
 pk:(s.pts++[s.cur])[k]?=some p
 eff:∀ (i:Nat) (r:C6),s.recs[i]?=some r->sj r=true->(L.getD i false=true↔r.pos<k)
 tsz:a.tmps.size=T0.length
 dfr:a.defers=[]
 tmp1:∀ (j:Nat) (o:Oper) (r:C6) (d:Nat),ops[j]?=some o->s.recs[j]?=some r->o.dst=some d->L.getD j false=true->d<T0.length->a.tmps[d]?=some (r.v.val U)
 lt1:∀ (j:Nat) (r:C6),s.recs[j]?=some r->L.getD j false=true->r.v.ltB p.f=true
 tmp0:∀ (t:Nat) (u:SV),T0[t]?=some u->u.known=true->(∀ (j:Nat) (o:Oper),ops[j]?=some o->o.dst=some t->L.getD j false=false)->a.tmps[t]?=some (u.val U)
 st:dA θ0 (get H0) f0 w0 U (get (Gd als L p)) p.f w
 mgl:∀b∈als,b.nm∈p.mg->L.getD b.j false=true
 fge:f0+als.length<=p.f
theorem mU(G:jx P F ops T0 H0 f0 als ms s){L:Array Bool}(down:∀ (i:Nat) (o:Oper),L.getD i false=true->ops[i]?=some o->∀e∈o.after,Region.binds .any e=true->L.getD e.on false=true):
  ∀ (i:Nat) (o:Oper),ops[i]?=some o->(∀e∈o.after,Region.binds .any e=true->L.getD e.on false=true)->∀j,(ms.getD i 0).testBit j=true->L.getD j false=true/\j<i:=by
 intro i
 induction i using Nat.strongRecOn with
 |_ i ih=>
  intro o ho he j hj;obtain⟨e,hem,hb,h⟩:=G.bit i o ho j hj;have hlt:=G.edge i o ho e hem hb;rcases h with rfl|⟨_,h⟩
  ·exact⟨he e hem hb,hlt⟩
  ·have hi:i<ops.size:=(cP.1 ho).1;have ho':ops[e.on]?=some ops[e.on]:=ca (by omega)
   have:=ih e.on hlt _ ho' (fun e' he' hb'=>down e.on _ (he e hem hb) ho' e' he' hb') j h
   exact⟨this.1,by omega⟩
theorem aCn(G:jx P F ops T0 H0 f0 als ms s):∀ (i:Nat) (o:Oper),ops[i]?=some o->∀j,(ms.getD i 0).testBit j=true->j<i:=by
 intro i
 induction i using Nat.strongRecOn with
 |_ i ih=>
  intro o ho j hj;obtain⟨e,hem,hb,h⟩:=G.bit i o ho j hj;have hlt:=G.edge i o ho e hem hb;rcases h with rfl|⟨_,h⟩
  ·exact hlt
  ·have hi:i<ops.size:=(cP.1 ho).1;have:=ih e.on hlt _ (ca (by omega)) j h
   omega
theorem xc(G:jx P F ops T0 H0 f0 als ms s){θ0 U U':Th}{w0 w w':World}{L:Array Bool}{k k':Nat}{p p':Pt}{a:Act}(I:aoM ops T0 H0 f0 als s θ0 w0 L k p a U w){i:Nat}{o:Oper}{r:C6}(ho:ops[i]?=some o)(hr:s.recs[i]?=some r)
  (hno:L.getD i false=false) (he:∀e∈o.after,Region.binds .any e=true->L.getD e.on false=true) (hpk:(s.pts++[s.cur])[k']?=some p') (hst:dA θ0 (get H0) f0 w0 U' (get (Gd als (L.setIfInBounds i true) p')) p'.f w')
  (hv0:∀u∈T0,u.val U'=u.val U) (hv1:∀ (j:Nat) (q:C6),s.recs[j]?=some q->L.getD j false=true->q.v.val U'=q.v.val U) (hle:p.f<=p'.f) (hrv:r.v.ltB p'.f=true)
  (heff:∀ (j:Nat) (q:C6),s.recs[j]?=some q->sj q=true->((L.setIfInBounds i true).getD j false=true↔q.pos<k')) (hmg:∀b∈als,b.nm∈p'.mg->(L.setIfInBounds i true).getD b.j false=true):
  aoM ops T0 H0 f0 als s θ0 w0 (L.setIfInBounds i true) k' p' (a.put o.dst (r.v.val U')) U' w':=by
 have hi:i<L.size:=by rw[I.size];exact(cP.1 ho).1
 have hg:=acl hi;have hmono:∀j,L.getD j false=true->(L.setIfInBounds i true).getD j false=true:=fun j hj=>by
  rw[hg];split
  ·rfl
  ·exact hj
 have hput:∀d,d<T0.length->o.dst≠some d->(a.put o.dst (r.v.val U')).tmps[d]?=a.tmps[d]? :=fun d hd hne=>by
  cases hds:o.dst with
  |none=>rfl
  |some e=>
   show(a.tmps.setIfInBounds e _)[d]?=_
   rw[fU (fun h=>hne (by rw[hds,h]))]
 refine⟨by rw[Array.size_setIfInBounds];exact I.size,fun j q hj hq e hem hb=>?_,hpk,heff,?_,?_,fun j q x d hq hx hd hj hdl=>?_,fun j x hx hj=>?_,fun t u hu hk hw=>?_,hst,hmg,dB I.fge hle⟩
 ·rw[hg]at hj;split at hj
  ·rename_i hij;subst hij;rw[ho]at hq;injection hq with hq
   subst hq;exact hmono _ (he e hem hb)
  ·exact hmono _ (I.down j q hj hq e hem hb)
 ·rw[<-I.tsz];cases hds:o.dst with
  |none=>rfl
  |some e=>exact Array.size_setIfInBounds ..
 ·cases hds:o.dst<;>exact I.dfr
 ·rw[hg]at hj;split at hj
  ·rename_i hij;subst hij;rw[ho]at hq;injection hq with hq
   subst hq;rw[hr]at hx;injection hx with hx
   subst hx;rw[hd]
   show(a.tmps.setIfInBounds d _)[d]?=_
   rw[eI (by rw[I.tsz];exact hdl)]
  ·rename_i hij;rw[hput d hdl (fun e=>hij (G.dst i j o q d ho hq e hd)),I.tmp1 j q x d hq hx hd hj hdl,hv1 j x hx hj]
 ·rw[hg]at hj;split at hj
  ·rename_i hij;subst hij;rw[hr]at hx;injection hx with hx
   subst hx;exact hrv
  ·exact SV.ltB_le (I.lt1 j x hx hj) hle
 ·have hno':o.dst≠some t:=fun e=>by
   have:=hw i o ho e;rw[hg,ab rfl]at this;cases this
  obtain⟨htl,_⟩:=av.1 hu;rw[hput t htl hno',I.tmp0 t u hu hk fun j q hq hd=>by
   have:=hw j q hq hd;rw[hg]at this;split at this
   ·cases this
   ·exact this,hv0 u (bS hu)]
theorem Qd(G:jx P F ops T0 H0 f0 als ms s){b:Al}(hb:b∈als):∃o,ops[b.j]?=some o/\o.guard=none/\∀r,s.recs[b.j]?=some r->r.want=true/\r.kd= .al:=by
 obtain⟨_,o,h1,h3⟩:=G.als_ok.op b hb;rw[b8]at h1;refine⟨o,h1,h3,fun r hr=>?_⟩
 obtain⟨r',hr',hf,_⟩:=G.fact b.j o h1;rw[hr]at hr';injection hr' with hr'
 subst hr';have hw:r.want=true:=by have:=hf.1;simp only[xo,h3,ad]at this;exact this.symm
 refine⟨hw,?_⟩;have:=hf.2.2 hw;cases hk:r.kd with
 |al=>rfl
 |ef=>rw[hk]at this;exact absurd rfl (this.1 b hb)
 |rd=>rw[hk]at this;exact absurd rfl (this.1.2 b hb)
theorem QE{L:Array Bool}{p:Pt}{n:Nat}{x:SB}(h:get (Gd als L p) n=some x):(∃b∈als,L.getD b.j false=true/\b.nm∉p.mg/\b.nm=n/\x=b.x)\/get p.E n=some x:=by
 unfold Gd at h;rw[jl]at h;split at h
 ·rename_i y hy;injection h with h
  subst h;obtain⟨b,hb,hp,hn,hx⟩:=xK hy;rw[ah]at hp;exact .inl ⟨b,hb,hp.1,fun e=>by rw[wL.2 e]at hp;simp at hp,hn,hx⟩
 ·exact .inr h
theorem au6(G:jx P F ops T0 H0 f0 als ms s){L:Array Bool}{p:Pt}{b:Al}(hb:b∈als)(hL:L.getD b.j false=true)(hm:b.nm∉p.mg):get (Gd als L p) b.nm=some b.x:=by
 unfold Gd;rw[jl,arP G.als_ok.inj hb (by
  rw[ah];refine⟨hL,?_⟩;cases h:BX b.nm p.mg with
  |true=>exact absurd (wL.1 h) hm
  |false=>rfl)]
theorem aJ9(G:jx P F ops T0 H0 f0 als ms s){L:Array Bool}{k:Nat}{p:Pt}(hp:(s.pts++[s.cur])[k]?=some p){n:Nat}{x:SB}(h:get p.E n=some x):get (Gd als L p) n=some x:=by
 unfold Gd;rw[jl];cases hg:get (iE als fun a=>L.getD a.j false&&!(BX a.nm p.mg)) n with
 |none=>exact h
 |some y=>
  obtain⟨b,hb,hq,hn,_⟩:=xK hg;rw[ah]at hq;have hm:b.nm∉p.mg:=fun e=>by rw[wL.2 e]at hq;simp at hq
  have:=(G.pt k p hp b hb hm).1;rw[hn]at this;rw[this]at h;cases h
theorem aBi(G:jx P F ops T0 H0 f0 als ms s){L:Array Bool}{k:Nat}{p:Pt}(hp:(s.pts++[s.cur])[k]?=some p){m:Nat}(hm:∀j,m.testBit j=true->L.getD j false=true){n:Nat}{x:SB}(h:get (iE als (PT m p.mg)++p.E) n=some x):get (Gd als L p) n=some x:=by
 rw[jl]at h;split at h
 ·rename_i y hy;injection h with h
  subst h;obtain⟨b,hb,hq,hn,hx⟩:=xK hy;unfold PT at hq;rw[ah]at hq;have hmg:b.nm∉p.mg:=fun e=>by rw[wL.2 e]at hq;simp at hq
  rw[<-hn,hx];exact au6 G hb (hm _ hq.1) hmg
 ·exact aJ9 G hp h
theorem avr{o:Oper}{ev:Operand->Option SV}{H H2:bt}{f f':Nat}{v:SV}(hk:Xk o.op= .rd)(h:opS P o ev H f=some (v,H2,f'))(hff:f'=f):H2=H:=by
 unfold opS at h;split at h
 ·rename_i r hr;cases h;cases hsk:JV P o ev with
  |true=>rw[hsk]at hr;cases hr
  |false=>
  rw[hsk]at hr;simp only[cD]at hr;unfold aa4 at hr;split at hr
  all_goals try unfold gU at hr
  all_goals try(rename_i ho;rw[ho]at hk;cases hk;done)
  all_goals try(cases hr;done)
  all_goals try(split at hr<;>cases hr<;>rfl;done)
  all_goals try(rename_i ho;split at hr<;>(try split at hr)<;>cases hr<;>rfl;done)
  ·rename_i c ho;rw[ho]at hk;split at hr
   ·split at hr
    ·cases hr;rfl
    ·split at hr
     ·cases hr;rfl
     ·cases hr
   ·rename_i hc;simp only[Xk,hc]at hk;cases hk
   ·rename_i hc;simp only[Xk,hc]at hk;cases hk
   ·split at hr
    ·cases hr;rfl
    ·cases hr
   ·cases hr
 ·split at h
  ·cases h;rfl
  ·split at h
   ·cases h;rfl
   ·split at h
    ·rename_i r hr;cases h;have h:=hr;unfold ZT at h;split at h
     all_goals try(rename_i ho;rw[ho]at hk;cases hk;done)
     all_goals try(cases h;done)
     all_goals try(split at h<;>cases h<;>rfl;done)
     ·rename_i c ho;rw[ho]at hk;split at h
      ·split at h<;>cases h;rfl
      ·rename_i hc;simp only[Xk,hc]at hk;cases hk
      ·rename_i hc;simp only[Xk,hc]at hk;cases hk
      ·cases h
    ·split at h
     ·rename_i r hr;cases h;have h:=hr;unfold OV at h;split at h
      all_goals try(rename_i ho;rw[ho]at hk;cases hk;done)
      all_goals try(cases h;done)
      all_goals try(split at h<;>cases h<;>rfl;done)
      exact Xg h hff
     split at h
     ·rename_i r hr;cases h;have h:=hr;unfold PV at h;split at h
      all_goals try(rename_i ho;rw[ho]at hk;cases hk;done)
      all_goals try(cases h;done)
      all_goals try(split at h<;>cases h<;>rfl;done)
      ·split at h
       ·cases h;rfl
       ·split at h<;>cases h;rfl
      ·exact age h hff
      ·rename_i c ho;rw[ho]at hk;split at h
       ·rename_i hc;simp only[Xk,hc]at hk;cases hk
       ·cases h
     ·split at h
      ·cases h;rfl
      ·split at h
       ·rename_i c ho;split at h
        ·rename_i hc;rw[ho]at hk;simp only[Xk,hc]at hk;cases hk
        ·cases h
       ·cases h
theorem aBL{o:Oper}{ev:Operand->Option SV}{H H2:bt}{f f':Nat}{v:SV}(hk:arl o.op=true)(h:opS P o ev H f=some (v,H2,f'))(hff:f'=f+1):∃y,H2=(f,y)::H:=by
 obtain⟨t,x,ho⟩:∃t x,o.op= .load t x:=by cases ho:o.op<;>rw[ho]at hk<;>first|exact⟨_,_,rfl⟩|cases hk
 unfold opS at h;split at h
 ·rename_i r hr;cases h;cases hsk:JV P o ev with
  |true=>rw[hsk]at hr;cases hr
  |false=>
  rw[hsk]at hr;simp only[cD,aa4,ho]at hr;unfold gU at hr;split at hr
  ·simp only[ad,aA]at hr;omega
  ·cases hr
 ·split at h
  ·simp only[ad,aA]at h;omega
  ·split at h
   ·simp only[ad,aA]at h;omega
   ·split at h
    ·rename_i r hr;cases h;simp only[ZT,ho]at hr;split at hr
     ·simp only[ad,aA]at hr;omega
     ·cases hr
    ·split at h
     ·rename_i r hr;cases h;simp only[OV,ho]at hr;split at hr
      ·simp only[ad,aA]at hr;omega
      ·cases hr
     split at h
     ·rename_i r hr;cases h;simp only[PV,ho]at hr;exact amN hr hff
     ·split at h
      ·simp only[ad,aA]at h;omega
      ·simp only[ho]at h;cases h
theorem ai6{U':Th}{F nm:Nat}{c c':SC}(hnf:nm<F)(h:apB F nm c=some c'):c'.val (hU U' nm (U' F))=c.val U'/\c'.ltB F=true:=by
 cases c with
 |dat n p=>
  simp only[apB]at h;cases hb:Nat.beq n F with
  |true=>rw[hb]at h;simp only[aP,ad]at h;subst h;rw[af hb];exact⟨by simp only[SC.val,bK],by simpa[SC.ltB]using hnf⟩
  |false=>
   rw[hb]at h;simp only[cD]at h;cases hc:(Nat.blt n F&&!(Nat.beq n nm))with
   |false=>rw[hc]at h;cases h
   |true=>
    rw[hc]at h;simp only[aP,ad]at h;subst h;rw[ah]at hc;have h2:Nat.beq n nm=false:=by simpa using hc.2
    exact⟨SC.val_upd h2,hc.1⟩
 |_=>
  simp only[apB]at h;generalize hc:(SC.ltB F _&&_)=cc at h;cases cc with
  |false=>cases h
  |true=>simp only[aP,ad]at h;subst h;rw[ah,d7]at hc;exact⟨SC.val_upd hc.2,hc.1⟩
theorem Lr{U':Th}{F nm:Nat}(hnf:nm<F):∀ {l l':List SC},Dy F nm l=some l'->l'.map (SC.val (hU U' nm (U' F)))=l.map (SC.val U')/\l'.all (SC.ltB F)=true
 | [],l',h=>by simp only[Dy,ad]at h;subst h;exact⟨rfl,rfl⟩
 |c::r,l',h=>by
  simp only[Dy]at h;split at h
  ·rename_i c' hc;split at h
   ·rename_i l2 hl;simp only[ad]at h;subst h;obtain⟨h1,h2⟩:=ai6 (U':=U') hnf hc;obtain⟨h3,h4⟩:=Lr (U':=U') hnf hl;exact⟨by rw[cL,cL,h1,h3],by rw[jD,h2,h4];rfl⟩
   ·cases h
  ·cases h
theorem apA{U':Th}{F nm:Nat}{q q':SR}(hnf:nm<F)(h:ai7 F nm q=some q'):SV.val (hU U' nm (U' F)) (.r q')=SV.val U' (.r q)/\(SV.r q').ltB F=true:=by
 cases q with
 |one c=>
  simp only[ai7]at h;split at h
  ·rename_i c' hc;simp only[ad]at h;subst h;exact ai6 (U':=U') hnf hc
  ·cases h
 |agg l=>
  simp only[ai7]at h;split at h
  ·rename_i l' hl;simp only[ad]at h;subst h;obtain⟨h1,h2⟩:=Lr (U':=U') hnf hl;exact⟨by simp only[SV.val,SR.val,h1],h2⟩
  ·cases h
theorem al5{U U':Th}{F nm:Nat}{c c':SC}(h:Lp F nm c=some c'):c'.val (hU U nm (U' F))=c.val U'/\∀g,nm<g->c'.ltB g=true:=by
 cases c with
 |ptr n o=>
  simp only[Lp]at h;cases hb:Nat.beq n F with
  |false=>rw[hb]at h;cases h
  |true=>rw[hb]at h;simp only[aP,ad]at h;subst h;rw[af hb];exact⟨by simp only[SC.val,Th.addr,bK],fun g hg=>by simpa[SC.ltB]using hg⟩
 |slice n o l d=>
  simp only[Lp]at h;cases hb:Nat.beq n F with
  |false=>rw[hb]at h;cases h
  |true=>rw[hb]at h;simp only[aP,ad]at h;subst h;rw[af hb];exact⟨by simp only[SC.val,Th.addr,bK],fun g hg=>by simpa[SC.ltB]using hg⟩
 |osl n es lo hi=>
  simp only[Lp]at h;cases hb:Nat.beq n F with
  |false=>rw[hb]at h;cases h
  |true=>rw[hb]at h;simp only[aP,ad]at h;subst h;rw[af hb];exact⟨by simp only[SC.val,Th.row,Th.addr,bK],fun g hg=>by simpa[SC.ltB]using hg⟩
 |_=>cases h
theorem ahg{p q:Al->Bool}{n:Nat}:∀ {als:List Al},(∀c∈als,c.nm=n->p c=q c)->get (iE als p) n=get (iE als q) n:=by
 intro als
 induction als with
 |nil=>intro _;rfl
 |cons c r ih=>
  intro h;have ih:=ih fun d hd=>h d (aU _ hd)
  unfold iE at ih ⊢
  by_cases hn:c.nm=n
  ·have:=h c (bN ..) hn;cases hq:q c with
   |true=>rw[hq]at this;simp[this,hq,Vb,di,hn]
   |false=>rw[hq]at this;simp[this,hq];exact ih
  ·have skip:∀ (b:Bool) (A:List Al),get ((bif b then c::A else A).map Vb) n=get (A.map Vb) n:=fun b A=>by
    cases b with
    |false=>rfl
    |true=>simp[Vb,di,hn]
   have e1:∀ (p:Al->Bool),(c::r).filter p=bif p c then c::r.filter p else r.filter p:=fun p=>by
    cases hp:p c<;>simp[hp]
   rw[e1 p,e1 q,skip,skip];exact ih
theorem aw1(G:jx P F ops T0 H0 f0 als ms s){c b:Al}(hc:c∈als)(hb:b∈als)(h:c.j=b.j):c=b:=G.als_ok.injj c hc b hb h
theorem anA(G:jx P F ops T0 H0 f0 als ms s)(hF:jK P F)(hT0:∀u∈T0,u.ltB f0=true){θ0 U:Th}{w0 w:World}{L:Array Bool}{k:Nat}{p:Pt}{a:Act}(I:aoM ops T0 H0 f0 als s θ0 w0 L k p a U w){i:Nat}{o:Oper}(ho:ops[i]?=some o)
  (hno:L.getD i false=false) (he:∀e∈o.after,Region.binds .any e=true->L.getD e.on false=true) {K:Act->World->Prop} {Q:Exit->Act->World->Prop} (hK:∀k' p' a' U' w',aoM ops T0 H0 f0 als s θ0 w0 (L.setIfInBounds i true) k' p' a' U' w'->K a' w'):wpOp P ops Q i K a w:=by
 obtain⟨r,hr,hrf,htf⟩:=G.fact i o ho;have hi:i<L.size:=by rw[I.size];exact(cP.1 ho).1
 have hg:=acl hi;have hanc:=mU G I.down i o ho he;have hm0:=I.st.le;have hlater:∀j o',ops[j]?=some o'->(ms.getD j 0).testBit i=true->L.getD j false=false:=fun j o' hj hb=>by
  cases hL:L.getD j false with
  |false=>rfl
  |true=>
   have:=(mU G I.down j o' hj (fun e' he' hb'=>I.down j o' hL hj e' he' hb') i hb).1
   rw[hno]at this;cases this
 have agr:∀t u,t∈o.looksAt ops->r.T[t]?=some u->u.known=true->a.tmps[t]?=some (u.val U)/\u.ltB p.f=true:=fun t u hl hu hk=>by
  rcases htf.2 t u hu with⟨q,o',r',hq,ho',hd,hr',hv⟩|⟨h1,h2⟩
  ·rw[b8]at ho';rw[bR]at hr';have hL:L.getD q false=true:=by
    rcases G.look i o ho t hl q o' ho' hd with hb|hb
    ·exact(hanc q hb).1
    ·have:=aCn G q o' ho' i hb;omega
   obtain⟨htl,_⟩:=av.1 hu;rw[htf.1]at htl;subst hv;exact⟨I.tmp1 q o' r' t ho' hr' hd hL htl,I.lt1 q r' hr' hL⟩
  ·refine⟨I.tmp0 t u h1 hk fun j q hq hd=>?_,SV.ltB_le (hT0 u (bS h1)) hm0⟩
   rcases G.look i o ho t hl j q hq hd with hb|hb
   ·exact absurd hd (h2 j q (hanc j hb).2 (by rw[b8];exact hq))
   ·exact hlater j q hq hb
 have agrO:kA U p.f (RF r.T) a.eval o:=by
  have:=arI (T:=r.T) (a:=a) (U:=U) (f:=p.f) (l:=o.op.operands.toList) fun t u ht hu hk=>agr t u (cq _ (List.mem_filterMap.2 ⟨.tmp t,ht,rfl⟩)) hu hk
  exact fun x hx=>this x (by simpa using hx)
 have hwant:=Po (tmps:=a.tmps) (U:=U) hrf.1 fun g want q d u hgd hq hd hu hk=>(agr d u (ci _ (by rw[hgd];simp[hq,hd])) hu hk).1
 unfold wpOp;rw[ho];simp only;rw[hwant];cases hw:r.want with
 |false=>
  obtain⟨hv,hkd⟩:=hrf.2.1 hw;rw[ak (by simp)]
  refine hK k p _ U w ?_;have hval:Go.undef=r.v.val U:=by rw[hv];rfl
  rw[hval];have hgd:Gd als (L.setIfInBounds i true) p=Gd als L p:=by
   unfold Gd iE
   congr 2
   refine List.filter_congr fun b hb=>?_
   rw[hg];split
   ·rename_i hij
    exfalso
    obtain⟨o',h1,_,h4⟩:=Qd G hb;have:=(h4 r (by rw[<-hij];exact hr)).1
    rw[hw]at this;cases this
   ·rfl
  refine xc G I ho hr hno he I.pk (by rw[hgd];exact I.st) (fun _ _=>rfl) (fun _ _ _ _=>rfl) (bD _) (by rw[hv];rfl) (fun j q hq hq2=>?_) (fun b hb hm=>?_)
  ·rw[hg];split
   ·rename_i hij;subst hij;rw[hr]at hq;injection hq with hq
    subst hq;simp[sj,hw]at hq2
   ·exact I.eff j q hq hq2
  ·rw[hg];split
   ·rfl
   ·exact I.mgl b hb hm
 |true=>
  rw[ab rfl];refine .inl ?_;have hfact:=hrf.2.2 hw;have hsub:∀n x,get (iE als (PT (ms.getD i 0) p.mg)++p.E) n=some x->get (Gd als L p) n=some x:=fun n x h=>aBi G I.pk (fun j hj=>(hanc j hj).1) h
  have hM:b9 U (get (iE als (PT (ms.getD i 0) p.mg)++p.E)) w:=I.st.m.less hsub;have hLt:ga p.f (get (iE als (PT (ms.getD i 0) p.mg)++p.E)):=I.st.lt.less hsub;have v0:∀U':Th,(∀n,n<p.f->U' n=U n)->∀u∈T0,u.val U'=u.val U:=fun U' hx u hu=>SV.val_ext (SV.ltB_le (hT0 u hu) hm0) hx
  have v1:∀U':Th,(∀n,n<p.f->U' n=U n)->∀ (j:Nat) (q:C6),s.recs[j]?=some q->L.getD j false=true->q.v.val U'=q.v.val U:=fun U' hx j q hq hj=>SV.val_ext (I.lt1 j q hq hj) hx
  cases hkd:r.kd with
  |rd=>
   rw[hkd]at hfact;obtain⟨⟨hk0,_⟩,p1,H1,hp1,hs1⟩:=hfact;have hnal:∀b∈als,b.j≠i:=fun b hb e=>by
    obtain⟨_,_,_,h4⟩:=Qd G hb;have:=(h4 r (by rw[e];exact hr)).2
    rw[hkd]at this;cases this
   have hgd:Gd als (L.setIfInBounds i true) p=Gd als L p:=by
    unfold Gd iE
    congr 2
    refine List.filter_congr fun b hb=>?_
    rw[hg,ak (fun e=>hnal b hb e.symm)]
   have hend:∀H2,opS P o (RF r.T) (iE als (PT (ms.getD i 0) p.mg)++p.E) p.f=some (r.v,H2,p.f)->o.wp P a w K Q:=fun H2 h3=>by
    have hsame:=avr hk0 h3 rfl;subst hsame;refine D8 (Oi h3 hM hLt agrO) K Q fun U' w' hst hv=>?_
    have hst':=I.st.then hsub (bD _) hst (G2:=get (Gd als L p)) fun n x hx=>by
     cases hc:get (iE als (PT (ms.getD i 0) p.mg)++p.E) n with
     |none=>exact .inr ⟨hx,rfl⟩
     |some y=>have:=hsub n y hc;rw[hx]at this;exact .inl this.symm
    refine hK k p _ U' w' (xc G I ho hr hno he I.pk (by rw[hgd];exact hst') (v0 U' hst.ext) (v1 U' hst.ext) (bD _) hv (fun j q hq hq2=>?_) (fun b hb hm=>?_))
    ·rw[hg];split
     ·rename_i hij;subst hij;rw[hr]at hq;injection hq with hq
      subst hq;simp[sj,hkd]at hq2
     ·exact I.eff j q hq hq2
    ·rw[hg];split
     ·rfl
     ·exact I.mgl b hb hm
   by_cases hkp:k=r.pos
   ·have:p1=p:=by have:=I.pk;rw[hkp,hp1]at this;injection this
    subst this;exact hend H1 hs1
   ·have hrdr:awd r=true:=by simp[awd,hw,hkd]
    obtain⟨H2,h2⟩:=G.rds i o r k p ho hr hrdr I.pk hkp fun j q hq hq2=>by
     refine⟨fun hlt=>?_,fun hge=>?_⟩
     ·cases hb:(ms.getD j 0).testBit i with
      |false=>rfl
      |true=>
       exfalso
       have hLj:=(I.eff j q hq hq2).2 hlt;have hj:j<ops.size:=by have:=(av.1 hq).1;rw[G.rlen]at this;exact this
       have:=(mU G I.down j _ (ca hj) (fun e' he' hb'=>I.down j _ hLj (ca hj) e' he' hb') i hb).1
       rw[hno]at this;cases this
     ·cases hb:(ms.getD i 0).testBit j with
      |false=>rfl
      |true=>
       exfalso
       have:=(I.eff j q hq hq2).1 (hanc j hb).1;omega
    exact hend H2 h2
  |ef=>
   rw[hkd]at hfact;obtain⟨hk0,p1,p2,hp1,hp2,hs1,hmg2⟩:=hfact;have hef:sj r=true:=by simp[sj,hw,hkd]
   have hnal:∀b∈als,b.j≠i:=fun b hb e=>by
    obtain⟨_,_,_,h4⟩:=Qd G hb;have:=(h4 r (by rw[e];exact hr)).2
    rw[hkd]at this;cases this
   have hkr:k=r.pos:=by
    have h1:¬r.pos<k:=fun e=>by
     have:=(I.eff i r hr hef).2 e;rw[hno]at this;cases this
    rcases fJ k r.pos with h2|h2
    ·exfalso
     have hk:k<s.pts.length:=by have:=(av.1 hp2).1;simp at this;omega
     obtain⟨j,q,hq,hq2,hqk⟩:=G.efx k hk;have hne:i≠j:=fun e=>by subst e;rw[hr]at hq;injection hq with hq;subst hq;omega
     rcases G.efs i j r q hr hq hef hq2 hne with⟨h3,h4⟩|h3
     ·have:=(I.eff j q hq hq2).1 (hanc j h4).1;omega
     ·omega
    ·omega
   have:p1=p:=by have:=I.pk;rw[hkr,hp1]at this;injection this
   subst this;refine Zj hF hs1 hM hLt agrO K Q fun U' w' hst hv=>?_
   have hst':=I.st.then hsub (bD _) hst (G2:=get (Gd als (L.setIfInBounds i true) p2)) fun n x hx=>by
    rcases QE hx with⟨b,hb,hLb,hbm,hbn,hbx⟩|h
    ·right
     rw[hg,ak (fun e=>hnal b hb e.symm)]at hLb
     rw[hmg2,cw]at hbm;have hbm1:b.nm∉p1.mg:=fun e=>hbm (.inl e)
     refine⟨by rw[<-hbn,hbx];exact au6 G hb hLb hbm1,?_⟩
     rw[jl,arO fun c hc hcd hcn=>hbm (.inr (by
      have:c=b:=G.als_ok.inj c hc b hb (by rw[hcn,hbn])
      subst this;unfold iE;rw[List.map_map];exact eH.2 ⟨c,jw.2 ⟨hc,hcd⟩,rfl⟩))]
     rw[<-hbn];exact(G.pt k p1 I.pk b hb hbm1).1
    ·exact .inl h
   refine hK (k+1) p2 _ U' w' (xc G I ho hr hno he (by rw[hkr];exact hp2) hst' (v0 U' hst.ext) (v1 U' hst.ext) hst.le hv (fun j q hq hq2=>?_) (fun b hb hm=>?_))
   ·rw[hg];split
    ·rename_i hij;subst hij;rw[hr]at hq;injection hq with hq
     subst hq;exact⟨fun _=>by omega,fun _=>rfl⟩
    ·rename_i hij;rw[I.eff j q hq hq2];rcases G.efs i j r q hr hq hef hq2 hij with⟨h3,_⟩|h3<;>omega
   ·rw[hmg2,cw]at hm;rw[hg];split
    ·rfl
    ·rcases hm with hm|hm
     ·exact I.mgl b hb hm
     ·unfold iE at hm;rw[List.map_map]at hm;obtain⟨c,hc,hcn⟩:=eH.1 hm;rw[jw]at hc;have:c=b:=G.als_ok.inj c hc.1 b hb hcn;subst this;have:=hc.2;unfold PT at this;rw[ah]at this;exact(hanc _ this.1).1
  |al=>
   rw[hkd]at hfact;obtain⟨b,hb,hbi,hrv⟩:=hfact;have hal:=G.alo b o r hb (by rw[hbi];exact ho) (by rw[hbi];exact hr) k p I.pk fun j q hq hq2=>by
    rw[hbi];refine⟨fun hlt=>?_,fun hge=>?_⟩
    ·cases hb':(ms.getD j 0).testBit i with
     |false=>rfl
     |true=>
      exfalso
      have hLj:=(I.eff j q hq hq2).2 hlt;have hj:j<ops.size:=by have:=(av.1 hq).1;rw[G.rlen]at this;exact this
      have:=(mU G I.down j _ (ca hj) (fun e' he' hb'=>I.down j _ hLj (ca hj) e' he' hb') i hb').1
      rw[hno]at this;cases this
    ·cases hb':(ms.getD i 0).testBit j with
     |false=>rfl
     |true=>
      exfalso
      have:=(I.eff j q hq hq2).1 (hanc j hb').1;omega
   have hnm:=G.als_ok.nm b hb;have hbm:b.nm∉p.mg:=fun e=>by
    have:=I.mgl b hb e;rw[hbi,hno]at this;cases this
   have hbf:b.nm<p.f:=by have:=I.fge;omega
   have hmenE:∀n x,get (Gd als L p) n=some x->x.menB b.nm=false:=fun n x hx=>by
    rcases QE hx with⟨c,hc1,hc2,hc3,hc4,hc5⟩|hc1
    ·rw[hc5];cases hmen:c.x.menB b.nm with
     |false=>rfl
     |true=>
      exfalso
      have hbit:=G.alm c hc1 b hb hmen;obtain⟨oc,hoc,_⟩:=Qd G hc1;have:=(mU G I.down c.j oc hoc (fun e' he' hb'=>I.down c.j oc hc2 hoc e' he' hb') b.j hbit).1
      rw[hbi,hno]at this;cases this
    ·exact(G.pt k p I.pk b hb hbm).2 n x hc1
   have hnone:get (Gd als L p) b.nm=none:=by
    cases hc:get (Gd als L p) b.nm with
    |none=>rfl
    |some x=>
     exfalso
     rcases QE hc with⟨c,hc1,hc2,hc3,hc4,_⟩|hc1
     ·have:c=b:=G.als_ok.inj c hc1 b hb hc4;subst this;rw[hbi,hno]at hc2;cases hc2
     ·rw[(G.pt k p I.pk b hb hbm).1]at hc1;cases hc1
   have hGd:∀n,get (Gd als (L.setIfInBounds i true) p) n=if n=b.nm then some b.x else get (Gd als L p) n:=fun n=>by
    by_cases hn:n=b.nm
    ·rw[ab hn,hn];exact au6 G hb (by rw[hg,ab hbi.symm]) hbm
    ·rw[ak hn];unfold Gd;rw[jl,jl,ahg (q:=fun a=>L.getD a.j false&&!(BX a.nm p.mg)) fun c hc hcn=>by
      rw[hg,ak (fun e=>hn (by
       have:c=b:=aw1 G hc hb (e.symm.trans hbi.symm);rw[<-hcn,this]))]]
   have hmenQ:∀ (j:Nat) (q:C6),s.recs[j]?=some q->L.getD j false=true->q.v.menB b.nm=false:=fun j q hq hj=>by
    cases hmen:q.v.menB b.nm with
    |false=>rfl
    |true=>
     exfalso
     have hne:b.j≠j:=fun e=>by rw[<-e,hbi,hno]at hj;cases hj
     have hbit:=G.men j q hq b hb hne hmen;have hjs:j<ops.size:=by have:=(av.1 hq).1;rw[G.rlen]at this;exact this
     have:=(mU G I.down j _ (ca hjs) (fun e' he' hb'=>I.down j _ hj (ca hjs) e' he' hb') b.j hbit).1
     rw[hbi,hno]at this;cases this
   have heff2:∀ (j:Nat) (q:C6),s.recs[j]?=some q->sj q=true->((L.setIfInBounds i true).getD j false=true↔q.pos<k):=fun j q hq hq2=>by
    rw[hg];split
    ·rename_i hij;subst hij;rw[hr]at hq;injection hq with hq
     subst hq;simp[sj,hkd]at hq2
    ·exact I.eff j q hq hq2
   have hmg2:∀c∈als,c.nm∈p.mg->(L.setIfInBounds i true).getD c.j false=true:=fun c hc hm=>by
    rw[hg];split
    ·rfl
    ·exact I.mgl c hc hm
   unfold ar_ at hal;cases hld:arl o.op with
   |true=>
    rw[hld]at hal;simp only[aP]at hal;unfold aCp at hal;rw[hbi]at hal;generalize hHs:iE als (PT (ms.getD i 0) p.mg)++p.E=Hs at hal hsub hM hLt;split at hal
    ·rename_i q n x Hr f' hop;split at hal
     ·rename_i q' hq';cases hck:(Nat.beq n p.f&&(Nat.beq f' (p.f+1)&&(x.ltB p.f&&!(x.menB b.nm))))with
      |false=>rw[hck]at hal;cases hal
      |true=>
       rw[hck]at hal;simp only[aP,ad,aA]at hal;simp only[ah,d7]at hck;obtain⟨ck1,ck2,ck3,ck4⟩:=hck;have ck1:=af ck1;have ck2:=af ck2;subst ck1;subst ck2;obtain⟨hbv,hbx⟩:=hal;rw[hbx]at ck3 ck4 hop;obtain⟨y,hy⟩:=aBL hld hop rfl;have hHr:Hr=Hs:=(List.cons.inj hy).2;subst hHr;refine D8 (Oi hop hM hLt agrO) K Q fun U' w' hs hv=>?_
       have h1:=I.st.then hsub (bD _) hs (G2:=fun n=>if n=p.f then some b.x else get (Gd als L p) n) fun n z hz=>by
        by_cases hn:n=p.f
        ·rw[ab hn]at hz
         left
         rw[di,ab hn.symm];exact hz
        ·rw[ak hn]at hz;cases hc:get Hr n with
         |none=>exact .inr ⟨hz,rfl⟩
         |some z'=>
          have:=hsub n z' hc;rw[hz]at this
          left
          rw[di,ak (fun e=>hn e.symm),hc]
          exact this.symm
       have hff:f0<=p.f:=by have:=I.fge;omega
       have hst:=Zi h1 hnm.1 hbf hff (by simp) ck3 ck4 (fun n z hz hn=>by
        have hz:(if n=p.f then some b.x else get (Gd als L p) n)=some z:=hz
        rw[ak hn]at hz;have hl:=I.st.lt n z hz;exact⟨hl.1,(fun e=>by rw[e,hnone]at hz;cases hz),hl.2,hmenE n z hz⟩) (G':=get (Gd als (L.setIfInBounds i true) p)) (fun n z hz=>by
        rw[hGd]at hz
        by_cases hn:n=b.nm
        ·rw[ab hn]at hz;exact .inl ⟨hn,(Option.some.inj hz).symm⟩
        ·rw[ak hn]at hz;have hl:=(I.st.lt n z hz).1;exact .inr ⟨hn,by omega,by show(if n=p.f then some b.x else get (Gd als L p) n)=some z;rw[ak (by omega)];exact hz⟩)
       obtain⟨rn1,rn2⟩:=apA (U':=U') hbf hq';have hval:SV.val U' (.r q)=r.v.val (hU U' b.nm (U' p.f)):=by rw[hrv,<-hbv];exact rn1.symm
       rw[hval];exact hK k p _ _ _ (xc G I ho hr hno he I.pk hst (fun u hu=>by rw[SV.val_upd (SV.men_lt (hT0 u hu) hnm.1)];exact v0 U' hs.ext u hu) (fun j q hq hj=>by rw[SV.val_upd (hmenQ j q hq hj)];exact v1 U' hs.ext j q hq hj) (bD _) (by rw[hrv,<-hbv];exact rn2) heff2 hmg2)
     ·cases hal
    ·cases hal
   |false=>
   rw[hld]at hal;simp only[cD]at hal;unfold aCo at hal;split at hal
   ·rename_i c n x f' hop;split at hal
    ·rename_i c' hc';cases hck:(Nat.beq n p.f&&(Nat.beq f' (p.f+1)&&(x.ltB p.f&&(!(x.menB b.nm)&&aw2 x))))with
     |false=>rw[hck]at hal;cases hal
     |true=>
      rw[hck]at hal;simp only[aP,ad,aA]at hal;simp only[ah,d7]at hck;obtain⟨ck1,ck2,ck3,ck4,ck5⟩:=hck;have ck1:=af ck1;have ck2:=af ck2;subst ck1;subst ck2;obtain⟨hbv,hbx⟩:=hal;rw[hbx]at ck3 ck4 ck5 hop;refine D8 (Oi hop (I.st.m.less fun n x h=>by cases h) (fun n x h=>by cases h) agrO) K Q fun U' w' hs hv=>?_
      have hst:=avj I.st hs (G':=get (Gd als (L.setIfInBounds i true) p)) hnm.1 hbf hnone hmenE ck3 ck4 ck5 hGd;obtain⟨rn1,rn2⟩:=al5 (U:=U) (U':=U') hc';have hval:SV.val U' (.c c)=r.v.val (hU U b.nm (U' p.f)):=by rw[hrv,<-hbv];exact rn1.symm
      rw[hval];exact hK k p _ _ _ (xc G I ho hr hno he I.pk hst (fun u hu=>SV.val_upd (SV.men_lt (hT0 u hu) hnm.1)) (fun j q hq hj=>SV.val_upd (hmenQ j q hq hj)) (bD _) (by rw[hrv,<-hbv];exact rn2 _ hbf) heff2 hmg2)
    ·cases hal
   ·cases hal
end
end
section
variable [Sy][Fa][fN]
section
variable {P:Program}{F:gA}{ops:Array Oper}
theorem acO{L:Array Bool}(h:L.toList.count false=0)(i:Nat)(hi:i<L.size):L.getD i false=true:=by
 rw[da,ca hi]
 show L[i]=true
 cases hb:L[i]with
 |true=>rfl
 |false=>
  have:false∈L.toList:=by rw[<-hb];exact List.mem_of_getElem (i:=i) (h:=by simpa using hi) (by simp)
  have:=List.count_pos_iff.2 this;omega
theorem count_set{L:Array Bool}{i n:Nat}(hi:i<L.size)(hf:L.getD i false=false)(h:L.toList.count false<=n+1):(L.setIfInBounds i true).toList.count false<=n:=by
 rw[Array.toList_setIfInBounds,List.count_set (by simpa using hi)]
 have hb:L.toList[i]'(by simpa using hi)=false:=by rw[da,ca hi]at hf;simpa using hf
 rw[hb];have e1:(false==false)=true:=rfl;have e2:(true==false)=false:=rfl;rw[e1,e2,ab rfl,ak (by simp)]
 omega
theorem arQ{T0:List SV}{H0:bt}{f0:Nat}{als:List Al}{ms:List Nat}{s:DS}(G:jx P F ops T0 H0 f0 als ms s)(hF:jK P F)(hT0:∀u∈T0,u.ltB f0=true){θ0:Th}{w0:World}{Q:Exit->Act->World->Prop}
  (hq:∀a U w,uV U s.cur.f s.T a->dA θ0 (get H0) f0 w0 U (get (iE als (fun a=> !(BX a.nm s.cur.mg))++s.cur.E)) s.cur.f w->Q .normal a w):
  ∀ (fuel:Nat) (L:Array Bool) (a:Act) (w:World) (k:Nat) (p:Pt) (U:Th),L.toList.count false<=fuel->aoM ops T0 H0 f0 als s θ0 w0 L k p a U w->wpAny P .any ops Q fuel L a w:=by
 have fin:∀ (L:Array Bool) (a:Act) (w:World) (k:Nat) (p:Pt) (U:Th),aoM ops T0 H0 f0 als s θ0 w0 L k p a U w->(∀i,i<ops.size->L.getD i false=true)->Q .normal a w:=fun L a w k p U I hall=>by
  have hk:k=s.pts.length:=by
   have h1:=(av.1 I.pk).1;simp at h1;rcases fJ k s.pts.length with h2|h2
   ·obtain⟨i,r,hr,he,hp⟩:=G.efx k h2;have:=(I.eff i r hr he).1 (hall i (by have:=(av.1 hr).1;rw[G.rlen]at this;exact this))
    omega
   ·omega
  have hp:p=s.cur:=by have:=I.pk;rw[hk]at this;simpa using this.symm
  subst hp;refine hq a U w ⟨?_,fun t u hu hk=>?_,fun u hu=>?_,I.dfr⟩ ?_
  ·rw[I.tsz,G.fin.1]
  ·rcases G.fin.2 t u hu with⟨q,o,r,hq',ho,hd,hr,hv⟩|⟨h1,h2⟩
   ·rw[b8]at ho;rw[bR]at hr;have htl:=(av.1 hu).1;rw[G.fin.1]at htl;rw[I.tmp1 q o r t ho hr hd (hall q hq') htl,hv]
   ·rw[I.tmp0 t u h1 hk fun j o ho hd=>by
     have hj:=(cP.1 ho).1;exact absurd hd (h2 j o hj (by rw[b8];exact ho))]
  ·obtain⟨t,ht⟩:=dM hu;rcases G.fin.2 t u ht with⟨q,o,r,hq',ho,hd,hr,hv⟩|⟨h1,h2⟩
   ·rw[bR]at hr;rw[hv];exact I.lt1 q r hr (hall q hq')
   ·exact SV.ltB_le (hT0 u (bS h1)) I.st.le
  ·have:Gd als L s.cur=iE als (fun a=> !(BX a.nm s.cur.mg))++s.cur.E:=by
    unfold Gd iE
    congr 2
    refine List.filter_congr fun b hb=>?_
    obtain⟨o,h1,_⟩:=Qd G hb;rw[hall b.j (cP.1 h1).1];rfl
   rw[<-this];exact I.st
 intro fuel
 induction fuel with
 |zero=>
  intro L a w k p U hc I;have hall:∀i,i<ops.size->L.getD i false=true:=fun i hi=>acO (by omega) i (by rw[I.size];exact hi)
  refine⟨?_,fin L a w k p U I hall⟩;unfold Region.ready;rw[List.filter_eq_nil_iff];intro i hi;rw[dv]at hi;have:=hall i hi;rw[da,ca (by rw[I.size];exact hi)]at this
  have h2:L.getD i true=true:=by
   rw[da,ca (by rw[I.size];exact hi)]
   exact this
  rw[h2];simp
 |succ fuel ih=>
  intro L a w k p U hc I;refine⟨fun hnil=>fin L a w k p U I ?_,fun i hi=>?_⟩
  ·intro i
   induction i using Nat.strongRecOn with
   |_ i ihi=>
    intro hi;rcases Bool.eq_false_or_eq_true (L.getD i false)with h|h
    ·exact h
    ·exfalso
     have hmem:i∈Region.ready .any ops L:=by
      unfold Region.ready;rw[jw,dv];refine⟨hi,?_⟩;have h2:L.getD i true=false:=by
       rw[da,ca (by rw[I.size];exact hi)]at h ⊢
       exact h
      rw[h2,ca hi];simp only[Bool.not_false,Bool.true_and,de,dw];rw[Array.all_eq_true_iff_forall_mem];intro e he;cases hb:Region.binds .any e with
      |false=>rfl
      |true=>
       have hlt:=G.edge i _ (ca hi) e he hb;rw[ihi e.on hlt (by omega)]
       rfl
     rw[hnil]at hmem;cases hmem
  ·unfold Region.ready at hi;rw[jw,dv]at hi;obtain⟨hi,h⟩:=hi;rw[ca hi]at h;simp only[de,dw,ah,d7]at h;obtain⟨h1,h2⟩:=h;have hno:L.getD i false=false:=by
    rw[da,ca (by rw[I.size];exact hi)]at h1 ⊢
    exact h1
   refine anA G hF hT0 I (ca hi) hno (fun e he hb=>?_) fun k' p' a' U' w' I'=>ih _ a' w' k' p' U' (count_set (by rw[I.size];exact hi) hno hc) I'
   have:=Array.all_eq_true_iff_forall_mem.1 h2 e he;rw[hb]at this;simpa using this
theorem awQ(hF:jK P F)(hmix:P.follows .mixedOrders=true){id:Nat}{T T':List SV}{H H':bt}{f f':Nat}{U:Th}{a:Act}{w:World}{Q:Exit->Act->World->Prop}(h:akv P F ops T H f=some (T',H',f'))(ht:uV U f T a)(hm:b9 U (get H) w)(hl:ga f (get H))
  (hq:∀a' U' w',uV U' f' T' a'->dA U (get H) f w U' (get H') f' w'->Q .normal a' w'):(Code.region id ops true).wp P Q a w:=by
 obtain⟨als,s,G,rfl,rfl,rfl⟩:=awJ h;refine wp_region_any hmix (arQ G hF ht.lt (θ0:=U) (w0:=w) (fun a' U' w' h1 h2=>hq a' U' w' h1 h2) ops.size _ a _ 0 ⟨H,f+als.length,[]⟩ U (by simp) ?_)
 have hfalse:∀j,(Array.replicate ops.size false).getD j false=false:=fun j=>by
  rw[da,Array.getElem?_replicate];split <;>rfl
 have hgd:Gd als (Array.replicate ops.size false) ⟨H,f+als.length,[]⟩=H:=by
  unfold Gd iE;rw[List.filter_eq_nil_iff.2 fun b hb=>by rw[hfalse];simp]
  ·rfl
 refine⟨by simp,fun i o h1=>(by rw[hfalse]at h1;cases h1),G.p0,fun i r hr he=>(by rw[hfalse];simp),?_,ht.defers,fun j o r d _ _ _ h1=>(by rw[hfalse]at h1;cases h1),fun j r _ h1=>(by rw[hfalse]at h1;cases h1),fun t u hu hk _=>(ht.get hu hk).1,?_,fun b _ hb=>(by cases hb),bD _⟩
 ·rw[ht.size]
 ·rw[hgd];have:=(dA.refl hm hl).drew (w.drawn+1);exact⟨this.m,fun n x hx=>⟨by have:=(hl n x hx).1;show n<f+als.length;omega,SB.ltB_le (hl n x hx).2 (by show f<=f+als.length;omega)⟩,by show f<=f+als.length;omega,this.ext,this.fr,this.sz,this.os,this.tape,this.output,this.nb,this.nz⟩
end
inductive Ex where
 |normal
 |exit (id:Nat)
 |ret
def Ex.out:Ex->Exit
 | .normal=> .normal
 | .exit id=> .exit id
 | .ret=> .ret
abbrev Res:=Option (Ex×List SV×bt×Nat)
def Xe(B:List SV->bt->Nat->Res):Nat->List SV->bt->Nat->Res
 |0,_,_,_=>none
 |n+1,T,H,f=>match B T H f with
  |some (.normal,T',H',f')=>Xe B n T' H' f'
  |r=>r
def oG:Code->Option Nat
 | .region id _ _=>some id
 | .seq x y=>match oG x with
  |some i=>some i
  |none=>oG y
 | .cond _ x y=>match oG x with
  |some i=>some i
  |none=>oG y
 | .block _ x=>oG x
 | .loop x=>oG x
 |_=>none
def AA:Code->Option Nat
 | .loop x=>oG x
 | .cond c x y=>(match oG (.cond c x y)with
  |some i=>some (300000+i)
  |none=>none)
 | .block _ x=>(match oG x with
  |some i=>some (600000+i)
  |none=>none)
 |_=>none
def jV:Code->List Code
 | .seq x y=>jV x++jV y
 | .cond c x y=> .cond c x y::(jV x++jV y)
 | .block i x=> .block i x::jV x
 | .loop x=> .loop x::jV x
 |_=>[]
abbrev sP:=Nat->List SV->bt->Nat->Res
def aqk:sP:=fun _ _ _ _=>none
def acX(L:sP)(x:Code)(T:List SV)(H:bt)(f:Nat):Res:=match AA x with
 |some i=>L i T H f
 |none=>none
def uG(P:Program)(F:gA)(L:sP)(lf:Nat):Code->List SV->bt->Nat->Res
 | .skip,T,H,f=>some (.normal,T,H,f)
 | .label _,T,H,f=>some (.normal,T,H,f)
 | .region _ ops draw,T,H,f=>match(match draw with
   |true=>akv P F ops T H f
   |false=>FN P F ops ops.toList T H f)with
  |some (T',H',f')=>some (.normal,T',H',f')
  |none=>none
 | .seq x y,T,H,f=>match uG P F L lf x T H f with
  |some (.normal,T',H',f')=>uG P F L lf y T' H' f'
  |r=>r
 | .cond c x y,T,H,f=>match acX L (.cond c x y) T H f with
  |some r=>some r
  |none=>match Yq (RF T c)with
   |some true=>uG P F L lf x T H f
   |some false=>uG P F L lf y T H f
   |none=>none
 | .block id x,T,H,f=>match acX L (.block id x) T H f with
  |some r=>some r
  |none=>match uG P F L lf x T H f with
   |some (.exit id',T',H',f')=>bif Nat.beq id' id then some (.normal,T',H',f')else some (.exit id',T',H',f')
   |r=>r
 | .loop x,T,H,f=>match acX L (.loop x) T H f with
  |some r=>some r
  |none=>Xe (uG P F L lf x) lf T H f
 | .exit id,T,H,f=>some (.exit id,T,H,f)
 | .ret,T,H,f=>some (.ret,T,H,f)
 | .rangeFunc ..,_,_,_=>none
 | .scope _,_,_,_=>none
 | .goto _,_,_,_=>none
 | .refuse _,_,_,_=>none
def R8(P:Program)(c:Code)(T:List SV)(H:bt)(f:Nat)(x:Ex)(T':List SV)(H':bt)(f':Nat):Prop:=
 ∀ (U:Th) (a:Act) (w:World) (Q:Exit->Act->World->Prop),uV U f T a->b9 U (get H) w->ga f (get H)->(∀a' U' w',uV U' f' T' a'->dA U (get H) f w U' (get H') f' w'->Q x.out a' w')->c.wp P Q a w
section
variable {P:Program}{F:gA}
theorem JQ{x:Ex}(hx:x≠ .normal){N:Act->World->Prop}{Q:Exit->Act->World->Prop}{a:Act}{w:World}(h:Q x.out a w):Exit.then N Q x.out a w:=by
 cases x with
 |normal=>exact absurd rfl hx
 |exit id=>exact h
 |ret=>exact h
theorem ajM{c:Code}{B:List SV->bt->Nat->Res}(hB:∀T H f x T' H' f',B T H f=some (x,T',H',f')->R8 P c T H f x T' H' f'):
  ∀ (n:Nat) (T:List SV) (H:bt) (f:Nat) (x:Ex) (T':List SV) (H':bt) (f':Nat),Xe B n T H f=some (x,T',H',f')->x≠ .normal/\
   ∀ (U:Th) (a:Act) (w:World) (Q:Exit->Act->World->Prop),uV U f T a->b9 U (get H) w->ga f (get H)->(∀a' U' w',uV U' f' T' a'->dA U (get H) f w U' (get H') f' w'->Q x.out a' w')->Code.rounds P c Q n a w
 |0,T,H,f,x,T',H',f',h=>by cases h
 |n+1,T,H,f,x,T',H',f',h=>by
  simp only[Xe]at h;split at h
  ·rename_i T1 H1 f1 hb;obtain⟨h1,h2⟩:=ajM hB n T1 H1 f1 x T' H' f' h;refine⟨h1,fun U a w Q ht hm hl hq=>?_⟩
   rw[rounds_succ];refine hB T H f _ _ _ _ hb U a w _ ht hm hl fun a1 θ1 w1 ht1 hs1=>?_
   exact h2 θ1 a1 w1 Q ht1 hs1.m hs1.lt fun a' U' w' ht' hs'=>hq a' U' w' ht' (hs1.trans hs')
  ·rename_i r hne;have hx:x≠ .normal:=fun e=>by
    subst e;exact hne T' H' f' h
   refine⟨hx,fun U a w Q ht hm hl hq=>?_⟩
   rw[rounds_succ];exact hB T H f _ _ _ _ h U a w _ ht hm hl fun a1 θ1 w1 ht1 hs1=>JQ hx (hq a1 θ1 w1 ht1 hs1)
def yi(P:Program)(L:sP)(c:Code):Prop:=∀x∈jV c,∀i,AA x=some i->∀T H f e T' H' f',L i T H f=some (e,T',H',f')->R8 P x T H f e T' H' f'
theorem P'{L:sP}{c x:Code}(hL:yi P L c)(hx:x∈jV c){T T':List SV}{H H':bt}{f f':Nat}{e:Ex}(h:acX L x T H f=some (e,T',H',f')):R8 P x T H f e T' H' f':=by
 unfold acX at h;split at h
 ·rename_i i hi;exact hL x hx i hi _ _ _ _ _ _ _ h
 ·cases h
theorem yi.no(c:Code):yi P aqk c:=fun x _ i _ T H f e T' H' f' h=>by cases h
theorem aks(hF:jK P F)(hmix:P.follows .mixedOrders=true){L:sP}{lf:Nat}:∀ (c:Code),yi P L c->∀ (T:List SV) (H:bt) (f:Nat) (x:Ex) (T':List SV) (H':bt) (f':Nat),uG P F L lf c T H f=some (x,T',H',f')->R8 P c T H f x T' H' f':=by
 intro c
 induction c with
 |skip=>intro hL T H f x T' H' f' h U a w Q ht hm hl hq;simp only[uG,ad,aA]at h;obtain⟨rfl,rfl,rfl,rfl⟩:=h;exact wp_skip (hq a U w ht (dA.refl hm hl))
 |label l=>intro hL T H f x T' H' f' h U a w Q ht hm hl hq;simp only[uG,ad,aA]at h;obtain⟨rfl,rfl,rfl,rfl⟩:=h;exact wp_label (hq a U w ht (dA.refl hm hl))
 |region id ops draw=>
  intro hL T H f x T' H' f' h U a w Q ht hm hl hq;simp only[uG]at h;split at h
  ·rename_i T1 H1 f1 hr;simp only[ad,aA]at h;obtain⟨rfl,rfl,rfl,rfl⟩:=h;cases draw with
   |true=>exact awQ hF hmix hr ht hm hl hq
   |false=>exact wp_region_list (alZ hF hr ht hm hl hq)
  ·cases h
 |seq x y ihx ihy=>
  intro hL T H f e T' H' f' h U a w Q ht hm hl hq;simp only[uG]at h;split at h
  ·rename_i T1 H1 f1 hx;refine wp_seq (ihx (fun z hz=>hL z (cq _ hz)) T H f _ _ _ _ hx U a w _ ht hm hl fun a1 θ1 w1 ht1 hs1=>?_)
   exact ihy (fun z hz=>hL z (ci _ hz)) T1 H1 f1 _ _ _ _ h θ1 a1 w1 Q ht1 hs1.m hs1.lt fun a' U' w' ht' hs'=>hq a' U' w' ht' (hs1.trans hs')
  ·rename_i r hne;have hx:e≠ .normal:=fun e'=>by
    subst e';exact hne T' H' f' h
   exact wp_seq (ihx (fun z hz=>hL z (cq _ hz)) T H f _ _ _ _ h U a w _ ht hm hl fun a1 θ1 w1 ht1 hs1=>JQ hx (hq a1 θ1 w1 ht1 hs1))
 |cond c x y ihx ihy=>
  intro hL T H f e T' H' f' h U a w Q ht hm hl hq;simp only[uG]at h;split at h
  ·rename_i r hr;cases h;exact P' hL (bN ..) hr U a w Q ht hm hl hq
  have hev:=fun s hs=>arI (T:=T) (a:=a) (U:=U) (f:=f) (l:=[c]) (fun t u _ hu hk=>ht.get hu hk) c (by simp) s hs
  split at h
  ·rename_i hc;obtain⟨s,hs,hv⟩:=uK hc U;exact wp_cond_true ((hev _ hs).1.trans hv) (ihx (fun z hz=>hL z (aU _ (cq _ hz))) T H f _ _ _ _ h U a w Q ht hm hl hq)
  ·rename_i hc;obtain⟨s,hs,hv⟩:=uK hc U;exact wp_cond_false ((hev _ hs).1.trans hv) (ihy (fun z hz=>hL z (aU _ (ci _ hz))) T H f _ _ _ _ h U a w Q ht hm hl hq)
  ·cases h
 |block id x ih=>
  intro hL T H f e T' H' f' h U a w Q ht hm hl hq;simp only[uG]at h;have ih:=ih fun z hz=>hL z (aU _ hz)
  split at h
  ·rename_i r hr;cases h;exact P' hL (bN ..) hr U a w Q ht hm hl hq
  split at h
  ·rename_i id' T1 H1 f1 hx;cases hid:Nat.beq id' id with
   |true=>
    rw[hid]at h;simp only[aP,ad,aA]at h;obtain⟨rfl,rfl,rfl,rfl⟩:=h;refine wp_block (ih T H f _ _ _ _ hx U a w _ ht hm hl fun a1 θ1 w1 ht1 hs1=>?_)
    show(if id'=id then _ else _)
    rw[ab (af hid)];exact hq a1 θ1 w1 ht1 hs1
   |false=>
    rw[hid]at h;simp only[cD,ad,aA]at h;obtain⟨rfl,rfl,rfl,rfl⟩:=h;refine wp_block (ih T H f _ _ _ _ hx U a w _ ht hm hl fun a1 θ1 w1 ht1 hs1=>?_)
    show(if id'=id then _ else _)
    rw[ak (nN hid)];exact hq a1 θ1 w1 ht1 hs1
  ·rename_i r hne;refine wp_block (ih T H f _ _ _ _ h U a w _ ht hm hl fun a1 θ1 w1 ht1 hs1=>?_)
   have:=hq a1 θ1 w1 ht1 hs1;cases e with
   |normal=>exact this
   |exit id'=>exact absurd h (hne id' T' H' f')
   |ret=>exact this
 |loop x ih=>
  intro hL T H f e T' H' f' h U a w Q ht hm hl hq;simp only[uG]at h;split at h
  ·rename_i r hr;cases h;exact P' hL (bN ..) hr U a w Q ht hm hl hq
  ·exact wp_loop_rounds lf ((ajM (ih (fun z hz=>hL z (aU _ hz))) lf T H f e T' H' f' h).2 U a w Q ht hm hl hq)
 |exit id=>intro hL T H f x T' H' f' h U a w Q ht hm hl hq;simp only[uG,ad,aA]at h;obtain⟨rfl,rfl,rfl,rfl⟩:=h;exact wp_exit (hq a U w ht (dA.refl hm hl))
 |ret=>intro hL T H f x T' H' f' h U a w Q ht hm hl hq;simp only[uG,ad,aA]at h;obtain⟨rfl,rfl,rfl,rfl⟩:=h;exact wp_ret (hq a U w ht (dA.refl hm hl))
 |_=>intro hL T H f x T' H' f' h;simp[uG]at h
def Q3(P:Program)(T:List SV)(H:bt):List ResultVar->Option (List SR)
 | []=>some []
 | .tmp t::r=>match T[t]? with
  |some (.r x)=>match Q3 P T H r with
   |some l=>some (x::l)
   |none=>none
  |_=>none
 | .cell t ty::r=>match abj P H ty T[t]? with
  |some (.r x)=>match Q3 P T H r with
   |some l=>some (x::l)
   |none=>none
  |_=>none
def pA:List SR->SV
 | [x]=> .r x
 |l=> .tup l
theorem apx{U:Th}{f:Nat}{T:List SV}{a:Act}{H:bt}{w:World}(ht:uV U f T a)(hm:b9 U (get H) w)(hl:ga f (get H)):∀ {rs:List ResultVar} {l:List SR},Q3 P T H rs=some l->
  ∀ (g:ResultVar->Sem Value),(∀t,g (.tmp t)=pure (a.tmps.getD t Go.undef))->(∀t ty,g (.cell t ty)=(do loadVar ty (<-asAddr (a.tmps.getD t Go.undef))))->
   ((rs.mapM g:Sem (List Value))).run P w= .ok (l.map (SR.val U)) w/\∀x∈l,x.ltB f=true:=by
 have getD:∀ {t:Nat} {u:SV},T[t]?=some u->u.known=true->a.tmps.getD t Go.undef=u.val U:=fun{t u} h hk=>by
  rw[da,(ht.get h hk).1];rfl
 intro rs
 induction rs with
 |nil=>intro l h g g1 g2;simp only[Q3,ad]at h;subst h;exact⟨rfl,by simp⟩
 |cons q r ih=>
  intro l h g g1 g2;cases q with
  |tmp t=>
   simp only[Q3]at h;split at h
   ·rename_i x hx;split at h
    ·rename_i l' hl';cases h;obtain⟨h1,h2⟩:=ih hl' g g1 g2;refine⟨?_,fun y hy=>?_⟩
     ·rw[List.mapM_cons,g1];simp only[Sem.run_bind,Sem.run_pure,Result.andThen_ok,getD hx rfl,h1];rfl
     ·rcases aS.1 hy with rfl|hy
      ·exact(ht.get hx rfl).2
      ·exact h2 y hy
    ·cases h
   ·cases h
  |cell t ty=>
   simp only[Q3]at h;split at h
   ·rename_i x hx;split at h
    ·rename_i l' hl';cases h;obtain⟨h1,h2⟩:=ih hl' g g1 g2;obtain⟨n,off,he,hr,hv⟩:=abi hx hm hl;refine⟨?_,fun y hy=>?_⟩
     ·rw[List.mapM_cons,g2];simp only[Sem.run_bind,getD he rfl,SV.val,SR.val,SC.val,asAddr,Sem.run_pure,Result.andThen_ok,hr,h1];rfl
     ·rcases aS.1 hy with rfl|hy
      ·exact hv
      ·exact h2 y hy
    ·cases h
   ·cases h
theorem HS{U:Th}{f:Nat}{T:List SV}{a:Act}{H:bt}{w:World}{fn:Func}{l:List SR}(ht:uV U f T a)(hm:b9 U (get H) w)(hl:ga f (get H))(h:Q3 P T H fn.results.toList=some l):(results fn a.tmps).run P w= .ok ((pA l).val U) w/\(pA l).ltB f=true:=by
 have key:=apx ht hm hl h;refine⟨?_,?_⟩
 ·unfold results;rw[Array.mapM_eq_mapM_toList];simp only[Sem.run_bind,Sem.run_map];rw[(key _ (fun _=>rfl) (fun _ _=>rfl)).1]
  simp only[Result.andThen_ok];cases l with
  |nil=>rfl
  |cons x r=>
   cases r with
   |nil=>rfl
   |cons y r=>simp[pA,SV.val]
 ·have h2:=(key (fun| .tmp t=>pure (a.tmps.getD t Go.undef)| .cell t ty=>(do loadVar ty (<-asAddr (a.tmps.getD t Go.undef)))) (fun _=>rfl) (fun _ _=>rfl)).2
  cases l with
  |nil=>rfl
  |cons x r=>
   cases r with
   |nil=>exact h2 x (by simp)
   |cons y r=>exact be.2 h2
def FG:List (Nat×Func)->Nat->Option Func
 | [],_=>none
 |(m,x)::r,n=>bif Nat.beq m n then some x else FG r n
theorem s8{tab:List (Nat×Func)}{n:Nat}{x:Func}(h:FG tab n=some x):(n,x)∈tab:=by
 induction tab with
 |nil=>cases h
 |cons e r ih=>
  obtain⟨m,y⟩:=e;simp only[FG]at h;cases hb:Nat.beq m n with
  |true=>rw[hb]at h;simp only[aP,ad]at h;subst h;rw[af hb];exact bN ..
  |false=>rw[hb]at h;exact aU _ (ih h)
def SR.eqB:SR->SR->Bool
 | .one a,.one b=>SC.eqB a b
 | .agg a,.agg b=>eqAll a b
 |_,_=>false
def Yd:List SR->List SR->Bool
 | [],[]=>true
 |a::r,b::s=>SR.eqB a b&&Yd r s
 |_,_=>false
def SV.same:SV->SV->Bool
 | .r a,.r b=>SR.eqB a b
 | .tup a,.tup b=>Yd a b
 | .unk,.unk=>true
 |_,_=>false
def CN:List SV->List SV->Bool
 | [],[]=>true
 |a::r,b::s=>SV.same a b&&CN r s
 |_,_=>false
theorem SR.eqB_eq{a b:SR}(h:SR.eqB a b=true):a=b:=by
 cases a<;>cases b<;>simp only[SR.eqB,aw]at h
 ·rw[SC.eqB_eq h]
 ·rw[eqAll_eq h]
theorem Va:∀ {a b:List SR},Yd a b=true->a=b
 | [],[],_=>rfl
 | [],_::_,h=>by cases h
 |_::_,[],h=>by cases h
 |a::r,b::s,h=>by
  simp only[Yd,ah]at h;rw[SR.eqB_eq h.1,Va h.2]
theorem QD{a b:SV}(h:SV.same a b=true):a=b:=by
 cases a<;>cases b<;>simp only[SV.same,aw]at h
 ·rw[SR.eqB_eq h]
 ·rw[Va h]
 ·rfl
theorem Hf:∀ {a b:List SV},CN a b=true->a=b
 | [],[],_=>rfl
 | [],_::_,h=>by cases h
 |_::_,[],h=>by cases h
 |a::r,b::s,h=>by
  simp only[CN,ah]at h;rw[QD h.1,Hf h.2]
def arM:Value->Value->Bool
 | .int k x,.int k' y=>decide (k=k')&&decide (x=y)
 |_,_=>false
def Yc:List (Value×SC×Nat)->List (Value×SC×Nat)->Bool
 | [],[]=>true
 |(k,c,b)::r,(k',c',b')::s=>arM k k'&&(SC.eqB c c'&&(Nat.beq b b'&&Yc r s))
 |_,_=>false
def SB.eqB:SB->SB->Bool
 | .cells es e cs,.cells es' e' cs'=>Nat.beq es es'&&(Nat.beq e e'&&eqAll cs cs')
 | .map es c,.map es' c'=>Nat.beq c c'&&Yc es es'
 | .iter m a b,.iter m' a' b'=>Nat.beq m m'&&(Nat.beq a a'&&Nat.beq b b')
 | .row c es e ks L z,.row c' es' e' ks' L' z'=>RZ.eqB z z'&&((c==c')&&(Nat.beq es es'&&(Nat.beq e e'&&(Ty.eqAll ks ks'&&Tm.eqB L L'))))
 | .frz a ks L,.frz a' ks' L'=>(a==a')&&(Ty.eqAll ks ks'&&Tm.eqB L L')
 | .rowL kc e ks L z t q hi,.rowL kc' e' ks' L' z' t' q' hi'=>RZ.eqB z z'&&((kc==kc')&&(Nat.beq e e'&&(Ty.eqAll ks ks'&&(Tm.eqB L L'&&(Tm.eqB t t'&&(Nat.beq q q'&&Tm.eqB hi hi'))))))
 | .mapD ks L z,.mapD ks' L' z'=>RZ.eqB z z'&&(Ty.eqAll ks ks'&&Tm.eqB L L')
 |_,_=>false
theorem arL{a b:Value}(h:arM a b=true):a=b:=by
 unfold arM at h;split at h
 ·simp only[ah,decide_eq_true_eq]at h;rw[h.1,h.2]
 ·cases h
theorem U':∀ {a b:List (Value×SC×Nat)},Yc a b=true->a=b
 | [],[],_=>rfl
 | [],_::_,h=>by cases h
 |_::_,[],h=>by cases h
 |(k,c,x)::r,(k',c',x')::s,h=>by
  simp only[Yc,ah]at h;rw[arL h.1,SC.eqB_eq h.2.1,af h.2.2.1,U' h.2.2.2]
theorem SB.eqB_eq{a b:SB}(h:SB.eqB a b=true):a=b:=by
 cases a<;>cases b<;>simp only[SB.eqB,aw,ah]at h
 ·rw[af h.1,af h.2.1,eqAll_eq h.2.2]
 ·rw[af h.1,U' h.2]
 ·rw[af h.1,af h.2.1,af h.2.2]
 ·rw[RZ.eqB_eq h.1,eq_of_beq h.2.1,af h.2.2.1,af h.2.2.2.1,Ty.eqAll_eq _ _ h.2.2.2.2.1,Tm.eqB_eq h.2.2.2.2.2]
 ·rw[eq_of_beq h.1,Ty.eqAll_eq _ _ h.2.1,Tm.eqB_eq h.2.2]
 ·rw[RZ.eqB_eq h.1,eq_of_beq h.2.1,af h.2.2.1,Ty.eqAll_eq _ _ h.2.2.2.1,Tm.eqB_eq h.2.2.2.2.1,Tm.eqB_eq h.2.2.2.2.2.1,af h.2.2.2.2.2.2.1,Tm.eqB_eq h.2.2.2.2.2.2.2]
 ·rw[RZ.eqB_eq h.1,Ty.eqAll_eq _ _ h.2.1,Tm.eqB_eq h.2.2]
def PQ:bt->bt->Bool
 | [],[]=>true
 |(n,x)::r,(m,y)::s=>Nat.beq n m&&(SB.eqB x y&&PQ r s)
 |_,_=>false
theorem U_:∀ {a b:bt},PQ a b=true->a=b
 | [],[],_=>rfl
 | [],_::_,h=>by cases h
 |_::_,[],h=>by cases h
 |(n,x)::r,(m,y)::s,h=>by
  simp only[PQ,ah]at h;rw[af h.1,SB.eqB_eq h.2.1,U_ h.2.2]
def JS:bt->bt->Bool
 | [],_=>true
 |(n,x)::r,b=>(match get b n with
  |some y=>SB.eqB x y
  |none=>false)&&JS r b
theorem HI:∀ {a b:bt},JS a b=true->∀n x,get a n=some x->get b n=some x
 | [],_,_,n,x,hx=>by cases hx
 |(m,y)::r,b,h,n,x,hx=>by
  simp only[JS,ah]at h;rw[di]at hx;split at hx
  ·rename_i he;subst he;injection hx with hx
   subst hx;have h1:=h.1;split at h1
   ·rename_i z hz;rw[hz,SB.eqB_eq h1]
   ·cases h1
  ·exact HI h.2 n x hx
structure eZ where
 g:Nat
 args:List SV
 H:bt
 f:Nat
 v:SV
 H':bt
 f':Nat
def eW:List eZ->Nat->List SV->bt->Nat->Option (SV×bt×Nat)
 | [],_,_,_,_=>none
 |k::r,g,args,H,f=>bif Nat.beq k.f f&&(Nat.beq k.g g&&(CN k.args args&&PQ k.H H))then some (k.v,k.H',k.f')else eW r g args H f
structure eZ.Ok(P:Program)(k:eZ):Prop where
 enter:∀xs w,(callFunc k.g xs).run P w= .ok (.enter k.g xs) w
 run:∀U w,b9 U (get k.H) w->ga k.f (get k.H)->(∀s∈k.args,s.ltB k.f=true)->
  Calls P k.g (k.args.map (SV.val U)).toArray w fun e w'=>∃U',e= .returned (k.v.val U')/\dA U (get k.H) k.f w U' (get k.H') k.f' w'/\k.v.ltB k.f'=true
theorem Im{ks:List eZ}(hk:∀k∈ks,k.Ok P){g:Nat}{args:List SV}{H:bt}{f:Nat}{r:SV×bt×Nat}(h:eW ks g args H f=some r):eZ.Ok P ⟨g,args,H,f,r.1,r.2.1,r.2.2⟩:=by
 induction ks with
 |nil=>cases h
 |cons k ks ih=>
  simp only[eW]at h;cases hc:(Nat.beq k.f f&&(Nat.beq k.g g&&(CN k.args args&&PQ k.H H)))with
  |false=>rw[hc]at h;exact ih (fun q hq=>hk q (aU _ hq)) h
  |true=>rw[hc]at h;simp only[aP,ad]at h;subst h;simp only[ah]at hc;have:=hk k (bN ..);rw[<-af hc.1,<-af hc.2.1,<-Hf hc.2.2.1,<-U_ hc.2.2.2];exact this
theorem fX{ks:List eZ}(hk:∀k∈ks,k.Ok P):jK P (eW ks):=
 ⟨fun g args H f r h=>(Im hk h).enter,fun g args H f v H' f' h U w hm hl ha=>(Im hk h).run U w hm hl ha⟩
structure aoK where
 g:Nat
 args:List SV
 v:SV
structure aoK.Ok(P:Program)(k:aoK):Prop where
 enter:∀xs w,(callFunc k.g xs).run P w= .ok (.enter k.g xs) w
 lt:k.v.ltB 0=true
 run:∀U w,Below Sy.B Sy.w0 w->Sy.B<=w.heap.size->Calls P k.g (k.args.map (SV.val U)).toArray w fun e w'=>e= .returned (k.v.val U)/\Below w.heap.size w w'
def JW:List aoK->gA
 | [],_,_,_,_=>none
 |k::r,g,args,H,f=>bif Nat.beq k.g g&&CN k.args args then some (k.v,H,f)else JW r g args H f
theorem Bb:∀ {ks:List aoK},(∀k∈ks,k.Ok P)->∀ {g:Nat} {args:List SV} {H:bt} {f:Nat} {r:SV×bt×Nat},JW ks g args H f=some r->aoK.Ok P ⟨g,args,r.1⟩/\r.2=(H,f)
 | [],_,_,_,_,_,_,h=>by cases h
 |k::ks,hk,g,args,H,f,r,h=>by
  simp only[JW]at h;cases hc:(Nat.beq k.g g&&CN k.args args)with
  |false=>rw[hc]at h;exact Bb (fun q hq=>hk q (aU _ hq)) h
  |true=>rw[hc]at h;simp only[aP,ad]at h;subst h;simp only[ah]at hc;have:=hk k (bN ..);rw[<-af hc.1,<-Hf hc.2];exact⟨this,rfl⟩
theorem aeB{U:Th}{G:C3}{f:Nat}{w w':World}(hm:b9 U G w)(hl:ga f G)(h:Below w.heap.size w w'):dA U G f w U G f w':=
 dA.of hm.far (fun n x hx=>(hm.ok n x hx).keep (hl n x hx).1 (hl n x hx).2 (fun _ _=>rfl) (fun b u=>h.block _ ((hm.ok n x hx).uses_lt u)) h.size) hm.inj hl (bD _) (fun _ _=>rfl) (fun b hb _=>h.block b hb) h.size h.os h.tape h.output YU.refl aiu.refl
theorem aJi{ks:List aoK}(hk:∀k∈ks,k.Ok P):jK P (JW ks):=
 ⟨fun g args H f r h=>(Bb hk h).1.enter,fun g args H f v H' f' h U w hm hl ha=>by
  obtain⟨h1,h2⟩:=Bb hk h;simp only[aA]at h2;obtain⟨rfl,rfl⟩:=h2;refine(h1.run U w hm.far.bel hm.far.sz).mono ?_;rintro e w' ⟨rfl,hb⟩;exact⟨U,rfl,aeB hm hl hb,SV.ltB_le h1.lt (ec _)⟩⟩
def afW(E F:gA):gA:=fun g args H f=>match E g args H f with
 |some r=>some r
 |none=>F g args H f
theorem aFe{E F:gA}(hE:jK P E)(hF:jK P F):jK P (afW E F):=by
 refine⟨fun g args H f r h=>?_,fun g args H f v H' f' h=>?_⟩
 ·unfold afW at h;split at h
  ·rename_i q hq;exact hE.enter _ _ _ _ _ hq
  ·exact hF.enter _ _ _ _ _ h
 ·unfold afW at h;split at h
  ·rename_i q hq;cases h;exact hE.run _ _ _ _ _ _ _ hq
  ·exact hF.run _ _ _ _ _ _ _ h
def akt(P:Program)(F:gA)(L:sP)(lf:Nat)(c:Code)(T:List SV)(H:bt)(f:Nat):Res:=match L 999999 T H f with
 |some r=>some r
 |none=>uG P F L lf c T H f
def aiv(P:Program)(L:sP)(c:Code):Prop:=∀T H f e T' H' f',L 999999 T H f=some (e,T',H',f')->R8 P c T H f e T' H' f'
theorem arH(hF:jK P F)(hmix:P.follows .mixedOrders=true){L:sP}{lf:Nat}(c:Code)(hL:yi P L c)(hB:aiv P L c)(T:List SV)(H:bt)(f:Nat)(x:Ex)(T':List SV)(H':bt)(f':Nat)(h:akt P F L lf c T H f=some (x,T',H',f')):R8 P c T H f x T' H' f':=by
 unfold akt at h;split at h
 ·rename_i r hr;cases h;exact hB _ _ _ _ _ _ _ hr
 ·exact aks hF hmix c hL _ _ _ _ _ _ _ h
def P3(P:Program)(tab:List (Nat×Func))(lf:Nat)(E:gA)(L:Nat->sP):Nat->gA
 |0=>E
 |n+1=>fun g args H f=>match E g args H f with
  |some r=>some r
  |none=>match FG tab g with
   |some fn=>match fn.body with
    |some c=>match akt P (P3 P tab lf E L n) (L g) lf c (args++List.replicate (fn.ntmps-args.length) .undef) H f with
     |some (.exit _,_,_,_)=>none
     |some (_,T',H',f')=>match Q3 P T' H' fn.results.toList with
      |some l=>some (pA l,H',f')
      |none=>none
     |none=>none
    |none=>none
   |none=>none
def jm(P:Program)(tab:List (Nat×Func))(lf:Nat)(E:gA)(n:Nat):gA:=P3 P tab lf E (fun _=>aqk) n
structure bG(P:Program)(tab:List (Nat×Func)):Prop where
 func:∀p∈tab,P.funcs[p.1]?=some p.2
 enter:∀p∈tab,∀xs w,(callFunc p.1 xs).run P w= .ok (.enter p.1 xs) w
def au2(P:Program)(tab:List (Nat×Func))(L:Nat->sP):Prop:=∀g fn c,FG tab g=some fn->fn.body=some c->yi P (L g) c/\aiv P (L g) c
theorem acT{tab:List (Nat×Func)}(ht:bG P tab)(hmix:P.follows .mixedOrders=true){lf:Nat}{E:gA}(hE:jK P E){L:Nat->sP}(hL:au2 P tab L):∀n,jK P (P3 P tab lf E L n):=by
 intro n
 induction n with
 |zero=>exact hE
 |succ n ih=>
  refine⟨fun g args H f r h=>?_,fun g args H f v H' f' h U w hm hl hargs=>?_⟩
  ·simp only[P3]at h;split at h
   ·rename_i r' hr';exact hE.enter _ _ _ _ _ hr'
   ·split at h
    ·rename_i fn hfn;exact ht.enter _ (s8 hfn)
    ·cases h
  ·simp only[P3]at h;split at h
   ·rename_i r' hr';cases h;exact hE.run _ _ _ _ _ _ _ hr' U w hm hl hargs
   split at h
   ·rename_i fn hfn;split at h
    ·rename_i c hc;have key:∀x T1 H1 f1,x=Ex.normal\/x=Ex.ret->akt P (P3 P tab lf E L n) (L g) lf c (args++List.replicate (fn.ntmps-args.length) .undef) H f=some (x,T1,H1,f1)->∀l,Q3 P T1 H1 fn.results.toList=some l->v=pA l->H'=H1->f'=f1->
       Calls P g (args.map (SV.val U)).toArray w fun e w'=>∃U',e= .returned (v.val U')/\dA U (get H) f w U' (get H') f' w'/\v.ltB f'=true:=fun x T1 H1 f1 hx he l hres hv hH hf=>by
      subst hv;subst hH;subst hf;refine calls_of_wp (ht.func _ (s8 hfn)) hc ?_;refine arH ih hmix c (hL g fn c hfn hc).1 (hL g fn c hfn hc).2 _ H f x T1 _ _ he U _ w _ ⟨?_,fun t s hs hk=>?_,fun s hs=>?_,rfl⟩ hm hl fun a' U' w' ht' hs'=>?_
      ·simp
      ·have e:((args.map (SV.val U)).toArray++Array.replicate (fn.ntmps-(args.map (SV.val U)).toArray.size) Go.undef)=((args++List.replicate (fn.ntmps-args.length) SV.undef).map (SV.val U)).toArray:=by
        apply Array.ext';simp[SV.val,Go.undef]
       show((args.map (SV.val U)).toArray++Array.replicate (fn.ntmps-(args.map (SV.val U)).toArray.size) Go.undef)[t]?=_
       rw[e,eF,aM,hs];rfl
      ·rcases cw.1 hs with hs|hs
       ·exact hargs s hs
       ·rw[(List.mem_replicate.1 hs).2];rfl
      ·obtain⟨r1,r2⟩:=HS ht' hs'.m hs'.lt hres;have hfin:bodyPost P fn (fun e w'=>∃U',e= .returned ((pA l).val U')/\dA U (get H) f w U' (get H') f' w'/\(pA l).ltB f'=true) .normal a' w':=
        ⟨ht'.defers,_,r1,U',rfl,hs',r2⟩
       rcases hx with rfl|rfl
       ·exact hfin
       ·exact hfin
     split at h
     ·cases h
     ·rename_i x T1 H1 f1 hne he;split at h
      ·rename_i l hres;simp only[ad,aA]at h;obtain⟨rfl,rfl,rfl⟩:=h;refine key x T1 H1 f1 ?_ he l hres rfl rfl rfl;cases x with
       |normal=>exact .inl rfl
       |exit id=>exact absurd rfl (hne id)
       |ret=>exact .inr rfl
      ·cases h
     ·cases h
    ·cases h
   ·cases h
theorem ia{tab:List (Nat×Func)}(ht:bG P tab)(hmix:P.follows .mixedOrders=true){lf:Nat}{E:gA}(hE:jK P E)(n:Nat):jK P (jm P tab lf E n):=
 acT ht hmix hE (fun g fn c _ _=>⟨yi.no c,fun T H f e T' H' f' h=>by cases h⟩) n
def fB(F:gA)(k:eZ):Bool:=match F k.g k.args k.H k.f with
 |some (v,H',f')=>SV.same v k.v&&(Nat.beq f' k.f'&&JS k.H' H')
 |none=>false
theorem fY{F:gA}(hF:jK P F){k:eZ}(h:fB F k=true):k.Ok P:=by
 unfold fB at h;split at h
 ·rename_i v H' f' hr;simp only[ah]at h;obtain⟨h1,h2,h4⟩:=h;have e1:=QD h1;have e2:=af h2;subst e1;subst e2;refine⟨fun xs w=>hF.enter _ _ _ _ _ hr xs w,fun U w hm hl ha=>(hF.run _ _ _ _ _ _ _ hr U w hm hl ha).mono ?_⟩
  rintro e w' ⟨U',he,hs,hv⟩;exact⟨U',he,hs.less (HI h4),hv⟩
 ·cases h
end
end
inductive Sh where
 |one (t:Ty)
 |agg (ts:List Ty)
 |ptr
def Sh.tys:Sh->List Ty
 | .one t=>[t]
 | .agg ts=>ts
 | .ptr=>[]
def cz:List Sh->List Ty
 | []=>[]
 |s::r=>s.tys++cz r
structure dO where
 args:List Sh
 io:List Ty:=[]
 ioT:Nat:=0
 outs:List Sh
 rw:Bool:=false
def dO.ins(σ:dO):List Ty:=cz σ.args++σ.io
def d9(p:Value):List Sh->List VT->List Value
 | [],_=>[]
 | .one _::r,xs=>(xs.headD .no).v::d9 p r (xs.drop 1)
 | .agg ts::r,xs=> .agg ((xs.take ts.length).map VT.v).toArray::d9 p r (xs.drop ts.length)
 | .ptr::r,xs=>p::d9 p r xs
def amF:List Value->Value
 | [x]=>x
 |l=> .tuple l.toArray
structure C2(w:World)(z:Nat->Prop)(ts:List Ty)(xs:List VT)(ds:List PD):Prop where
 lx:xs.length=ts.length
 ld:ds.length=ts.length
 rep:∀j t,ts[j]?=some t->qX w z t (xs.getD j .no) (ds.getD j (.i 0))
def au5(t:Ty)(x:Value)(d r:PD)(u:Value):Prop:=match t with
 | .lst _=>u=x/\r=d
 |t=>nU t r=some u
structure Post(w:World)(σ:dO)(xs:List VT)(ds:List PD)(bo oo:Nat)(rs:List PD)(ys:List VT)(z':Nat->Prop)(w':World):Prop where
 reps:C2 w' z' (cz σ.outs) ys (rs.take (cz σ.outs).length)
 fresh:∀b,z' b->w.heap.size<=b/\b<w'.heap.size
 io:σ.io≠[]->∃arr',w'.heap[bo]?=some (.cells arr' σ.ioT (0,0))/\∀j t,σ.io[j]?=some t->∃u,arr'[oo+j]?=some u/\au5 t (xs.getD ((cz σ.args).length+j) .no).v (ds.getD ((cz σ.args).length+j) (.i 0)) (rs.getD ((cz σ.outs).length+j) (.i 0)) u
 fr:∀b,b<w.heap.size->(σ.io=[]\/b≠bo)->w'.heap[b]?=w.heap[b]?
 sz:w.heap.size<=w'.heap.size
 os:w'.os=w.os
 tape:w'.tape=w.tape
 output:w'.output=w.output
structure aFd(w w':World)(b:Option Nat):Prop where
 fr:∀c,c<w.heap.size->b≠some c->w'.heap[c]?=w.heap[c]?
 sz:w.heap.size<=w'.heap.size
 os:w'.os=w.os
 tape:w'.tape=w.tape
 output:w'.output=w.output
structure aA_(P:Program)(g:Nat)(φ:List PD->Option (List PD)):Prop where
 nil:∀w rs,φ [.l []]=some rs->Calls P g #[.slice none 0 0] w fun en w'=>en= .returned (.tuple #[])/\rs=[.l []]/\aFd w w' none
 row:∀ (w:World) (b off c:Nat) (e:TypeId) (arr:Array Value) (xs:List Int) (rs:List PD),w.heap[b]?=some (.cells arr e (0,0))->(∀j x,xs[j]?=some x->arr[off+j]?=some (.int .i64 x))->xs.length<=1000000->φ [.l (xs.map .i)]=some rs->
  Calls P g #[.slice (some ⟨b,off,none⟩) xs.length c] w fun en w'=>en= .returned (.tuple #[])/\∃ys:List Int,rs=[.l (ys.map .i)]/\ys.length=xs.length/\aFd w w' (some b)/\
   ∃arr',w'.heap[b]?=some (.cells arr' e (0,0))/\arr'.size=arr.size/\(∀j y,ys[j]?=some y->arr'[off+j]?=some (.int .i64 y))/\∀j,(j<off\/off+xs.length<=j)->arr'[j]?=arr[j]?
structure Aq(P:Program)(g:Nat)(σ:dO)(φ:List PD->Option (List PD)):Prop where
 enter:∀xs w,(callFunc g xs).run P w= .ok (.enter g xs) w
 run:σ.rw=false->∀ (w:World) (z:Nat->Prop) (xs:List VT) (ds:List PD) (bo oo:Nat) (arr:Array Value) (rs:List PD),(∀b,z b->b<w.heap.size)->¬z bo->C2 w z σ.ins xs ds->
  (σ.io≠[]->w.heap[bo]?=some (.cells arr σ.ioT (0,0))/\∀j,j<σ.io.length->arr[oo+j]?=some (xs.getD ((cz σ.args).length+j) .no).v)->
  φ ds=some rs->
  Calls P g (d9 (.pointer (some ⟨bo,oo,none⟩)) σ.args xs).toArray w fun en w'=>∃ys z',en= .returned (amF (d9 .nilFunc σ.outs ys))/\Post w σ xs ds bo oo rs ys z' w'
 rwr:σ.rw=true->aA_ P g φ
theorem Aq.mono{P:Program}{g:Nat}{σ:dO}{φ ψ:List PD->Option (List PD)}(h:Aq P g σ φ)(hψ:∀ds rs,ψ ds=some rs->φ ds=some rs):Aq P g σ ψ:=
 ⟨h.enter,fun h0 w z xs ds bo oo arr rs h1 h2 h3 h4 h5=>h.run h0 w z xs ds bo oo arr rs h1 h2 h3 h4 (hψ ds rs h5),fun h0=>⟨fun w rs h1=>(h.rwr h0).nil w rs (hψ _ _ h1),fun w b off c e arr xs rs h1 h2 h3 h4=>(h.rwr h0).row w b off c e arr xs rs h1 h2 h3 (hψ _ _ h4)⟩⟩
structure QG where
 g:Nat
 σ:dO
 ins:List Tm
 m:Nat
def og(t:Ty)(f m:Nat):SC:=match t with
 | .int k=> .sym k (.sym m)
 | .bool=> .bq (.tru (.sym m))
 | .lst _=> .dat f .root
def ir:List Ty->Nat->Nat->List SC
 | [],_,_=>[]
 |t::r,f,m=>og t f m::ir r (f+1) (m+1)
def lS:List Sh->Nat->Nat->List SR
 | [],_,_=>[]
 | .one t::r,f,m=> .one (og t f m)::lS r (f+1) (m+1)
 | .agg ts::r,f,m=> .agg (ir ts f m)::lS r (f+ts.length) (m+ts.length)
 | .ptr::r,f,m=>lS r f m
def lZ(fr:Bool):List Ty->Nat->Nat->bt
 | [],_,_=>[]
 | .lst tys::r,f,m=>(f,.frz fr tys (.ds m))::lZ fr r (f+1) (m+1)
 |_::r,f,m=>lZ fr r (f+1) (m+1)
def lX:List Ty->Nat->List SC->List SC
 |t::r,m,c::cs=>(match t with
  | .lst _=>c
  |t=>og t 0 m)::lX r (m+1) cs
 |_,_,_=>[]
section
variable [Sy][Fa][fN]
theorem qN{fr:Bool}:∀ {ts:List Ty} {f m n:Nat} {x:SB},get (lZ fr ts f m) n=some x->∃i tys,ts[i]?=some (.lst tys)/\n=f+i/\x= .frz fr tys (.ds (m+i))
 | [],f,m,n,x,h=>by cases h
 |t::r,f,m,n,x,h=>by
  have rest:get (lZ fr r (f+1) (m+1)) n=some x->∃i tys,(t::r)[i]?=some (.lst tys)/\n=f+i/\x= .frz fr tys (.ds (m+i)):=fun h=>by
   obtain⟨i,tys,h1,h2,h3⟩:=qN h;exact⟨i+1,tys,by rw[bk];exact h1,by omega,by rw[h3];congr 2;omega⟩
  cases t with
  |lst tys=>
   rw[lZ,di]at h;split at h
   ·rename_i he;cases h;exact⟨0,tys,rfl,by omega,rfl⟩
   ·exact rest h
  |int k=>exact rest h
  |bool=>exact rest h
def xe(H:bt)(fl:Nat):List Ty->List SC->Option (List Tm×List Nat)
 | [],[]=>some ([],[])
 |t::ts,c::cs=>match u0 H fl t c with
  |some (m,ns)=>match xe H fl ts cs with
   |some (l,ns')=>some (m::l,ns++ns')
   |none=>none
  |none=>none
 |_,_=>none
def fV(H:bt)(fl:Nat):List Sh->List SV->Option (List Tm×List Nat×Option Nat)
 | [],[]=>some ([],[],none)
 | .one t::r,.r (.one c)::vs=>match u0 H fl t c with
  |some (m,ns)=>match fV H fl r vs with
   |some (l,ns',q)=>some (m::l,ns++ns',q)
   |none=>none
  |none=>none
 | .agg ts::r,.r (.agg cs)::vs=>match xe H fl ts cs with
  |some (a,ns)=>match fV H fl r vs with
   |some (l,ns',q)=>some (a++l,ns++ns',q)
   |none=>none
  |none=>none
 | .ptr::r,.r (.one (.ptr q 0))::vs=>match fV H fl r vs with
  |some (l,ns,none)=>some (l,ns,some q)
  |_=>none
 |_,_=>none
def xJ:List Tm->List Tm->Bool
 | [],[]=>true
 |a::r,b::s=>Tm.eqB a b&&xJ r s
 |_,_=>false
theorem sr:∀ {a b:List Tm},xJ a b=true->a=b
 | [],[],_=>rfl
 | [],_::_,h=>by cases h
 |_::_,[],h=>by cases h
 |a::r,b::s,h=>by
  simp only[xJ,ah]at h;rw[Tm.eqB_eq h.1,sr h.2]
def T4:List Sh->Bool
 | []=>true
 | .ptr::_=>false
 |_::r=>T4 r
def aiW(a:QG)(g:Nat)(args:List SV)(H:bt)(f:Nat):Option (SV×bt×Nat):=match args with
 | [.r (.one (.osl n 1 (.lit 0) hi))]=>match get H n with
  |some (.row kc 1 e [.int .i64] L z)=>bif Nat.beq a.g g&&(Tm.eqB hi (B_ L 1)&&(oX hi (.lit 1000000)&&(z.k.isNone&&(xJ a.ins [L]&&(Ty.eqAll a.σ.ins [.lst [.int .i64]]&&Nat.blt 0 (cz a.σ.outs).length)))))then
    some (.tup [],put H n (.row kc 1 e [.int .i64] (.spl L (.lit 0) (.ds a.m)) z),f)else none
  |_=>none
 |_=>none
def Yw(fl:Nat)(a:QG)(g:Nat)(args:List SV)(H:bt)(f:Nat):Option (SV×bt×Nat):=bif a.σ.rw then aiW a g args H f else bif Nat.beq a.g g&&T4 a.σ.outs then(match fV H fl a.σ.args args with
  |some (l,_,none)=>(match a.σ.io with
   | []=>bif xJ a.ins l then some (pA (lS a.σ.outs f a.m),lZ true (cz a.σ.outs) f a.m++H,f+(cz a.σ.outs).length)else none
   |_=>none)
  |some (l,ns,some q)=>(match get H q with
    |some (.cells es e cs)=>(match xe H fl a.σ.io cs with
     |some (l2,ns2)=>bif xJ a.ins (l++l2)&&(!(rA q (ns++ns2))&&(Nat.blt 0 cs.length&&(Nat.beq es 0&&Nat.beq e a.σ.ioT)))then some (pA (lS a.σ.outs f a.m),lZ true (cz a.σ.outs) f a.m++put H q (.cells es e (lX a.σ.io (a.m+(cz a.σ.outs).length) cs)),f+(cz a.σ.outs).length)else none
     |none=>none)
    |_=>none)
  |none=>none)else none
def ar8(fl:Nat):List QG->gA
 | [],_,_,_,_=>none
 |a::r,g,args,H,f=>match Yw fl a g args H f with
  |some x=>some x
  |none=>ar8 fl r g args H f
structure QG.Ok(P:Program)(a:QG):Prop where
 ok:∃φ rs,Aq P a.g a.σ φ/\φ (List.zipWith Tm.at a.σ.ins a.ins)=some rs/\∀i,i<(cz a.σ.outs).length+a.σ.io.length->Sy.p (a.m+i)=rs.getD i (.i 0)/\Sy.n (a.m+i)=(rs.getD i (.i 0)).n
section
variable {P:Program}{U:Th}{H:bt}{f:Nat}{w:World}
theorem aqv{n:Nat}:∀ {l:List Nat},rA n l=true↔n∈l:=by
 intro l;constructor
 ·exact Ov
 ·intro h
  induction l with
  |nil=>cases h
  |cons m r ih=>
   simp only[rA,eQ];rcases aS.1 h with rfl|h
   ·exact .inl (lz rfl)
   ·exact .inr (ih h)
theorem GO(hm:b9 U (get H) w){fl:Nat}:∀ {ts:List Ty} {cs:List SC} {ms:List Tm} {ns:List Nat},xe H fl ts cs=some (ms,ns)->∃xs:List VT,xs.map VT.v=cs.map (SC.val U)/\cs.length=ts.length/\ms.length=ts.length/\C2 w (Zn U H ns) ts xs (List.zipWith Tm.at ts ms)
 | [],[],ms,ns,h=>by
  simp only[xe,ad,aA]at h;obtain⟨rfl,rfl⟩:=h;exact⟨[],rfl,rfl,rfl,rfl,rfl,fun j t hj=>by simp at hj⟩
 | [],_::_,ms,ns,h=>by simp[xe]at h
 |_::_,[],ms,ns,h=>by simp[xe]at h
 |t::ts,c::cs,ms,ns,h=>by
  simp only[xe]at h;split at h
  ·rename_i m n1 hr;split at h
   ·rename_i l n2 hl;simp only[ad,aA]at h;obtain⟨rfl,rfl⟩:=h;obtain⟨vt,v1,v2⟩:=m_ hm _ _ _ _ _ hr;obtain⟨xs,h1,h2,h3,h4,h5,h6⟩:=GO hm hl;refine⟨vt::xs,by simp[h1,v1],by simp[h2],by simp[h3],by simp[h4],by simp[h3],fun j t' hj=>?_⟩
    cases j with
    |zero=>simp only[bn,ad]at hj;subst hj;exact v2.keep (fun b _=>rfl) (Zn.more fun q hq=>cq _ hq)
    |succ j=>rw[bk]at hj;exact(h6 j t' hj).keep (fun b _=>rfl) (Zn.more fun q hq=>ci _ hq)
   ·cases h
  ·cases h
theorem C2.keep{w w':World}{z z':Nat->Prop}{ts:List Ty}{xs:List VT}{ds:List PD}(h:C2 w z ts xs ds)(hb:∀b,z b->w'.heap[b]?=w.heap[b]?)(hz:∀b,z b->z' b):C2 w' z' ts xs ds:=
 ⟨h.lx,h.ld,fun j t hj=>(h.rep j t hj).keep hb hz⟩
theorem C2.append{z:Nat->Prop}{ts us:List Ty}{xs ys:List VT}{ds es:List PD}(h1:C2 w z ts xs ds)(h2:C2 w z us ys es):C2 w z (ts++us) (xs++ys) (ds++es):=by
 refine⟨by rw[ba,ba,h1.lx,h2.lx],by rw[ba,ba,h1.ld,h2.ld],fun j t hj=>?_⟩
 rw[gq]at hj;have g1:=h1.lx;have g2:=h1.ld;split at hj
 ·rename_i hlt;have:=h1.rep j t hj;rw[ae,ae,bl (by omega),bl (by omega),<-ae,<-ae]
  exact this
 ·rename_i hlt;have:=h2.rep _ t hj;rw[ae,ae,bA (by omega),bA (by omega),<-ae,<-ae,g1,g2]
  exact this
theorem uX{ts us:List Ty}{a b:List Tm}(h:ts.length=a.length):List.zipWith Tm.at (ts++us) (a++b)=List.zipWith Tm.at ts a++List.zipWith Tm.at us b:=List.zipWith_append h
theorem jt{p:Value}:∀ {sh:List Sh} {xs ys:List VT},xs.length=(cz sh).length->d9 p sh (xs++ys)=d9 p sh xs
 | [],xs,ys,h=>rfl
 | .one t::r,xs,ys,h=>by
  cases xs with
  |nil=>simp[cz,Sh.tys]at h
  |cons x xs=>simp only[d9,aZ,List.headD_cons,List.drop_succ_cons,eO];rw[jt (by simp[cz,Sh.tys]at h;omega)]
 | .agg ts::r,xs,ys,h=>by
  simp only[cz,Sh.tys,ba]at h;simp only[d9];rw[List.take_append_of_le_length (by omega),List.drop_append_of_le_length (by omega),jt (by rw[cJ];omega)]
 | .ptr::r,xs,ys,h=>by
  simp only[d9];rw[jt (by simpa[cz,Sh.tys]using h)]
theorem mF(hm:b9 U (get H) w){fl:Nat}:∀ {sh:List Sh} {vs:List SV} {ms:List Tm} {ns:List Nat} {q:Option Nat},fV H fl sh vs=some (ms,ns,q)->∃xs:List VT,ms.length=(cz sh).length/\C2 w (Zn U H ns) (cz sh) xs (List.zipWith Tm.at (cz sh) ms)/\
  (∀p,(∀n,q=some n->p= .pointer (some (U.addr n 0)))->d9 p sh xs=vs.map (SV.val U))
 | [],[],ms,ns,q,h=>by
  simp only[fV,ad,aA]at h;obtain⟨rfl,rfl,rfl⟩:=h;exact⟨[],rfl,⟨rfl,rfl,fun j t hj=>by simp[cz]at hj⟩,fun p _=>rfl⟩
 | [],_::_,ms,ns,q,h=>by simp[fV]at h
 | .one t::r,[],ms,ns,q,h=>by simp[fV]at h
 | .agg t::r,[],ms,ns,q,h=>by simp[fV]at h
 | .ptr::r,[],ms,ns,q,h=>by simp[fV]at h
 | .one t::r,v::vs,ms,ns,q,h=>by
  obtain⟨c,rfl⟩:∃c,v= .r (.one c):=by
   cases v with
   |r x=>cases x with
    |one c=>exact⟨c,rfl⟩
    |agg l=>simp[fV]at h
   |_=>simp[fV]at h
  simp only[fV]at h;split at h
  ·rename_i m n1 hr;split at h
   ·rename_i l n2 q' hl;simp only[ad,aA]at h;obtain⟨rfl,rfl,rfl⟩:=h;obtain⟨vt,v1,v2⟩:=m_ hm _ _ _ _ _ hr;obtain⟨xs,g1,g2,g3⟩:=mF hm hl;have hone:C2 w (Zn U H n1) [t] [vt] (List.zipWith Tm.at [t] [m]):=⟨rfl,rfl,fun j t' hj=>by
     cases j with
     |zero=>simp only[bn,ad]at hj;subst hj;exact v2
     |succ j=>simp at hj⟩
    refine⟨vt::xs,by simp[cz,Sh.tys,g1],?_,fun p hp=>?_⟩
    ·exact(hone.keep (fun b _=>rfl) (Zn.more fun q hq=>cq _ hq)).append (g2.keep (fun b _=>rfl) (Zn.more fun q hq=>ci _ hq))
    ·simp only[d9,List.headD_cons,List.drop_succ_cons,eO,cL,v1,g3 p hp];rfl
   ·cases h
  ·cases h
 | .agg ts::r,v::vs,ms,ns,q,h=>by
  obtain⟨cs,rfl⟩:∃c,v= .r (.agg c):=by
   cases v with
   |r x=>cases x with
    |one c=>simp[fV]at h
    |agg l=>exact⟨l,rfl⟩
   |_=>simp[fV]at h
  simp only[fV]at h;split at h
  ·rename_i a n1 hr;split at h
   ·rename_i l n2 q' hl;simp only[ad,aA]at h;obtain⟨rfl,rfl,rfl⟩:=h;obtain⟨ys,v1,v2,v3,v4⟩:=GO hm hr;obtain⟨xs,g1,g2,g3⟩:=mF hm hl;refine⟨ys++xs,by simp[cz,Sh.tys,g1,v3],?_,fun p hp=>?_⟩
    ·show C2 w _ (ts++cz r) _ (List.zipWith Tm.at (ts++cz r) (a++l))
     rw[uX v3.symm];exact(v4.keep (fun b _=>rfl) (Zn.more fun q hq=>cq _ hq)).append (g2.keep (fun b _=>rfl) (Zn.more fun q hq=>ci _ hq))
    ·have hl:=v4.lx;simp only[d9];rw[<-hl,List.take_left',List.drop_left',g3 p hp,v1]
     ·rfl
     ·rfl
     ·rfl
   ·cases h
  ·cases h
 | .ptr::r,v::vs,ms,ns,q,h=>by
  obtain⟨q',rfl⟩:∃c,v= .r (.one (.ptr c 0)):=by
   cases v with
   |r x=>cases x with
    |one c=>cases c with
     |ptr n o=>cases o with
      |zero=>exact⟨n,rfl⟩
      |succ o=>simp[fV]at h
     |_=>simp[fV]at h
    |agg l=>simp[fV]at h
   |_=>simp[fV]at h
  simp only[fV]at h;split at h
  ·rename_i l n1 hl;simp only[ad,aA]at h;obtain⟨rfl,rfl,rfl⟩:=h;obtain⟨xs,g1,g2,g3⟩:=mF hm hl;refine⟨xs,by simpa[cz,Sh.tys]using g1,by simpa[cz,Sh.tys]using g2,fun p hp=>?_⟩
   simp only[d9,cL];rw[g3 p (fun n hn=>by cases hn),hp q' rfl]
   rfl
  ·cases h
theorem wH{z:Nat->Prop}{t:Ty}{y:VT}{d:PD}{U:Th}{f m:Nat}(h:qX w z t y d)(h1:(U f).x.t=y)(h2:Sy.n m=d.n):(og t f m).val U=y.v:=by
 cases t with
 |int k=>rw[Wg h];show Value.int k (Sy.n m)=_;rw[h2]
 |bool=>rw[Ll h];show Value.bool (decide (Sy.n m≠0))=_;rw[h2]
 |lst tys=>show xY (U f).x.t.v=_;rw[h1];exact yF h
theorem BV(t:Ty){f m g:Nat}(h:f<g):(og t f m).ltB g=true:=by cases t<;>simp[og,SC.ltB,h]
theorem sn{α:Type}(l:List α)(d:α)(j:Nat):(l.drop 1).getD j d=l.getD (j+1) d:=by rw[ae,b_,ae,kv]
theorem ut{α:Type}(l:List α)(d:α)(k j:Nat):(l.drop k).getD j d=l.getD (k+j) d:=by rw[ae,b_,ae]
theorem oe{z:Nat->Prop}{U:Th}:∀ {ts:List Ty} {ys:List VT} {ds:List PD} {f m:Nat},ys.length=ts.length->(∀j t,ts[j]?=some t->qX w z t (ys.getD j .no) (ds.getD j (.i 0))/\(U (f+j)).x.t=ys.getD j .no/\Sy.n (m+j)=(ds.getD j (.i 0)).n)->(ir ts f m).map (SC.val U)=ys.map VT.v
 | [],ys,ds,f,m,hl,h=>by
  have:ys=[]:=dx hl;subst this;rfl
 |t::ts,[],ds,f,m,hl,h=>by simp at hl
 |t::ts,y::ys,ds,f,m,hl,h=>by
  obtain⟨h1,h2,h3⟩:=h 0 t rfl;have:=oe (U:=U) (ts:=ts) (ys:=ys) (ds:=ds.drop 1) (f:=f+1) (m:=m+1) (by simpa using hl) (fun j t' hj=>by
   obtain⟨g1,g2,g3⟩:=h (j+1) t' (by rw[bk];exact hj)
   rw[iM]at g1 g2;rw[sn,jq,cT f,jq,cT m];exact⟨g1,g2,g3⟩)
  simp only[ir,cL,this];have e:=wH (U:=U) (f:=f) (m:=m) h1 h2 h3;rw[e];rfl
theorem Og{z:Nat->Prop}{U:Th}{p:Value}:∀ {sh:List Sh} {ys:List VT} {ds:List PD} {f m:Nat},T4 sh=true->ys.length=(cz sh).length->(∀j t,(cz sh)[j]?=some t->qX w z t (ys.getD j .no) (ds.getD j (.i 0))/\(U (f+j)).x.t=ys.getD j .no/\Sy.n (m+j)=(ds.getD j (.i 0)).n)->(lS sh f m).map (SR.val U)=d9 p sh ys
 | [],ys,ds,f,m,hn,hl,h=>rfl
 | .ptr::r,ys,ds,f,m,hn,hl,h=>by cases hn
 | .one t::r,ys,ds,f,m,hn,hl,h=>by
  have hl':ys.length=(cz r).length+1:=by rw[hl];simp[cz,Sh.tys]
  obtain⟨h1,h2,h3⟩:=h 0 t rfl;have:=Og (U:=U) (p:=p) (sh:=r) (ys:=ys.drop 1) (ds:=ds.drop 1) (f:=f+1) (m:=m+1) hn (by rw[cJ];omega) (fun j t' hj=>by
   obtain⟨g1,g2,g3⟩:=h (j+1) t' (by show([t]++cz r)[j+1]?=_;rw[List.singleton_append,bk];exact hj)
   rw[sn,sn,jq,cT f,jq,cT m];exact⟨g1,g2,g3⟩)
  simp only[lS,d9,cL,this];have e:ys.headD .no=ys.getD 0 .no:=by cases ys<;>rfl
  rw[e];have e2:=wH (U:=U) (f:=f) (m:=m) h1 h2 h3;rw[<-e2];rfl
 | .agg ts::r,ys,ds,f,m,hn,hl,h=>by
  have hl':ys.length=ts.length+(cz r).length:=by rw[hl];simp[cz,Sh.tys]
  have hin:∀ (j:Nat) (t:Ty),ts[j]?=some t->(cz (.agg ts::r))[j]?=some t:=fun j t hj=>by
   show(ts++cz r)[j]?=_
   rw[bl (av.1 hj).1];exact hj
  have h1:=oe (U:=U) (z:=z) (w:=w) (ts:=ts) (ys:=ys.take ts.length) (ds:=ds) (f:=f) (m:=m) (by rw[bu];omega) (fun j t hj=>by
   obtain⟨g1,g2,g3⟩:=h j t (hin j t hj);have:(ys.take ts.length).getD j .no=ys.getD j .no:=by rw[ae,bX,ab (av.1 hj).1,<-ae]
   rw[this];exact⟨g1,g2,g3⟩)
  have h2:=Og (U:=U) (p:=p) (z:=z) (sh:=r) (ys:=ys.drop ts.length) (ds:=ds.drop ts.length) (f:=f+ts.length) (m:=m+ts.length) hn (by rw[cJ];omega) (fun j t' hj=>by
   obtain⟨g1,g2,g3⟩:=h (ts.length+j) t' (by show(ts++cz r)[ts.length+j]?=_;rw[bA (by omega),cN];exact hj)
   rw[ut,ut,cT f,cT m];exact⟨g1,g2,g3⟩)
  simp only[lS,d9,cL,h2]
  show Value.agg ((ir ts f m).map (SC.val U)).toArray::_=_
  rw[h1]
theorem qG:∀ {ts:List Ty} {f m g:Nat},f+ts.length<=g->(ir ts f m).all (SC.ltB g)=true
 | [],f,m,g,h=>rfl
 |t::ts,f,m,g,h=>by
  simp only[cj]at h;simp only[ir,jD,ah];exact⟨BV t (by omega),qG (by omega)⟩
theorem zf:∀ {sh:List Sh} {f m g:Nat},f+(cz sh).length<=g->(lS sh f m).all (SR.ltB g)=true
 | [],f,m,g,h=>rfl
 | .ptr::r,f,m,g,h=>by simp only[lS];exact zf (by simpa[cz,Sh.tys]using h)
 | .one t::r,f,m,g,h=>by
  simp only[cz,Sh.tys,ba,cj,dr]at h;simp only[lS,jD,ah];exact⟨BV t (by omega),zf (by omega)⟩
 | .agg ts::r,f,m,g,h=>by
  simp only[cz,Sh.tys,ba]at h;simp only[lS,jD,ah];exact⟨qG (by omega),zf (by omega)⟩
theorem T3{l:List SR}{U:Th}:(pA l).val U=amF (l.map (SR.val U)):=by
 cases l with
 |nil=>rfl
 |cons a r=>cases r with
  |nil=>rfl
  |cons b r=>rfl
theorem aqh{l:List SR}{g:Nat}(h:l.all (SR.ltB g)=true):(pA l).ltB g=true:=by
 cases l with
 |nil=>rfl
 |cons a r=>cases r with
  |nil=>simpa[pA,SV.ltB]using h
  |cons b r=>exact h
theorem Vn{σ:dO}{xs:List VT}{ds:List PD}{bo oo:Nat}{rs:List PD}{ys:List VT}{z':Nat->Prop}{w':World}{m:Nat}(hm:b9 U (get H) w)(hl:ga f (get H))(hp:Post w σ xs ds bo oo rs ys z' w')(hsy:∀i,i<(cz σ.outs).length->Sy.p (m+i)=rs.getD i (.i 0)){H2:bt}
  (h2:∀n x,get H2 n=some x->(∃y,get H n=some y/\(∀b,fc U n x b↔fc U n y b)/\(gG U n x↔gG U n y))/\x.ltB f=true/\∀U',(∀k,k<f->U' k=U k)->ek U' w' n x)
  (hbo:σ.io=[]\/∃q y,get H q=some y/\gG U q y/\(U q).b=bo):
  dA U (get H) f w (fun n=>if n<f then U n else⟨0,0,0,⟨false,ys.getD (n-f) .no,z'⟩⟩) (get (lZ true (cz σ.outs) f m++H2)) (f+(cz σ.outs).length) w':=by
 generalize hθ:(fun n=>if n<f then U n else(⟨0,0,0,⟨false,ys.getD (n-f) .no,z'⟩⟩:VP))=U'
 have e1:∀n,n<f->U' n=U n:=fun n hn=>by rw[<-hθ];simp[hn]
 have e2:∀i,U' (f+i)=⟨0,0,0,⟨false,ys.getD i .no,z'⟩⟩:=fun i=>by rw[<-hθ];show(if f+i<f then _ else _)=_;rw[ak (by omega),cN]
 have hcase:∀n x,get (lZ true (cz σ.outs) f m++H2) n=some x->(∃i tys,(cz σ.outs)[i]?=some (.lst tys)/\n=f+i/\x= .frz true tys (.ds (m+i)))\/get H2 n=some x:=fun n x h=>by
  rw[jl]at h;split at h
  ·rename_i y hy;cases h;exact .inl (qN hy)
  ·exact .inr h
 have hold:∀n x,get H2 n=some x->∃y,get H n=some y/\(∀b,fc U' n x b↔fc U n y b)/\(gG U' n x↔gG U n y)/\n<f:=fun n x h=>by
  obtain⟨⟨y,hy,hu,ho⟩,hxlt,_⟩:=h2 n x h;have hn:=(hl n y hy).1;have hen:=e1 n hn;refine⟨y,hy,fun b=>?_,?_,hn⟩
  ·rw[fc.ext ⟨hn,hxlt⟩ e1];exact hu b
  ·rw[gG.ext hen];exact ho
 refine dA.of hm.far (fun n x hx=>?_) (fun n k x y b hx hy hne o u=>?_) (fun n x hx=>?_) (Nat.le_add_right _ _) e1 (fun b hb hno=>?_) hp.sz hp.os hp.tape hp.output (fun n x hx o=>?_) (fun n x b hx o=>?_)
 ·rcases hcase n x hx with⟨i,tys,h1,rfl,rfl⟩|h
  ·have hil:=(av.1 h1).1;have:=hp.reps.rep i _ h1;refine⟨?_,fun b hb=>?_⟩
   ·rw[e2 i]
    show qX w' z' (.lst tys) (ys.getD i .no) (Sy.p (m+i))
    rw[hsy i hil];have e3:(rs.take (cz σ.outs).length).getD i (.i 0)=rs.getD i (.i 0):=by rw[ae,bX,ab hil,<-ae]
    rw[<-e3];exact this
   ·rw[e2 i]at hb;exact⟨(hp.fresh b hb).2,fun _=> .inl (dB hm.far.fs (hp.fresh b hb).1)⟩
  ·exact(h2 n x h).2.2 U' e1
 ·rcases hcase n x hx with⟨i,tys,h1,rfl,rfl⟩|h
  ·exact o.elim
  ·obtain⟨x',hx',_,ho',hn⟩:=hold n x h;rw[e1 n hn];have o':=ho'.1 o;have hlt:=(hm.ok n x' hx').lt o';rcases hcase k y hy with⟨i,tys,h1,rfl,rfl⟩|h'
   ·rcases u with⟨u,_⟩|u
    ·exact u.elim
    ·have:z' b:=by rw[Zb,e2 i]at u;exact u
     have:=(hp.fresh b this).1;omega
   ·obtain⟨y',hy',hu',_,_⟩:=hold k y h';exact hm.inj n k x' y' b hx' hy' hne o' ((hu' b).1 u)
 ·rcases hcase n x hx with⟨i,tys,h1,rfl,rfl⟩|h
  ·exact⟨by have:=(av.1 h1).1;omega,rfl⟩
  ·obtain⟨x',hx',_,_,hn⟩:=hold n x h;exact⟨by omega,SB.ltB_le (h2 n x h).2.1 (Nat.le_add_right _ _)⟩
 ·refine hp.fr b hb ?_;rcases hbo with h|⟨q,y,hq,oq,hb'⟩
  ·exact .inl h
  ·exact .inr fun e=>hno q y hq oq (by rw[hb',e])
 ·rcases hcase n x hx with⟨i,tys,h1,rfl,rfl⟩|h
  ·exact o.elim
  ·obtain⟨x',hx',_,ho',hn⟩:=hold n x h;exact .inl ⟨n,x',hx',ho'.1 o,by rw[e1 n hn]⟩
 ·rcases hcase n x hx with⟨i,tys,h1,rfl,rfl⟩|h
  ·have:z' b:=by rw[Zb,e2 i]at o;exact o
   exact .inr (hp.fresh b this).1
  ·obtain⟨x',hx',hu',_,hn⟩:=hold n x h;exact .inl ⟨n,x',hx',(hu' b).1 (.inr o)⟩
theorem O':∀ {io:List Ty} {m:Nat} {cs:List SC},cs.length=io.length->(lX io m cs).length=cs.length
 | [],m,[],h=>rfl
 | [],m,_::_,h=>by simp at h
 |_::_,m,[],h=>by simp at h
 |t::r,m,c::cs,h=>by simp only[lX,cj];rw[O' (by simpa using h)]
theorem xa:∀ {io:List Ty} {m:Nat} {cs:List SC} {j:Nat} {c':SC},(lX io m cs)[j]?=some c'->∃t c,io[j]?=some t/\cs[j]?=some c/\c'=(match t with| .lst _=>c|t=>og t 0 (m+j))
 | [],m,cs,j,c',h=>by simp[lX]at h
 |_::_,m,[],j,c',h=>by simp[lX]at h
 |t::r,m,c::cs,j,c',h=>by
  simp only[lX]at h;cases j with
  |zero=>simp only[bn,ad]at h;exact⟨t,c,rfl,rfl,h.symm⟩
  |succ j=>
   rw[bk]at h;obtain⟨t',c2,h1,h2,h3⟩:=xa h;refine⟨t',c2,by rw[bk];exact h1,by rw[bk];exact h2,?_⟩
   rw[h3,cT,kv 1 j]
theorem UB{t:Ty}{m:Nat}{r:PD}{u:Value}(h:nU t r=some u)(hn:Sy.n m=r.n)(U:Th):(og t 0 m).val U=u:=by
 cases t with
 |int k=>cases r with
  |i x=>simp only[nU,ad]at h;subst h;show Value.int k (Sy.n m)=_;rw[hn];rfl
  |l xs=>cases h
 |bool=>cases r with
  |i x=>simp only[nU,ad]at h;subst h;show Value.bool (decide (Sy.n m≠0))=_;rw[hn];rfl
  |l xs=>cases h
 |lst tys=>cases r<;>cases h
theorem Sj{w':World}{n:Nat}{x y:SB}{ob:Option Nat}(hm:b9 U (get H) w)(hl:ga f (get H))(hn:get H n=some x)(ho:gG U n y->gG U n x)(hz:∀b,Zb U n y b->Zb U n x b)(hb:ek U w' n y)(hy:y.ltB f=true)(hg:aFd w w' ob)
  (hob:∀b,ob=some b->gG U n x/\(U n).b=b):dA U (get H) f w U (get (put H n y)) f w':=by
 have hcase:∀k x',get (put H n y) k=some x'->(k=n/\x'=y)\/(k≠n/\get H k=some x'):=fun k x' hx=>by
  rw[ur]at hx;split at hx
  ·rename_i e';subst e';rw[hn]at hx;simp at hx;exact .inl ⟨rfl,hx.symm⟩
  ·rename_i e';exact .inr ⟨fun e2=>e' e2.symm,hx⟩
 have hu:∀b,fc U n y b->fc U n x b:=fun b hu=>by
  rcases hu with⟨h1,h2⟩|h1
  ·exact .inl ⟨ho h1,h2⟩
  ·exact .inr (hz b h1)
 refine dA.of hm.far (fun k x' hx=>?_) (fun k m x' y' b hx hy' hne o u=>?_) (fun k x' hx=>?_) (bD _) (fun _ _=>rfl) (fun b hb' hno=>hg.fr b hb' fun e=>?_) hg.sz hg.os hg.tape hg.output (fun k x' hx o=>?_) (fun k x' b hx o=>?_)
 ·rcases hcase k x' hx with⟨rfl,rfl⟩|⟨hne,hx⟩
  ·exact hb
  ·refine(hm.ok k x' hx).keep (hl k x' hx).1 (hl k x' hx).2 (fun _ _=>rfl) (fun b hu'=>hg.fr b ((hm.ok k x' hx).uses_lt hu') fun e=>?_) hg.sz
   obtain⟨o1,o2⟩:=hob b e;exact hm.inj n k x x' b hn hx (Ne.symm hne) o1 hu' o2
 ·have hx':∃x'',get H k=some x''/\gG U k x'':=by
   rcases hcase k x' hx with⟨rfl,rfl⟩|⟨_,hx⟩
   ·exact⟨_,hn,ho o⟩
   ·exact⟨x',hx,o⟩
  have hy'':∃y'',get H m=some y''/\fc U m y'' b:=by
   rcases hcase m y' hy' with⟨rfl,rfl⟩|⟨_,hy'⟩
   ·exact⟨_,hn,hu b u⟩
   ·exact⟨y',hy',u⟩
  obtain⟨x1,x2,x3⟩:=hx';obtain⟨y1,y2,y3⟩:=hy'';exact hm.inj k m x1 y1 b x2 y2 hne x3 y3
 ·rcases hcase k x' hx with⟨rfl,rfl⟩|⟨_,hx⟩
  ·exact⟨(hl k _ hn).1,hy⟩
  ·exact hl k x' hx
 ·obtain⟨o1,o2⟩:=hob b e;exact hno n x hn o1 o2
 ·rcases hcase k x' hx with⟨rfl,rfl⟩|⟨_,hx⟩
  ·exact .inl ⟨k,_,hn,ho o,rfl⟩
  ·exact .inl ⟨k,x',hx,o,rfl⟩
 ·rcases hcase k x' hx with⟨rfl,rfl⟩|⟨_,hx⟩
  ·exact .inl ⟨k,_,hn,.inr (hz b o)⟩
  ·exact .inl ⟨k,x',hx,.inr o⟩
theorem apq{a:QG}(ha:a.Ok P)(hrw:a.σ.rw=true){g:Nat}{args:List SV}{f':Nat}{v:SV}{H':bt}(h:aiW a g args H f=some (v,H',f'))(hm:b9 U (get H) w)(hl:ga f (get H)):
  Calls P g (args.map (SV.val U)).toArray w fun e w'=>∃U',e= .returned (v.val U')/\dA U (get H) f w U' (get H') f' w'/\v.ltB f'=true:=by
 obtain⟨φ,rs,hfn,hφ,hsy⟩:=ha.ok;unfold aiW at h;split at h
 ·rename_i n hi;split at h
  ·rename_i kc e L z hn;cases hc:(Nat.beq a.g g&&(Tm.eqB hi (B_ L 1)&&(oX hi (.lit 1000000)&&(z.k.isNone&&(xJ a.ins [L]&&(Ty.eqAll a.σ.ins [.lst [.int .i64]]&&Nat.blt 0 (cz a.σ.outs).length))))))with
   |false=>rw[hc]at h;cases h
   |true=>
    rw[hc]at h;simp only[aP,ad,aA]at h;obtain⟨rfl,rfl,rfl⟩:=h;simp only[ah]at hc;obtain⟨c1,c2,c3,c4,c5,c6,c7⟩:=hc;have c1:=af c1;subst c1;have c2:=Tm.eqB_eq c2;have c3:hi.den<=1000000:=gj c3;have c5:=sr c5;have c6:=Ty.eqAll_eq _ _ c6;rw[bT]at c7;have hzk:z.k=none:=by
     cases hk:z.k with
     |none=>rfl
     |some k=>rw[hk]at c4;cases c4
    have hz0:∀b,cu U z b->False:=fun b hb=>by unfold cu at hb;rw[hzk]at hb;exact hb
    have hhi:hi.den=(L.pd.q.length:Int):=by rw[c2,oh,lL]
    have hnat:hi.nat=L.pd.q.length:=by show Int.toNat hi.den=_;rw[hhi];exact au _
    rw[c5,c6]at hφ;have hφ:φ [.l L.pd.q]=some rs:=hφ;have hm0:Sy.p a.m=rs.getD 0 (.i 0):=by have:=(hsy 0 (by omega)).1;rwa [ch]at this
    have hb:=hm.ok n _ hn;have hlt:=JL (es:=1) (x:= .row kc 1 e [.int .i64] L z) rfl (hl n _ hn).2;have hR:=hfn.rwr hrw;obtain⟨hb1,hbz⟩:=hb;rcases hb1 with⟨g1,g2,g3⟩|⟨g1,arr,g2,g3,g4⟩
    ·
     have harg:SV.val U (.r (.one (.osl n 1 (.lit 0) hi)))= .slice none 0 0:=by
      show fA (U.row n) _ hi.nat 1=_
      rw[hnat,g2];simp[Th.row,g1,fA,Tm.nat,Tm.pd]
     show Calls P a.g #[SV.val U (.r (.one (.osl n 1 (.lit 0) hi)))] w _
     rw[harg];rw[g2]at hφ;refine(hR.nil w rs hφ).mono ?_;rintro en w' ⟨rfl,rfl,hg⟩;have hspl:(Tm.spl L (.lit 0) (.ds a.m)).pd.q=[]:=by
      show((L.pd.q.take _++(Sy.p a.m).q++L.pd.q.drop _).take L.pd.q.length)=[]
      rw[g2];rfl
     exact⟨U,rfl,Sj hm hl hn (fun o=>o) (fun b hb=>hb) ⟨.inl ⟨g1,hspl,g3⟩,fun b hb=>(hz0 b hb).elim⟩ hlt hg (fun b hb=>by cases hb),rfl⟩
    ·
     have hcell:∀j,j<L.pd.q.length->L.pd.q.getD j (.i 0)= .i (L.pd.q.getD j (.i 0)).n/\arr[(U n).sh+j]?=some (.int .i64 (L.pd.q.getD j (.i 0)).n):=fun j hj=>by
      obtain⟨t,u,q1,q2,q3⟩:=g3 j hj;rw[gn]at q1;cases q1;obtain⟨x,x1,x2⟩:=q2;generalize L.pd.q.getD j (.i 0)=d at x2 ⊢;cases x2 with
      |int k y us=>exact⟨rfl,by rw[q3,<-x1];rfl⟩
     have hxs:L.pd.q=(L.pd.q.map PD.n).map PD.i:=by
      apply cF;intro j;rcases fJ j L.pd.q.length with hj|hj
      ·have:=(hcell j hj).1;rw[ae,aj hj]at this;rw[aM,aM,aj hj];exact congrArg some this
      ·rw[bp hj,bp (by simpa using hj)]
     have hargs:SV.val U (.r (.one (.osl n 1 (.lit 0) hi)))= .slice (some ⟨(U n).b,(U n).sh,none⟩) (L.pd.q.map PD.n).length ((U n).cap):=by
      show fA (U.row n) _ hi.nat 1=_
      rw[hnat];simp only[Th.row,g1,cD,fA,bO];have:(Tm.lit 0).nat=0:=rfl;rw[this];simp only[dc,dX,de,Th.addr,ch];split <;>simp[Addr.add]
     show Calls P a.g #[SV.val U (.r (.one (.osl n 1 (.lit 0) hi)))] w _
     rw[hargs];rw[hxs]at hφ;refine(hR.row w (U n).b (U n).sh (U n).cap e arr (L.pd.q.map PD.n) rs g2 (fun j x hx=>?_) (by rw[bO];omega) hφ).mono ?_
     ·rw[aM]at hx;obtain⟨d,hd,rfl⟩:=cA.1 hx;have hj:=(av.1 hd).1;have:=(hcell j hj).2
      rwa [ae,hd]at this
     rintro en w' ⟨rfl,ys,rfl,hyl,hg,arr',p1,p2,p3,p4⟩;rw[bO]at hyl p4;have hm1:(Sy.p a.m).q=ys.map PD.i:=by rw[hm0];rfl
     have hspl:(Tm.spl L (.lit 0) (.ds a.m)).pd.q=ys.map PD.i:=by
      show((L.pd.q.take 0++(Sy.p a.m).q++L.pd.q.drop (0+(Sy.p a.m).q.length)).take L.pd.q.length)=_
      rw[hm1,List.take_zero,bg,bO,bR,hyl,List.drop_length,List.append_nil];exact cf (by simp;omega)
     refine⟨U,rfl,Sj hm hl hn (fun o=>o) (fun b hb=>hb) ⟨.inr ⟨g1,arr',p1,fun j hj=>?_,fun hk=>?_⟩,fun b hb=>(hz0 b hb).elim⟩ hlt hg (fun b hb=>⟨g1,by cases hb;rfl⟩),rfl⟩
     ·rw[hspl,bO]at hj;refine⟨.int .i64,_,by rw[gn];rfl,.of (u:= .int .i64 (ys[j])) ?_,p3 j _ (aj hj)⟩
      rw[hspl,ae,aM,aj hj];rfl
     ·obtain⟨k1,k2,k3,m,k4,k5⟩:=g4 hk;exact⟨k1,by rw[p2];exact k2,k3,m,by rw[hspl,bO,hyl];exact k4,k5⟩
  ·cases h
 ·cases h
theorem anS{fl:Nat}{a:QG}(ha:a.Ok P){g:Nat}{args:List SV}{f':Nat}{v:SV}{H':bt}(h:Yw fl a g args H f=some (v,H',f'))(hm:b9 U (get H) w)(hl:ga f (get H)):
  Calls P g (args.map (SV.val U)).toArray w fun e w'=>∃U',e= .returned (v.val U')/\dA U (get H) f w U' (get H') f' w'/\v.ltB f'=true:=by
 obtain⟨φ,rs,hfn,hφ,hsy⟩:=ha.ok;unfold Yw at h;cases hrw:a.σ.rw with
 |true=>rw[hrw]at h;exact apq ha hrw h hm hl
 |false=>
 rw[hrw]at h;simp only[cD]at h;cases hc0:(Nat.beq a.g g&&T4 a.σ.outs)with
 |false=>rw[hc0]at h;cases h
 |true=>
  rw[hc0]at h;simp only[aP]at h;rw[ah]at hc0;have hg:=af hc0.1;subst hg;have hsyo:∀i,i<(cz a.σ.outs).length->Sy.p (a.m+i)=rs.getD i (.i 0):=fun i hi=>(hsy i (by omega)).1
  have hval:∀ (ys:List VT) (z':Nat->Prop) (w':World) (xs:List VT) (ds:List PD) (bo oo:Nat),Post w a.σ xs ds bo oo rs ys z' w'->(pA (lS a.σ.outs f a.m)).val (fun n=>if n<f then U n else⟨0,0,0,⟨false,ys.getD (n-f) .no,z'⟩⟩)=amF (d9 .nilFunc a.σ.outs ys):=fun ys z' w' xs ds bo oo hp=>by
   rw[T3]
   congr 1
   refine Og (w:=w') (z:=z') (ds:=rs.take (cz a.σ.outs).length) hc0.2 hp.reps.lx fun j t hj=>?_
   have hjl:=(av.1 hj).1;refine⟨hp.reps.rep j t hj,?_,?_⟩
   ·show(if f+j<f then _ else _:VP).x.t=_
    rw[ak (by omega),cN]
   ·rw[(hsy j (by omega)).2,ae,ae,bX,ab hjl]
  have hvlt:(pA (lS a.σ.outs f a.m)).ltB (f+(cz a.σ.outs).length)=true:=aqh (zf (bD _));split at h
  ·rename_i l ns hargs;split at h
   ·rename_i hio;cases hc:xJ a.ins l with
    |false=>rw[hc]at h;cases h
    |true=>
     rw[hc]at h;simp only[aP,ad,aA]at h;obtain⟨rfl,rfl,rfl⟩:=h;have hc:=sr hc;obtain⟨xs,g1,g2,g3⟩:=mF hm hargs;have hins:a.σ.ins=cz a.σ.args:=by unfold dO.ins;rw[hio,List.append_nil]
     rw[hins,hc]at hφ;have hz:∀b,Zn U H ns b->b<w.heap.size:=fun b ⟨n,_,x,hx,hu⟩=>(hm.ok n x hx).uses_lt hu
     have hcall:=hfn.run hrw w (Zn U H ns) xs _ w.heap.size 0 #[] rs hz (fun hb=>absurd (hz _ hb) (Nat.lt_irrefl _)) (by rw[hins];exact g2) (fun hne=>absurd hio hne) hφ
     rw[g3 _ (fun n hn=>by cases hn)]at hcall
     refine hcall.mono ?_;rintro en w' ⟨ys,z',rfl,hp⟩;refine⟨_,?_,Vn (m:=a.m) hm hl hp hsyo (H2:=H) (fun n x hx=>⟨⟨x,hx,fun b=>Iff.rfl,Iff.rfl⟩,(hl n x hx).2,fun U' he=>(hm.ok n x hx).keep (hl n x hx).1 (hl n x hx).2 he (fun b hu=>hp.fr b ((hm.ok n x hx).uses_lt hu) (.inl hio)) hp.sz⟩) (.inl hio),hvlt⟩
     rw[hval ys z' w' _ _ _ _ hp]
   ·cases h
  ·rename_i l ns q hargs;split at h
   ·rename_i es e cs hq;split at h
    ·rename_i l2 ns2 hio2;cases hc:(xJ a.ins (l++l2)&&(!(rA q (ns++ns2))&&(Nat.blt 0 cs.length&&(Nat.beq es 0&&Nat.beq e a.σ.ioT))))with
     |false=>rw[hc]at h;cases h
     |true=>
      rw[hc]at h;simp only[aP,ad,aA]at h;obtain⟨rfl,rfl,rfl⟩:=h;simp only[ah,d7]at hc;obtain⟨c1,c2,c3,c4,c5⟩:=hc;have c1:=sr c1;have c4:=af c4;have c5:=af c5;subst c5;rw[bT]at c3;have c2:q∉ns++ns2:=fun hm'=>by rw[aqv.2 hm']at c2;cases c2
      obtain⟨xs,g1,g2,g3⟩:=mF hm hargs;obtain⟨ys2,k1,k2,k3,k4⟩:=GO hm hio2;obtain⟨h0,arr,b1,b2,b3⟩:=hm.ok q _ hq;have hz:∀b,Zn U H (ns++ns2) b->b<w.heap.size:=fun b ⟨n,_,x,hx,hu⟩=>(hm.ok n x hx).uses_lt hu
      have hnz:¬Zn U H (ns++ns2) (U q).b:=fun⟨n,hn,x,hx,hu⟩=>hm.inj q n _ x _ hq hx (fun e'=>c2 (by rw[e'];exact hn)) trivial hu rfl
      have hreps:C2 w (Zn U H (ns++ns2)) a.σ.ins (xs++ys2) (List.zipWith Tm.at a.σ.ins a.ins):=by unfold dO.ins;rw[c1,uX g1.symm];exact(g2.keep (fun b _=>rfl) (Zn.more fun q hq=>cq _ hq)).append (k4.keep (fun b _=>rfl) (Zn.more fun q hq=>ci _ hq))
      have hxl:=g2.lx;have hcell:∀j,j<a.σ.io.length->arr[(U q).sh+j]?=some ((xs++ys2).getD ((cz a.σ.args).length+j) .no).v:=fun j hj=>by
       have hc':cs[j]?=some (cs[j]'(by omega)):=aj _
       rw[b2 j _ hc',ae,bA (by omega),hxl,cN]
       have hy:(ys2.map VT.v)[j]?=some ((cs[j]'(by omega)).val U):=by rw[k1,aM,hc'];rfl
       rw[aM]at hy;obtain⟨y,hy1,hy2⟩:=cA.1 hy;rw[hy1,<-hy2];rfl
      have hcall:=hfn.run hrw w (Zn U H (ns++ns2)) (xs++ys2) _ (U q).b (U q).sh arr rs hz hnz hreps (fun _=>⟨b1,hcell⟩) hφ
      rw[jt hxl,g3 _ (fun n hn=>by cases hn;show Value.pointer (some ⟨_,_,_⟩)=Value.pointer (some ⟨(U q).b,(U q).sh+0,none⟩);rw[ch])]at hcall
      refine hcall.mono ?_;rintro en w' ⟨ys,z',rfl,hp⟩;have hne:a.σ.io≠[]:=fun e'=>by rw[e']at k2;rw[k2]at c3;simp at c3
      obtain⟨arr',p1,p2⟩:=hp.io hne;have hHq:∀n x,get (put H q (.cells es a.σ.ioT (lX a.σ.io (a.m+(cz a.σ.outs).length) cs))) n=some x->(n=q/\x= .cells es a.σ.ioT (lX a.σ.io (a.m+(cz a.σ.outs).length) cs))\/(n≠q/\get H n=some x):=fun n x hx=>by
       rw[ur]at hx;split at hx
       ·rename_i e';subst e';rw[hq]at hx;simp at hx;exact .inl ⟨rfl,hx.symm⟩
       ·rename_i e';exact .inr ⟨fun e2=>e' e2.symm,hx⟩
      refine⟨_,?_,Vn (m:=a.m) hm hl hp hsyo (fun n x hx=>?_) (.inr ⟨q,_,hq,trivial,rfl⟩),hvlt⟩
      ·rw[hval ys z' w' _ _ _ _ hp]
      ·rcases hHq n x hx with⟨rfl,rfl⟩|⟨hnq,hx⟩
       ·have hlt:(lX a.σ.io (a.m+(cz a.σ.outs).length) cs).all (SC.ltB f)=true:=be.2 fun c' hc'=>by
         obtain⟨j,hj⟩:=dM hc';obtain⟨t,c,t1,t2,rfl⟩:=xa hj;have hcl:=be.1 (hl n _ hq).2 c (bS t2);cases t with
         |lst _=>exact hcl
         |int k=>rfl
         |bool=>rfl
        refine⟨⟨_,hq,fun b=>Iff.rfl,Iff.rfl⟩,hlt,fun U' he=>?_⟩
        have hqf:=(hl n _ hq).1;refine⟨by rw[he n hqf];exact h0,arr',by rw[he n hqf];exact p1,fun j c' hj=>?_,?_⟩
        ·obtain⟨t,c,t1,t2,hc'⟩:=xa hj;obtain⟨u,u1,u2⟩:=p2 j t t1;rw[he n hqf,u1]
         congr 1
         have hjl:=(av.1 t1).1;rw[hc'];cases t with
         |lst _=>have e1:u=_:=u2.1;have e2:=hcell j hjl;rw[b2 j c t2]at e2;rw[e1];have e3:=Option.some.inj e2;rw[<-e3,SC.val_ext (be.1 (hl n _ hq).2 c (bS t2)) he]
         |int k=>exact(UB (t:= .int k) u2 (by rw[cT];exact(hsy _ (by omega)).2) U').symm
         |bool=>exact(UB (t:= .bool) u2 (by rw[cT];exact(hsy _ (by omega)).2) U').symm
        ·exact .inl c4
       ·refine⟨⟨x,hx,fun b=>Iff.rfl,Iff.rfl⟩,(hl n x hx).2,fun U' he=>(hm.ok n x hx).keep (hl n x hx).1 (hl n x hx).2 he (fun b hu=>hp.fr b ((hm.ok n x hx).uses_lt hu) (.inr fun e'=>hm.inj q n _ x b hq hx (Ne.symm hnq) trivial hu e'.symm)) hp.sz⟩
    ·cases h
   ·cases h
  ·cases h
theorem aCm{fl:Nat}{l:List QG}(hl:∀a∈l,a.Ok P):jK P (ar8 fl l):=by
 refine⟨fun g args H f r h=>?_,fun g args H f v H' f' h U w hm hlt ha=>?_⟩
 ·induction l with
  |nil=>cases h
  |cons a l ih=>
   simp only[ar8]at h;split at h
   ·rename_i x hx;obtain⟨φ,rs,hfn,_⟩:=(hl a (bN ..)).ok;have hg:a.g=g:=by
     unfold Yw at hx;cases hrw:a.σ.rw with
     |true=>
      rw[hrw]at hx;simp only[aP]at hx;unfold aiW at hx;split at hx
      ·rename_i n hi;split at hx
       ·rename_i kc e L z hn;cases hc:Nat.beq a.g g with
        |true=>exact af hc
        |false=>rw[hc]at hx;cases hx
       ·cases hx
      ·cases hx
     |false=>
      rw[hrw]at hx;simp only[cD]at hx;cases hc0:(Nat.beq a.g g&&T4 a.σ.outs)with
      |false=>rw[hc0]at hx;cases hx
      |true=>rw[ah]at hc0;exact af hc0.1
    rw[<-hg];exact hfn.enter
   ·exact ih (fun b hb=>hl b (aU _ hb)) h
 ·induction l with
  |nil=>cases h
  |cons a l ih=>
   simp only[ar8]at h;split at h
   ·rename_i x hx;cases h;exact anS (hl a (bN ..)) hx hm hlt
   ·exact ih (fun b hb=>hl b (aU _ hb)) h
end
end
@[reducible] def dt(w0:World)(e:List PD):Sy where
 n i:=(e.getD i (.i 0)).n
 fn _ _ _:=0
 p i:=e.getD i (.i 0)
 v _:=⟨.bool false,rfl⟩
 B:=0
 w0:=w0
 F:=w0.heap.size
 io:=w0.drawn
def abJ:Tm->Bool
 | .lit _| .sym _| .add _ _ _| .sub _ _ _| .mul _ _ _| .quo _ _ _| .rem _ _ _| .mn _ _| .mx _ _| .ln _ _| .shl _ _ _| .shr _ _ _| .ind _ _ _| .pl _ _| .mi _ _| .mf _ _ 0=>true
 |_=>false
def ay7(m:Nat)(σ:List Tm)(a:Tm)(es:Nat)(u:Tm):Bool:=match a with
 | .ds i=>bif Nat.blt i m then false else(match σ[i-m]? with
  |some s=>Tm.eqB u (B_ s es)
  |none=>false)
 |_=>false
def mt(m:Nat)(σ:List Tm)(d:Bool):Tm->Tm->Bool
 | .lit x,u=>(match u with| .lit y=>decide (x=y)|_=>false)
 | .sym i,u=>bif Nat.blt i m then(match u with| .sym j=>Nat.beq i j|_=>false)else(match σ[i-m]? with
  |some s=>Tm.eqB s u&&(!d||abJ u)
  |none=>false)
 | .ds i,u=>bif Nat.blt i m then(match u with| .ds j=>Nat.beq i j|_=>false)else(match σ[i-m]? with
  |some s=>Tm.eqB s u
  |none=>false)
 | .add k a b,u=>(match u with| .add k' a' b'=>decide (k=k')&&(mt m σ false a a'&&mt m σ false b b')|_=>false)
 | .sub k a b,u=>(match u with| .sub k' a' b'=>decide (k=k')&&(mt m σ false a a'&&mt m σ false b b')|_=>false)
 | .mul k a b,u=>(match u with| .mul k' a' b'=>decide (k=k')&&(mt m σ false a a'&&mt m σ false b b')|_=>false)
 | .quo k a b,u=>(match u with| .quo k' a' b'=>decide (k=k')&&(mt m σ false a a'&&mt m σ false b b')|_=>false)
 | .rem k a b,u=>(match u with| .rem k' a' b'=>decide (k=k')&&(mt m σ false a a'&&mt m σ false b b')|_=>false)
 | .shl k a b,u=>(match u with| .shl k' a' b'=>decide (k=k')&&(mt m σ false a a'&&mt m σ false b b')|_=>false)
 | .shr k a b,u=>(match u with| .shr k' a' b'=>decide (k=k')&&(mt m σ false a a'&&mt m σ false b b')|_=>false)
 | .mn a b,u=>(match u with| .mn a' b'=>mt m σ false a a'&&mt m σ false b b'|_=>false)
 | .mx a b,u=>(match u with| .mx a' b'=>mt m σ false a a'&&mt m σ false b b'|_=>false)
 | .pl a b,u=>(match u with| .pl a' b'=>mt m σ false a a'&&mt m σ false b b'|_=>false)
 | .mi a b,u=>(match u with| .mi a' b'=>mt m σ false a a'&&mt m σ false b b'|_=>false)
 | .ind a b c,u=>(match u with| .ind a' b' c'=>Nat.beq c c'&&(mt m σ false a a'&&mt m σ false b b')|_=>false)
 | .el a t es j,u=>(match u with| .el a' t' es' j'=>Nat.beq es es'&&(Nat.beq j j'&&(mt m σ true a a'&&mt m σ false t t'))|_=>false)
 | .ln a es,u=>(match u with| .ln a' es'=>Nat.beq es es'&&mt m σ true a a'|_=>false)||ay7 m σ a es u
 | .nil,u=>(match u with| .nil=>true|_=>false)
 | .snoc a x,u=>(match u with| .snoc a' x'=>mt m σ true a a'&&mt m σ false x x'|_=>false)
 | .snocD a x,u=>(match u with| .snocD a' x'=>mt m σ true a a'&&mt m σ true x x'|_=>false)
 | .cat a b,u=>(match u with| .cat a' b'=>mt m σ true a a'&&mt m σ true b b'|_=>false)
 | .rep n x,u=>(match u with| .rep n' x'=>mt m σ false n n'&&mt m σ false x x'|_=>false)
 | .set a t es j x,u=>(match u with| .set a' t' es' j' x'=>Nat.beq es es'&&(Nat.beq j j'&&(mt m σ true a a'&&(mt m σ false t t'&&mt m σ false x x')))|_=>false)
 | .setD a t es j x,u=>(match u with| .setD a' t' es' j' x'=>Nat.beq es es'&&(Nat.beq j j'&&(mt m σ true a a'&&(mt m σ false t t'&&mt m σ true x x')))|_=>false)
 | .repL n x,u=>(match u with| .repL n' x'=>mt m σ false n n'&&mt m σ true x x'|_=>false)
 | .cut a lo hi es,u=>(match u with| .cut a' lo' hi' es'=>Nat.beq es es'&&(mt m σ true a a'&&(mt m σ false lo lo'&&mt m σ false hi hi'))|_=>false)
 | .spl a t b,u=>(match u with| .spl a' t' b'=>mt m σ true a a'&&(mt m σ false t t'&&mt m σ true b b')|_=>false)
 | .mf a k c,u=>(match u with| .mf a' k' c'=>Nat.beq c c'&&(mt m σ true a a'&&mt m σ false k k')|_=>false)
 | .len _,_=>false
 | .ap _ _ _,_=>false
structure Rel(m:Nat)(σ:List Tm)(w w':World)(eT eA:List PD):Prop where
 pre:∀i,i<m->eT.getD i (.i 0)=eA.getD i (.i 0)
 val:∀k s,σ[k]?=some s->eT.getD (m+k) (.i 0)=@Tm.pd (dt w' eA) s
section
variable {m:Nat}{σ:List Tm}{w w':World}{eT eA:List PD}
theorem abI[Sy]{u:Tm}(h:abJ u=true):u.pd= .i u.pd.n:=by
 cases u with
 |mf a k c=>
  cases c with
  |zero=>rfl
  |succ c=>simp[abJ]at h
 |_=>first|rfl|cases h
theorem iF(R:Rel m σ w w' eT eA):∀ (t u:Tm) (d:Bool),mt m σ d t u=true->(@Tm.pd (dt w eT) t).n=(@Tm.pd (dt w' eA) u).n/\(d=true->@Tm.pd (dt w eT) t=@Tm.pd (dt w' eA) u):=by
 have fin:∀ {a b:PD} {d:Bool},a=b->a.n=b.n/\(d=true->a=b):=fun h=>⟨by rw[h],fun _=>h⟩
 intro t
 induction t with
 |lit x=>intro u d h;cases u<;>simp only[mt,aw,decide_eq_true_eq]at h;subst h;exact fin rfl
 |len i=>intro u d h;simp[mt]at h
 |ap f a b _ _=>intro u d h;simp[mt]at h
 |sym i=>
  intro u d h;simp only[mt]at h;cases hlt:Nat.blt i m with
  |true=>
   rw[hlt]at h;simp only[aP]at h;rw[bT]at hlt;split at h
   ·rename_i j;have:=af h;subst this;refine fin ?_
    show PD.i (eT.getD i (.i 0)).n=PD.i (eA.getD i (.i 0)).n
    rw[R.pre i hlt]
   ·cases h
  |false=>
   rw[hlt]at h;simp only[cD]at h;have hge:m<=i:=by
    rcases fJ i m with h1|h1
    ·have:Nat.blt i m=true:=by rw[bT];exact h1
     rw[this]at hlt;cases hlt
    ·exact h1
   split at h
   ·rename_i s hs;rw[ah]at h;have e:=@Tm.eqB_eq (dt w eT) _ _ h.1;subst e;have hv:=R.val _ _ hs;rw[show m+(i-m)=i by omega]at hv
    have hint:(@Tm.pd (dt w eT) (.sym i)).n=(@Tm.pd (dt w' eA) s).n:=by
     show(eT.getD i (.i 0)).n=_
     rw[hv]
    refine⟨hint,fun hd=>?_⟩
    have h2:=h.2;rw[hd]at h2;simp only[jE,jF]at h2;rw[@abI (dt w' eA) s h2,<-hint];rfl
   ·cases h
 |ds i=>
  intro u d h;simp only[mt]at h;cases hlt:Nat.blt i m with
  |true=>
   rw[hlt]at h;simp only[aP]at h;rw[bT]at hlt;split at h
   ·rename_i j;have:=af h;subst this;refine fin ?_
    show eT.getD i (.i 0)=eA.getD i (.i 0)
    rw[R.pre i hlt]
   ·cases h
  |false=>
   rw[hlt]at h;simp only[cD]at h;have hge:m<=i:=by
    rcases fJ i m with h1|h1
    ·have:Nat.blt i m=true:=by rw[bT];exact h1
     rw[this]at hlt;cases hlt
    ·exact h1
   split at h
   ·rename_i s hs;have e:=@Tm.eqB_eq (dt w eT) _ _ h;subst e;have hv:=R.val _ _ hs;rw[show m+(i-m)=i by omega]at hv
    exact fin hv
   ·cases h
 |add k a b iha ihb=>intro u d h;cases u<;>simp only[mt,aw,ah,decide_eq_true_eq]at h;obtain⟨rfl,h1,h2⟩:=h;refine fin ?_;simp only[Tm.pd,(iha _ _ h1).1,(ihb _ _ h2).1]
 |sub k a b iha ihb=>intro u d h;cases u<;>simp only[mt,aw,ah,decide_eq_true_eq]at h;obtain⟨rfl,h1,h2⟩:=h;refine fin ?_;simp only[Tm.pd,(iha _ _ h1).1,(ihb _ _ h2).1]
 |mul k a b iha ihb=>intro u d h;cases u<;>simp only[mt,aw,ah,decide_eq_true_eq]at h;obtain⟨rfl,h1,h2⟩:=h;refine fin ?_;simp only[Tm.pd,(iha _ _ h1).1,(ihb _ _ h2).1]
 |quo k a b iha ihb=>intro u d h;cases u<;>simp only[mt,aw,ah,decide_eq_true_eq]at h;obtain⟨rfl,h1,h2⟩:=h;refine fin ?_;simp only[Tm.pd,(iha _ _ h1).1,(ihb _ _ h2).1]
 |rem k a b iha ihb=>intro u d h;cases u<;>simp only[mt,aw,ah,decide_eq_true_eq]at h;obtain⟨rfl,h1,h2⟩:=h;refine fin ?_;simp only[Tm.pd,(iha _ _ h1).1,(ihb _ _ h2).1]
 |shl k a b iha ihb=>intro u d h;cases u<;>simp only[mt,aw,ah,decide_eq_true_eq]at h;obtain⟨rfl,h1,h2⟩:=h;refine fin ?_;simp only[Tm.pd,(iha _ _ h1).1,(ihb _ _ h2).1]
 |shr k a b iha ihb=>intro u d h;cases u<;>simp only[mt,aw,ah,decide_eq_true_eq]at h;obtain⟨rfl,h1,h2⟩:=h;refine fin ?_;simp only[Tm.pd,(iha _ _ h1).1,(ihb _ _ h2).1]
 |mn a b iha ihb=>intro u d h;cases u<;>simp only[mt,aw,ah]at h;refine fin ?_;simp only[Tm.pd,(iha _ _ h.1).1,(ihb _ _ h.2).1]
 |mx a b iha ihb=>intro u d h;cases u<;>simp only[mt,aw,ah]at h;refine fin ?_;simp only[Tm.pd,(iha _ _ h.1).1,(ihb _ _ h.2).1]
 |pl a b iha ihb=>intro u d h;cases u<;>simp only[mt,aw,ah]at h;refine fin ?_;simp only[Tm.pd,(iha _ _ h.1).1,(ihb _ _ h.2).1]
 |mi a b iha ihb=>intro u d h;cases u<;>simp only[mt,aw,ah]at h;refine fin ?_;simp only[Tm.pd,(iha _ _ h.1).1,(ihb _ _ h.2).1]
 |ind a b c iha ihb=>intro u d h;cases u<;>simp only[mt,aw,ah]at h;have e:=af h.1;subst e;refine fin ?_;simp only[Tm.pd,(iha _ _ h.2.1).1,(ihb _ _ h.2.2).1]
 |el a t es j iha iht=>intro u d h;cases u<;>simp only[mt,aw,ah]at h;have e1:=af h.1;have e2:=af h.2.1;subst e1;subst e2;refine fin ?_;simp only[Tm.pd,(iha _ _ h.2.2.1).2 rfl,(iht _ _ h.2.2.2).1]
 |ln a es iha=>
  intro u d h;simp only[mt]at h;rcases dY.1 h with h|h
  ·cases u<;>simp only[aw,ah]at h;have e:=af h.1;subst e;refine fin ?_;simp only[Tm.pd,(iha _ _ h.2).2 rfl]
  ·unfold ay7 at h;split at h
   ·rename_i _ i _;cases hlt:Nat.blt i m with
    |true=>rw[hlt]at h;cases h
    |false=>
     rw[hlt]at h;simp only[cD]at h;have hge:m<=i:=by
      rcases fJ i m with h1|h1
      ·have:Nat.blt i m=true:=by rw[bT];exact h1
       rw[this]at hlt;cases hlt
      ·exact h1
     split at h
     ·rename_i s hs;have e:=@Tm.eqB_eq (dt w eT) _ _ h;subst e;have hv:=R.val _ _ hs;rw[show m+(i-m)=i by omega]at hv
      have h1:(@Tm.pd (dt w' eA) (B_ s es)).n=(((@Tm.pd (dt w' eA) s).q.length/es:Nat):Int):=@oh (dt w' eA) Fa.bare (@fN.bare (dt w' eA)) es s;have h2: @Tm.pd (dt w eT) (.ln (.ds i) es)= .i (((@Tm.pd (dt w' eA) s).q.length/es:Nat):Int):=by
       show PD.i ((((eT.getD i (.i 0)).q.length/es:Nat)):Int)=_
       rw[hv]
      have h3:abJ (B_ s es)=true:=by
       have:∀t:Tm,abJ (B_ t es)=true:=fun t=>by
        induction t with
        |set a t m j x iha _ _=>exact iha
        |setD a t m j x iha _ _=>exact iha
        |spl a t b iha _ _=>exact iha
        |_=>rfl
       exact this s
      refine fin ?_;rw[h2,@abI (dt w' eA) _ h3,h1]
     ·cases h
   ·cases h
 |nil=>intro u d h;cases u<;>simp only[mt,aw]at h;exact fin rfl
 |snoc a x iha ihx=>intro u d h;cases u<;>simp only[mt,aw,ah]at h;refine fin ?_;simp only[Tm.pd,(iha _ _ h.1).2 rfl,(ihx _ _ h.2).1]
 |snocD a x iha ihx=>intro u d h;cases u<;>simp only[mt,aw,ah]at h;refine fin ?_;simp only[Tm.pd,(iha _ _ h.1).2 rfl,(ihx _ _ h.2).2 rfl]
 |cat a b iha ihb=>intro u d h;cases u<;>simp only[mt,aw,ah]at h;refine fin ?_;simp only[Tm.pd,(iha _ _ h.1).2 rfl,(ihb _ _ h.2).2 rfl]
 |rep n x ihn ihx=>intro u d h;cases u<;>simp only[mt,aw,ah]at h;refine fin ?_;simp only[Tm.pd,(ihn _ _ h.1).1,(ihx _ _ h.2).1]
 |set a t es j x iha iht ihx=>intro u d h;cases u<;>simp only[mt,aw,ah]at h;have e1:=af h.1;have e2:=af h.2.1;subst e1;subst e2;refine fin ?_;simp only[Tm.pd,(iha _ _ h.2.2.1).2 rfl,(iht _ _ h.2.2.2.1).1,(ihx _ _ h.2.2.2.2).1]
 |setD a t es j x iha iht ihx=>intro u d h;cases u<;>simp only[mt,aw,ah]at h;have e1:=af h.1;have e2:=af h.2.1;subst e1;subst e2;refine fin ?_;simp only[Tm.pd,(iha _ _ h.2.2.1).2 rfl,(iht _ _ h.2.2.2.1).1,(ihx _ _ h.2.2.2.2).2 rfl]
 |repL n x ihn ihx=>intro u d h;cases u<;>simp only[mt,aw,ah]at h;refine fin ?_;simp only[Tm.pd,(ihn _ _ h.1).1,(ihx _ _ h.2).2 rfl]
 |mf a k c iha ihk=>intro u d h;cases u<;>simp only[mt,aw,ah]at h;have e1:=af h.1;subst e1;refine fin ?_;simp only[Tm.pd,(iha _ _ h.2.1).2 rfl,(ihk _ _ h.2.2).1]
 |cut a lo hi es iha ihl ihh=>intro u d h;cases u<;>simp only[mt,aw,ah]at h;have e1:=af h.1;subst e1;refine fin ?_;simp only[Tm.pd,(iha _ _ h.2.1).2 rfl,(ihl _ _ h.2.2.1).1,(ihh _ _ h.2.2.2).1]
 |spl a t b iha iht ihb=>intro u d h;cases u<;>simp only[mt,aw,ah]at h;refine fin ?_;simp only[Tm.pd,(iha _ _ h.1).2 rfl,(iht _ _ h.2.1).1,(ihb _ _ h.2.2).2 rfl]
def bmt(m:Nat)(σ:List Tm):Bm->Bm->Bool
 | .lt a b,.lt a' b'=>mt m σ false a a'&&mt m σ false b b'
 | .le a b,.le a' b'=>mt m σ false a a'&&mt m σ false b b'
 | .eq a b,.eq a' b'=>mt m σ false a a'&&mt m σ false b b'
 | .tru a,.tru a'=>mt m σ false a a'
 |_,_=>false
theorem P_(R:Rel m σ w w' eT eA){b b':Bm}(h:bmt m σ b b'=true): @Bm.den (dt w eT) b=@Bm.den (dt w' eA) b':=by
 cases b<;>cases b'<;>simp only[bmt,aw,ah]at h
 all_goals simp only[Bm.den]
 ·rename_i a1 b1 a2 b2;have e1: @Tm.den (dt w eT) a1=@Tm.den (dt w' eA) a2:=(iF R _ _ _ h.1).1;have e2: @Tm.den (dt w eT) b1=@Tm.den (dt w' eA) b2:=(iF R _ _ _ h.2).1;rw[e1,e2]
 ·rename_i a1 b1 a2 b2;have e1: @Tm.den (dt w eT) a1=@Tm.den (dt w' eA) a2:=(iF R _ _ _ h.1).1;have e2: @Tm.den (dt w eT) b1=@Tm.den (dt w' eA) b2:=(iF R _ _ _ h.2).1;rw[e1,e2]
 ·rename_i a1 b1 a2 b2;have e1: @Tm.den (dt w eT) a1=@Tm.den (dt w' eA) a2:=(iF R _ _ _ h.1).1;have e2: @Tm.den (dt w eT) b1=@Tm.den (dt w' eA) b2:=(iF R _ _ _ h.2).1;rw[e1,e2]
 ·rename_i a1 a2;have e1: @Tm.den (dt w eT) a1=@Tm.den (dt w' eA) a2:=(iF R _ _ _ h).1;rw[e1]
end
structure qn where
 T:List SV
 H:bt
 f:Nat
structure Hy where
 vals:List Tm
 ren:List (Nat×Option Nat)
def ZU:List (Nat×Option Nat)->Nat->Option (Option Nat)
 | [],_=>none
 |(m,x)::r,n=>bif Nat.beq m n then some x else ZU r n
def rnm(f0:Nat)(ren:List (Nat×Option Nat))(n:Nat):Option Nat:=bif Nat.blt n f0 then some n else(match ZU ren n with
 |some (some a)=>some a
 |_=>none)
def Dw(f0:Nat)(ren:List (Nat×Option Nat))(n n':Nat):Bool:=match rnm f0 ren n with
 |some a=>Nat.beq a n'
 |none=>false
def uY(f0:Nat)(ren:List (Nat×Option Nat))(U:Th):Th:=fun n=>bif Nat.blt n f0 then U n else(match ZU ren n with
 |some (some a)=>U a
 |some none=>⟨0,0,0,⟨true,.no,fun _=>False⟩⟩
 |none=>U n)
theorem q9{f0:Nat}{ren:List (Nat×Option Nat)}{U:Th}{n n':Nat}(h:Dw f0 ren n n'=true):uY f0 ren U n=U n':=by
 unfold Dw rnm at h;unfold uY;cases hb:Nat.blt n f0 with
 |true=>rw[hb]at h;simp only[aP]at h ⊢;rw[af h]
 |false=>
  rw[hb]at h;simp only[cD]at h ⊢;cases hr:ZU ren n with
  |none=>rw[hr]at h;cases h
  |some x=>
   rw[hr]at h;cases x with
   |none=>cases h
   |some a=>simp only at h ⊢;rw[af h]
theorem aBe{f0:Nat}{ren:List (Nat×Option Nat)}{U:Th}{n:Nat}(h:n<f0):uY f0 ren U n=U n:=by
 unfold uY;have:Nat.blt n f0=true:=by rw[bT];exact h
 rw[this];rfl
def AB(f0:Nat)(ren:List (Nat×Option Nat))(n:Nat):Bool:=bif Nat.blt n f0 then false else(match ZU ren n with
 |some none=>true
 |_=>false)
theorem Dc{f0:Nat}{ren:List (Nat×Option Nat)}{U:Th}{n:Nat}(h:AB f0 ren n=true):uY f0 ren U n=⟨0,0,0,⟨true,.no,fun _=>False⟩⟩:=by
 unfold AB at h;unfold uY;cases hb:Nat.blt n f0 with
 |true=>rw[hb]at h;cases h
 |false=>
  rw[hb]at h;simp only[cD]at h ⊢;split at h
  ·rename_i hr;rw[hr]
  ·cases h
def mpa(m:Nat)(σ:List Tm):Pa->Pa->Bool
 | .root,.root=>true
 | .el p t es j,.el p' t' es' j'=>Nat.beq es es'&&(Nat.beq j j'&&(mpa m σ p p'&&mt m σ false t t'))
 | .cut p a b es,.cut p' a' b' es'=>Nat.beq es es'&&(mpa m σ p p'&&(mt m σ false a a'&&mt m σ false b b'))
 |_,_=>false
def aa'(f0:Nat)(ren:List (Nat×Option Nat)):List (Nat×Nat)->List (Nat×Nat)->Bool
 | [],[]=>true
 |(n,o)::r,(n',o')::s=>Dw f0 ren n n'&&(Nat.beq o o'&&aa' f0 ren r s)
 |_,_=>false
def akh:Option SB->Bool
 |some (.cells _ _ _)=>true
 |_=>false
def Xi(m:Nat)(x:Hy)(es l:Nat)(hi:Tm):Option SB->Bool
 |some (.cells es' e cs)=>(match gh es (.cells es' e cs)with
  |some (_,_,_,L,_)=>Nat.blt 0 es&&(Nat.beq cs.length (l*es)&&mt m x.vals false hi (.ln L es))
  |none=>false)
 |_=>false
def QI(m f0:Nat)(x:Hy)(H:bt):SC->SC->Bool
 | .int k a,c=>(match c with| .int k' b=>decide (k=k')&&decide (a=b)|_=>false)
 | .bool a,c=>(match c with| .bool b=>a==b|_=>false)
 | .sym k t,c=>(match iu c with|some (k',u)=>decide (k=k')&&mt m x.vals false t u|none=>false)
 | .bq (.tru t),c=>(match c with
  | .bq (.tru u)=>mt m x.vals false t u||mt m x.vals false t (ahs (.tru u))
  | .bq b=>mt m x.vals false t (ahs b)
  | .bool b=>mt m x.vals false t (.lit (bif b then 1 else 0))
  |_=>false)
 | .bq b,c=>(match c with| .bq b'=>bmt m x.vals b b'|_=>false)
 | .nilp,c=>(match c with| .nilp=>true|_=>false)
 | .nils,c=>(match c with| .nils=>true|_=>false)
 | .nilm,c=>(match c with| .nilm=>true|_=>false)
 | .nilFn,c=>(match c with| .nilFn=>true|_=>false)
 | .nilIf,c=>(match c with| .nilIf=>true|_=>false)
 | .ptr n o,c=>(match c with| .ptr n' o'=>Dw f0 x.ren n n'&&Nat.beq o o'|_=>false)
 | .slice n o l d,c=>(match c with| .slice n' o' l' d'=>Dw f0 x.ren n n'&&(Nat.beq o o'&&(Nat.beq l l'&&Nat.beq d d'))|_=>false)
 | .map n,c=>(match c with| .map n'=>Dw f0 x.ren n n'|_=>false)
 | .fn g caps,c=>(match c with| .fn g' caps'=>Nat.beq g g'&&aa' f0 x.ren caps caps'|_=>false)
 | .dat n p,c=>(match c with| .dat n' p'=>Dw f0 x.ren n n'&&mpa m x.vals p p'|_=>false)
 | .osl n es lo hi,c=>(match c with
  | .osl n' es' lo' hi'=>Dw f0 x.ren n n'&&(Nat.beq es es'&&(mt m x.vals false lo lo'&&mt m x.vals false hi hi'))
  | .slice n' 0 l 0=>Dw f0 x.ren n n'&&(akh (get H n')&&(mt m x.vals false lo (.lit 0)&&(mt m x.vals false hi (.lit l)||Xi m x es l hi (get H n'))))
  | .nils=>AB f0 x.ren n&&(mt m x.vals false lo (.lit 0)&&(mt m x.vals false hi (.lit 0)||mt m x.vals false hi (.ln .nil es)))
  |_=>false)
 |_,_=>false
section
variable {m f0:Nat}{x:Hy}{w w':World}{eT eA:List PD}{H:bt}{U:Th}
theorem aBB(R:Rel m x.vals w w' eT eA){v:VT}:∀ {p p':Pa},mpa m x.vals p p'=true->@Pa.vt (dt w eT) v p=@Pa.vt (dt w' eA) v p':=by
 intro p
 induction p with
 |root=>intro p' h;cases p'<;>simp only[mpa,aw]at h;rfl
 |el p t es j ih=>intro p' h;cases p'<;>simp only[mpa,aw,ah]at h;have e1:=af h.1;have e2:=af h.2.1;subst e1;subst e2;simp only[Pa.vt,Tm.nat,ih h.2.2.1,(iF R _ _ _ h.2.2.2).1]
 |cut p a b es ih=>intro p' h;cases p'<;>simp only[mpa,aw,ah]at h;have e1:=af h.1;subst e1;simp only[Pa.vt,Tm.nat,ih h.2.1,(iF R _ _ _ h.2.2.1).1,(iF R _ _ _ h.2.2.2).1]
theorem aa_{ren:List (Nat×Option Nat)}:∀ {l l':List (Nat×Nat)},aa' f0 ren l l'=true->(l.map fun p=>Value.pointer (some ((uY f0 ren U).addr p.1 p.2)))=l'.map fun p=>Value.pointer (some (U.addr p.1 p.2))
 | [],[],_=>rfl
 | [],_::_,h=>by cases h
 |_::_,[],h=>by simp[aa']at h
 |(n,o)::r,(n',o')::s,h=>by
  simp only[aa',ah]at h;have e:=af h.2.1;subst e;have ih:=aa_ h.2.2;simp only[cL];rw[ih];simp only[Th.addr,q9 h.1]
def Nls(U:Th)(H:bt):Prop:=∀n es e cs,get H n=some (.cells es e cs)->(U n).x.nl=false
theorem agh(R:Rel m x.vals w w' eT eA){es l:Nat}{hi:Tm}{b:Option SB}(h:Xi m x es l hi b=true):(@Tm.pd (dt w eT) hi).n=(l:Int):=by
 unfold Xi at h;split at h
 ·rename_i es' e cs;split at h
  ·rename_i kc e2 ks L z hv;simp only[ah]at h;obtain⟨h1,h2,h3⟩:=h;rw[bT]at h1;have h2:=af h2;obtain⟨tys,hnc,_⟩:=@Ku (dt w' eA) Fa.bare (@fN.bare (dt w' eA)) _ _ _ _ _ _ _ _ _ hv;obtain⟨_,ds,d1,d2,_⟩:=@kI (dt w' eA) Fa.bare (@fN.bare (dt w' eA)) _ _ _ _ hnc (fun _=>⟨0,0,0,xd⟩)
   rw[(iF R _ _ _ h3).1]
   show(((@Tm.pd (dt w' eA) L).q.length/es:Nat):Int)=l
   have hl:(@Tm.pd (dt w' eA) L).q.length=l*es:=by rw[d1,<-h2,<-d2];rfl
   rw[hl,dQ _ h1]
  ·cases h
 ·cases h
theorem aqo(R:Rel m x.vals w w' eT eA)(hn:Nls U H){c c':SC}(h:QI m f0 x H c c'=true): @SC.val (dt w eT) (uY f0 x.ren U) c=@SC.val (dt w' eA) U c':=by
 cases c with
 |int k a=>cases c'<;>simp only[QI,aw,ah,decide_eq_true_eq]at h;rw[h.1,h.2];rfl
 |bool a=>cases c'<;>simp only[QI,aw,beq_iff_eq]at h;rw[h];rfl
 |sym k t=>
  simp only[QI]at h;split at h
  ·rename_i k' u hu;simp only[ah,decide_eq_true_eq]at h;have e1:=@dE (dt w' eA) Fa.bare (@fN.bare (dt w' eA)) c' k' u hu U;rw[e1,h.1]
   show Value.int k' (@Tm.pd (dt w eT) t).n=Value.int k' (@Tm.pd (dt w' eA) u).n
   rw[(iF R _ _ _ h.2).1]
  ·cases h
 |bq b=>
  have viaTerm:∀ (t u:Tm) (B:Bool),b= .tru t->(@Tm.den (dt w' eA) u)=(if B=true then 1 else 0)->mt m x.vals false t u=true->@Bm.den (dt w eT) b=B:=fun t u B hb hu hmt=>by
   subst hb;have e:=(iF R _ _ _ hmt).1
   show decide ((@Tm.pd (dt w eT) t).n≠0)=B
   rw[e];have hu:(@Tm.pd (dt w' eA) u).n=_:=hu;rw[hu];cases B<;>rfl
  cases b with
  |tru t=>
   simp only[QI]at h;split at h
   ·rename_i u;rcases dY.1 h with h|h
    ·show Value.bool _=Value.bool _
     rw[P_ R (b:= .tru t) (b':= .tru u) h]
    ·show Value.bool _=Value.bool _
     rw[viaTerm t _ (@Bm.den (dt w' eA) (.tru u)) rfl (@xX (dt w' eA) Fa.bare (@fN.bare (dt w' eA)) (.tru u)) h]
   ·rename_i b' _
    show Value.bool _=Value.bool _
    rw[viaTerm t _ (@Bm.den (dt w' eA) b') rfl (@xX (dt w' eA) Fa.bare (@fN.bare (dt w' eA)) b') h]
   ·rename_i b'
    show Value.bool _=Value.bool _
    rw[viaTerm t _ b' rfl (by cases b'<;>rfl) h]
   ·cases h
  |lt a b=>
   cases c'<;>simp only[QI,aw]at h
   show Value.bool _=Value.bool _
   rw[P_ R h]
  |le a b=>
   cases c'<;>simp only[QI,aw]at h
   show Value.bool _=Value.bool _
   rw[P_ R h]
  |eq a b=>
   cases c'<;>simp only[QI,aw]at h
   show Value.bool _=Value.bool _
   rw[P_ R h]
 |nilp=>cases c'<;>simp only[QI,aw]at h;rfl
 |nils=>cases c'<;>simp only[QI,aw]at h;rfl
 |nilm=>cases c'<;>simp only[QI,aw]at h;rfl
 |nilFn=>cases c'<;>simp only[QI,aw]at h;rfl
 |nilIf=>cases c'<;>simp only[QI,aw]at h;rfl
 |ptr n o=>cases c'<;>simp only[QI,aw,ah]at h;rw[af h.2];simp only[SC.val,Th.addr,q9 h.1]
 |slice n o l d=>cases c'<;>simp only[QI,aw,ah]at h;rw[af h.2.1,af h.2.2.1,af h.2.2.2];simp only[SC.val,Th.addr,q9 h.1]
 |map n=>cases c'<;>simp only[QI,aw]at h;simp only[SC.val,q9 h]
 |fn g caps=>cases c'<;>simp only[QI,aw,ah]at h;rw[af h.1];simp only[SC.val,aa_ h.2]
 |dat n p=>cases c'<;>simp only[QI,aw,ah]at h;simp only[SC.val,q9 h.1,aBB R h.2]
 |osl n es lo hi=>
  simp only[QI]at h;split at h
  ·rename_i n' es' lo' hi';simp only[ah]at h;obtain⟨h1,h2,h3,h4⟩:=h;have e:=af h2;subst e;simp only[SC.val,Th.row,Th.addr,q9 h1,Tm.nat,(iF R _ _ _ h3).1,(iF R _ _ _ h4).1]
  ·rename_i n' l;simp only[ah]at h;obtain⟨h1,h2,h3,h4⟩:=h;have hnl:(U n').x.nl=false:=by
    unfold akh at h2;split at h2
    ·rename_i hg;exact hn _ _ _ _ hg
    ·cases h2
   have e3:(@Tm.pd (dt w eT) lo).n=0:=(iF R _ _ _ h3).1;have e4:(@Tm.pd (dt w eT) hi).n=(l:Int):=by
    rcases dY.1 h4 with h4|h4
    ·exact(iF R _ _ _ h4).1
    ·exact agh R h4
   simp only[SC.val,Th.row,Th.addr,q9 h1,Tm.nat,e3,e4,hnl,cD,fA];simp only[Int.toNat_zero,au,dc,dX,de];split <;>simp[Addr.add]
  ·simp only[ah]at h;obtain⟨h1,h3,h4⟩:=h;have e3:(@Tm.pd (dt w eT) lo).n=0:=(iF R _ _ _ h3).1;have e4:(@Tm.pd (dt w eT) hi).n=0:=by
    rcases dY.1 h4 with h4|h4
    ·exact(iF R _ _ _ h4).1
    ·rw[(iF R _ _ _ h4).1];simp[Tm.pd]
   simp[SC.val,Th.row,Dc h1,Tm.nat,e3,e4,fA]
  ·cases h
 |_=>simp[QI]at h
end
def msl(m f0:Nat)(x:Hy)(H:bt):List SC->List SC->Bool
 | [],[]=>true
 |a::r,b::s=>QI m f0 x H a b&&msl m f0 x H r s
 |_,_=>false
def msr(m f0:Nat)(x:Hy)(H:bt):SR->SR->Bool
 | .one a,.one b=>QI m f0 x H a b
 | .agg a,.agg b=>msl m f0 x H a b
 |_,_=>false
def avK(m f0:Nat)(x:Hy)(H:bt):List SR->List SR->Bool
 | [],[]=>true
 |a::r,b::s=>msr m f0 x H a b&&avK m f0 x H r s
 |_,_=>false
def msv(m f0:Nat)(x:Hy)(H:bt):SV->SV->Bool
 | .unk,_=>true
 | .r a,.r b=>msr m f0 x H a b
 | .tup a,.tup b=>avK m f0 x H a b
 |_,_=>false
def msT(m f0:Nat)(x:Hy)(H:bt):List SV->List SV->Bool
 | [],[]=>true
 |a::r,b::s=>msv m f0 x H a b&&msT m f0 x H r s
 |_,_=>false
def avH:SB->Bool
 | .cells _ _ []=>true
 |_=>false
def mz(f0:Nat)(ren:List (Nat×Option Nat))(z z':RZ):Bool:=(z'.fr|| !z.fr)&&(match z.k with
 |none=>(match z'.k with
  |none=>true
  |some _=>false)
 |some k=>(match z'.k with
  |some a=>Dw f0 ren k a
  |none=>AB f0 ren k))
def alg(f0:Nat)(ren:List (Nat×Option Nat))(z:RZ):Bool:=match z.k with
 |none=>true
 |some k=>AB f0 ren k
theorem aqm{f0:Nat}{ren:List (Nat×Option Nat)}{z z':RZ}(h:mz f0 ren z z'=true)(U:Th):(z.fr=true->z'.fr=true)/\∀b,cu (uY f0 ren U) z b↔cu U z' b:=by
 unfold mz at h;rw[ah]at h;obtain⟨h1,h2⟩:=h;refine⟨fun hz=>by rw[hz]at h1;simpa using h1,fun b=>?_⟩
 unfold cu;split at h2
 ·rename_i hk;split at h2
  ·rename_i hk';rw[hk,hk']
  ·cases h2
 ·rename_i k hk;split at h2
  ·rename_i a hk';rw[hk,hk']
   show(uY f0 ren U k).x.z b↔(U a).x.z b
   rw[q9 h2]
  ·rename_i hk';rw[hk,hk']
   show(uY f0 ren U k).x.z b↔False
   rw[Dc h2]
theorem aix{f0:Nat}{ren:List (Nat×Option Nat)}{z:RZ}(h:alg f0 ren z=true)(U:Th):∀b,¬cu (uY f0 ren U) z b:=fun b hb=>by
 unfold alg at h;unfold cu at hb;split at h
 ·rename_i hk;rw[hk]at hb;exact hb
 ·rename_i k hk;rw[hk]at hb;have hb:(uY f0 ren U k).x.z b:=hb;rw[Dc h]at hb;exact hb
def msb(m f0:Nat)(x:Hy)(H:bt):SB->SB->Bool
 | .cells es e cs,y=>(match y with| .cells es' e' cs'=>Nat.beq es es'&&(Nat.beq e e'&&msl m f0 x H cs cs')|_=>false)
 | .row kc es e ks L z,y=>(match gh es y with
  |some (kc',e',ks',L',z')=>mz f0 x.ren z z'&&((kc==kc')&&(Nat.beq e e'&&((Ty.eqAll ks ks'||avH y)&&(Nat.blt 0 es&&mt m x.vals true L L'))))
  |none=>false)
 | .frz fr tys L,y=>(match y with| .frz fr' tys' L'=>(fr'|| !fr)&&(Ty.eqAll tys tys'&&mt m x.vals true L L')|_=>false)
 | .rowL kc e tys L z t q hi,y=>(match y with
  | .rowL kc' e' tys' L' z' t' q' hi'=>mz f0 x.ren z z'&&((kc==kc')&&(Nat.beq e e'&&(Ty.eqAll tys tys'&&(mt m x.vals true L L'&&(mt m x.vals false t t'&&(mt m x.vals false hi hi'&&Dw f0 x.ren q q'))))))
  |_=>false)
 | .mapD tys L z,y=>(match j_ tys y with
  |some (L',z')=>mz f0 x.ren z z'&&mt m x.vals true L L'
  |none=>false)
 |_,_=>false
def msh(m f0:Nat)(x:Hy)(H:bt):bt->Bool
 | []=>true
 |(n,b)::r=>(bif AB f0 x.ren n then(match b with
   | .row true _ _ _ L z=>alg f0 x.ren z&&mt m x.vals true L .nil
   |_=>false)
  else(match rnm f0 x.ren n with
   |some a=>(match get H a with
    |some y=>msb m f0 x H b y
    |none=>false)
   |none=>false))&&msh m f0 x H r
def Pb(f0:Nat)(ren:List (Nat×Option Nat))(n:Nat):bt->Bool
 | []=>true
 |(k,_)::r=>(Nat.beq n k||(match rnm f0 ren n with
  |some a=> !(Dw f0 ren k a)
  |none=>true))&&Pb f0 ren n r
def XN(f0:Nat)(ren:List (Nat×Option Nat))(H:bt):bt->Bool
 | []=>true
 |(n,_)::r=>Pb f0 ren n H&&XN f0 ren H r
def avR(f:Nat):bt->Bool
 | []=>true
 |(n,x)::r=>Nat.blt n f&&(x.ltB f&&avR f r)
def X8(m f0:Nat)(x:Hy)(t:qn)(T:List SV)(H:bt):Bool:=
 Nat.ble f0 t.f&&(msT m f0 x H t.T T&&(msh m f0 x H t.H&&(XN f0 x.ren t.H t.H&&(avR t.f t.H&&t.T.all (SV.ltB t.f)))))
section
variable {m f0:Nat}{x:Hy}{w0:World}{eT eA:List PD}{H:bt}{U:Th}
theorem af1(R:Rel m x.vals w0 w0 eT eA)(hn:Nls U H):∀ {a b:List SC},msl m f0 x H a b=true->a.map (@SC.val (dt w0 eT) (uY f0 x.ren U))=b.map (@SC.val (dt w0 eA) U)
 | [],[],_=>rfl
 | [],_::_,h=>by cases h
 |_::_,[],h=>by cases h
 |a::r,b::s,h=>by
  simp only[msl,ah]at h;simp only[cL,aqo R hn h.1,af1 R hn h.2]
theorem aqn(R:Rel m x.vals w0 w0 eT eA)(hn:Nls U H){a b:SR}(h:msr m f0 x H a b=true): @SR.val (dt w0 eT) (uY f0 x.ren U) a=@SR.val (dt w0 eA) U b:=by
 cases a<;>cases b<;>simp only[msr,aw]at h
 ·exact aqo R hn h
 ·simp only[SR.val,af1 R hn h]
theorem ajw(R:Rel m x.vals w0 w0 eT eA)(hn:Nls U H):∀ {a b:List SR},avK m f0 x H a b=true->a.map (@SR.val (dt w0 eT) (uY f0 x.ren U))=b.map (@SR.val (dt w0 eA) U)
 | [],[],_=>rfl
 | [],_::_,h=>by cases h
 |_::_,[],h=>by cases h
 |a::r,b::s,h=>by
  simp only[avK,ah]at h;simp only[cL,aqn R hn h.1,ajw R hn h.2]
theorem aBz(R:Rel m x.vals w0 w0 eT eA)(hn:Nls U H){a b:SV}(h:msv m f0 x H a b=true)(hk:a.known=true):b.known=true/\@SV.val (dt w0 eT) (uY f0 x.ren U) a=@SV.val (dt w0 eA) U b:=by
 cases a with
 |unk=>cases hk
 |r a=>cases b<;>simp only[msv,aw]at h;exact⟨rfl,aqn R hn h⟩
 |tup a=>cases b<;>simp only[msv,aw]at h;exact⟨rfl,by simp only[SV.val,ajw R hn h]⟩
theorem ajy:∀ {A B:List SV},msT m f0 x H A B=true->A.length=B.length/\∀ (t:Nat) (s:SV),A[t]?=some s->∃s',B[t]?=some s'/\msv m f0 x H s s'=true
 | [],[],_=>⟨rfl,fun t s h=>by simp at h⟩
 | [],_::_,h=>by cases h
 |_::_,[],h=>by cases h
 |a::r,b::s,h=>by
  simp only[msT,ah]at h;obtain⟨h1,h2⟩:=ajy h.2;refine⟨by simp[h1],fun t s' hs=>?_⟩
  cases t with
  |zero=>simp only[bn,ad]at hs;subst hs;exact⟨b,rfl,h.1⟩
  |succ t=>rw[bk]at hs;rw[bk];exact h2 t s' hs
theorem aBA(R:Rel m x.vals w0 w0 eT eA)(hn:Nls U H){w:World}{n a:Nat}(ha:uY f0 x.ren U n=U a){b y:SB}(h:msb m f0 x H b y=true)(hb: @ek (dt w0 eA) U w a y):
  @ek (dt w0 eT) (uY f0 x.ren U) w n b/\(gG (uY f0 x.ren U) n b↔gG U a y)/\∀q,Zb (uY f0 x.ren U) n b q↔Zb U a y q:=by
 cases b with
 |cells es e cs=>
  cases y<;>simp only[msb,aw,ah]at h;rename_i es' e' cs';have e1:=af h.1;have e2:=af h.2.1;subst e1;subst e2;have hmap:=af1 R hn h.2.2;obtain⟨b0,arr,b1,b2,b3⟩:=hb;refine⟨⟨by rw[ha];exact b0,arr,by rw[ha];exact b1,fun j c hj=>?_,by rw[ha];exact b3⟩,Iff.rfl,fun q=>Iff.rfl⟩
  have:(cs'.map (@SC.val (dt w0 eA) U))[j]?=some (@SC.val (dt w0 eT) (uY f0 x.ren U) c):=by rw[<-hmap,aM,hj];rfl
  rw[aM]at this;obtain⟨c',hc',he⟩:=cA.1 this;rw[ha,b2 j c' hc',he]
 |row kc es e ks L z=>
  simp only[msb]at h;split at h
  ·rename_i kc' e' ks' L' z' hv;simp only[ah]at h;obtain⟨h0,h1,h2,h3,h4,h5⟩:=h;obtain⟨mz1,mz2⟩:=aqm h0 U;have e2:=af h2;subst e2;rw[bT]at h4;have hL:=(iF R _ _ _ h5).2 rfl;have hv':=@yk (dt w0 eA) Fa.bare (@fN.bare (dt w0 eA)) U w a es y kc' e ks' L' z' hb hv;obtain⟨⟨v1,vz⟩,v2,v3⟩:=hv';have hks:ks=ks'\/(@Tm.pd (dt w0 eA) L').q=[]:=by
    rcases dY.1 h3 with h3|h3
    ·exact .inl (@Ty.eqAll_eq (dt w0 eA) Fa.bare (@fN.bare (dt w0 eA)) _ _ h3)
    ·right
     cases y with
     |cells a1 a2 cs=>
      cases cs with
      |nil=>
       simp only[gh,nh]at hv;cases hq:(Nat.blt 0 es&&(Nat.beq (([]:List SC).length%es) 0&&(per es (([]:List Ty).take es) 0 []&&(Nat.beq a1 0||Nat.beq a1 es))))with
       |false=>rw[hq]at hv;cases hv
       |true=>rw[hq]at hv;simp only[aP,ad,aA]at hv;rw[<-hv.2.2.2.1];rfl
      |cons _ _=>cases h3
     |_=>cases h3
   have hkc:kc=kc':=eq_of_beq h1;refine⟨⟨?_,fun b hb'=>?_⟩,?_,fun q=>?_⟩
   ·rcases v1 with⟨g1,g2,g3⟩|⟨g1,arr,g2,g3,g4⟩
    ·
     exact .inl ⟨by rw[ha];exact g1,by rw[hL];exact g2,hkc.trans g3⟩
    ·refine .inr ⟨by rw[ha];exact g1,arr,by rw[ha];exact g2,fun j hj=>?_,fun hk=>?_⟩
     ·rw[hL]at hj ⊢;rcases hks with rfl|hks
      ·rw[ha];obtain⟨t,u,q1,q2,q3⟩:=g3 j hj;exact⟨t,u,q1,@gV.keep (dt w0 eT) _ _ _ _ _ _ _ q2 (fun _ _=>rfl) (fun b hb'=>(mz2 b).2 hb'),q3⟩
      ·rw[hks]at hj;simp at hj
     ·rw[hL,ha];exact g4 (hkc▸hk)
   ·obtain⟨q1,q2,q3⟩:=vz b ((mz2 b).1 hb');exact⟨q1,by rw[ha];exact q2,fun hf=>q3 (mz1 hf)⟩
   ·show(uY f0 x.ren U n).x.nl=false↔_
    rw[ha];exact v2.symm
   ·exact(mz2 q).trans (v3 q)
  ·cases h
 |frz fr tys L=>
  cases y<;>simp only[msb,aw,ah]at h;rename_i fr' tys' L';have e1:=@Ty.eqAll_eq (dt w0 eA) Fa.bare (@fN.bare (dt w0 eA)) _ _ h.2.1;subst e1;have hL:=(iF R _ _ _ h.2.2).2 rfl;have hfr:fr=true->fr'=true:=fun e=>by have:=h.1;rw[e]at this;simpa using this
  obtain⟨b1,b2⟩:=hb;refine⟨⟨?_,fun b hb'=>?_⟩,Iff.rfl,fun q=>?_⟩
  ·rw[ha,hL];exact b1
  ·rw[ha]at hb';exact⟨(b2 b hb').1,fun hf=>(b2 b hb').2 (hfr hf)⟩
  ·show(uY f0 x.ren U n).x.z q↔(U a).x.z q
   rw[ha]
 |rowL kc e tys L z t q hi=>
  cases y<;>simp only[msb,aw,ah]at h;rename_i kc' e' tys' L' z' t' q' hi';obtain⟨h0,h1,h2,h3,h4,h5,h6,h7⟩:=h;obtain⟨mz1,mz2⟩:=aqm h0 U;have e2:=af h2;subst e2;have e3:=@Ty.eqAll_eq (dt w0 eA) Fa.bare (@fN.bare (dt w0 eA)) _ _ h3;subst e3;have hkc:kc=kc':=eq_of_beq h1;subst hkc;have hL:=(iF R _ _ _ h4).2 rfl;have ht: @Tm.nat (dt w0 eT) t=@Tm.nat (dt w0 eA) t':=congrArg Int.toNat (iF R _ _ _ h5).1;have hhi: @Tm.nat (dt w0 eT) hi=@Tm.nat (dt w0 eA) hi':=congrArg Int.toNat (iF R _ _ _ h6).1;have hq:uY f0 x.ren U q=U q':=q9 h7;have hrow:(uY f0 x.ren U).row q=U.row q':=by simp only[Th.row,Th.addr,hq]
  obtain⟨⟨g1,arr,g2,g3,g5,g4⟩,vz⟩:=hb;refine⟨⟨⟨by rw[ha];exact g1,arr,by rw[ha];exact g2,fun j hj hne=>?_,?_,fun hk=>?_⟩,fun b hb'=>?_⟩,Iff.rfl,fun p=>mz2 p⟩
  ·rw[hL]at hj ⊢;rw[ha];obtain⟨u,q2,q3⟩:=g3 j hj (by rw[<-ht];exact hne)
   exact⟨u,@gV.keep (dt w0 eT) _ _ _ _ _ _ _ q2 (fun _ _=>rfl) (fun b hb'=>(mz2 b).2 hb'),q3⟩
  ·rw[hL,ha,ht,hhi,hrow];exact g5
  ·rw[hL,ha];exact g4 hk
  ·obtain⟨q1,q2,q3⟩:=vz b ((mz2 b).1 hb');exact⟨q1,by rw[ha];exact q2,fun hf=>q3 (mz1 hf)⟩
 |mapD tys L z=>
  simp only[msb]at h;split at h
  ·rename_i L' z' hv;rw[ah]at h;obtain⟨h0,h4⟩:=h;obtain⟨mz1,mz2⟩:=aqm h0 U;have hL:=(iF R _ _ _ h4).2 rfl;obtain⟨⟨⟨es,c,g2,g3⟩,vz⟩,v2,v3⟩:=@AS (dt w0 eA) Fa.bare (@fN.bare (dt w0 eA)) U w a y tys L' z' hb hv;refine⟨⟨⟨es,c,by rw[ha];exact g2,?_⟩,fun b hb'=>?_⟩,⟨fun _=>v2,fun _=>trivial⟩,fun p=>(mz2 p).trans (v3 p)⟩
   ·rw[hL];exact @nS.keep (dt w0 eT) _ _ _ _ _ (fun _ _=>rfl) (fun b hb'=>(mz2 b).2 hb') _ _ g3
   ·obtain⟨q1,q2,q3⟩:=vz b ((mz2 b).1 hb');exact⟨q1,by rw[ha];exact q2,fun hf=>q3 (mz1 hf)⟩
  ·cases h
 |map _ _=>simp[msb]at h
 |iter _ _ _=>simp[msb]at h
theorem ajx(R:Rel m x.vals w0 w0 eT eA):∀ {K:bt},msh m f0 x H K=true->∀n b,get K n=some b->(AB f0 x.ren n=true/\∃es e ks L z,b= .row true es e ks L z/\(alg f0 x.ren z=true/\mt m x.vals true L .nil=true))\/(∃a y,rnm f0 x.ren n=some a/\get H a=some y/\msb m f0 x H b y=true)
 | [],_,n,b,h=>by cases h
 |(k,c)::r,hm,n,b,h=>by
  simp only[msh,ah]at hm;rw[@di (dt w0 eT)]at h;split at h
  ·rename_i he;subst he;cases h;have h1:=hm.1;cases hnil:AB f0 x.ren k with
   |true=>
    rw[hnil]at h1;simp only[aP]at h1;split at h1
    ·rw[ah]at h1;exact .inl ⟨rfl,_,_,_,_,_,rfl,h1⟩
    ·cases h1
   |false=>
    rw[hnil]at h1;simp only[cD]at h1;split at h1
    ·rename_i a ha;split at h1
     ·rename_i y hy;exact .inr ⟨a,y,ha,hy,h1⟩
     ·cases h1
    ·cases h1
  ·exact ajx R hm.2 n b h
theorem UC{ren:List (Nat×Option Nat)}{n:Nat}:∀ {K:bt},Pb f0 ren n K=true->∀k b,(k,b)∈K->n≠k->∀a,rnm f0 ren n=some a->rnm f0 ren k≠some a
 | [],_,k,b,hk,_,_,_=>by cases hk
 |(j,c)::r,h,k,b,hk,hne,a,ha=>by
  simp only[Pb,ah]at h;rcases aS.1 hk with he|hk
  ·cases he;rcases dY.1 h.1 with h1|h1
   ·exact absurd (af h1) hne
   ·rw[ha]at h1;simp only[d7]at h1;intro e;unfold Dw at h1;rw[e]at h1;simp only at h1;rw[show Nat.beq a a=true from ku a]at h1
    cases h1
  ·exact UC h.2 k b hk hne a ha
theorem UD{ren:List (Nat×Option Nat)}{H0:bt}:∀ {K:bt},XN f0 ren H0 K=true->∀n b,(n,b)∈K->Pb f0 ren n H0=true
 | [],_,n,b,hk=>by cases hk
 |(j,c)::r,h,n,b,hk=>by
  simp only[XN,ah]at h;rcases aS.1 hk with he|hk
  ·cases he;exact h.1
  ·exact UD h.2 n b hk
theorem ajL[Sy]{f:Nat}:∀ {K:bt},avR f K=true->ga f (get K)
 | [],_,n,b,h=>by cases h
 |(j,c)::r,h,n,b,hk=>by
  simp only[avR,ah]at h;rw[di]at hk;split at hk
  ·rename_i he;subst he;cases hk;exact⟨by rw[bT]at h;exact h.1,h.2.1⟩
  ·exact ajL h.2.2 n b hk
theorem apv{ren:List (Nat×Option Nat)}{n a:Nat}(h:rnm f0 ren n=some a):uY f0 ren U n=U a:=q9 (by unfold Dw;rw[h];exact ku a)
theorem EU(R:Rel m x.vals w0 w0 eT eA){t:qn}{T:List SV}(h:X8 m f0 x t T H=true){θ0:Th}{G0:C3}{wS w:World}{f:Nat}{a:Act}(hs: @dA (dt w0 eA) θ0 G0 f0 wS U (get H) f w)(ht: @uV (dt w0 eA) U f T a):
  @uV (dt w0 eT) (uY f0 x.ren U) t.f t.T a/\@dA (dt w0 eT) θ0 G0 f0 wS (uY f0 x.ren U) (get t.H) t.f w:=by
 simp only[X8,ah]at h;obtain⟨h1,h2,h3,h4,h5,h6⟩:=h;have h1:=bY h1;obtain⟨⟨sok,sinj,⟨_,sbel,_,sfo,sfs⟩⟩,slt,sle,sext,sfr,ssz,sos,stape,soutput,snb,snz⟩:=hs;obtain⟨tsize,ttmp,tlt,tdef⟩:=ht;have hn:Nls U H:=fun n es e cs hg=>(sok n _ hg).1
 obtain⟨l1,l2⟩:=ajy h2;have ent:∀n b,get t.H n=some b->(AB f0 x.ren n=true/\∃es e ks L z,b= .row true es e ks L z/\(alg f0 x.ren z=true/\(@Tm.pd (dt w0 eT) L).q=[]))\/∃q y,rnm f0 x.ren n=some q/\get H q=some y/\@ek (dt w0 eT) (uY f0 x.ren U) w n b/\(gG (uY f0 x.ren U) n b↔gG U q y)/\(∀z,Zb (uY f0 x.ren U) n b z↔Zb U q y z)/\uY f0 x.ren U n=U q:=fun n b hb=>by
  rcases ajx R h3 n b hb with⟨g1,es,e,ks,L,z,g2,g0,g3⟩|⟨q,y,g1,g2,g3⟩
  ·refine .inl ⟨g1,es,e,ks,L,z,g2,g0,?_⟩;rw[(iF R _ _ _ g3).2 rfl];rfl
  ·obtain⟨k1,k2,k3⟩:=aBA R hn (apv (U:=U) g1) g3 (sok q y g2);exact .inr ⟨q,y,g1,g2,k1,k2,k3,apv g1⟩
 have nilOwn:∀n b,AB f0 x.ren n=true->(∃es e ks L z,b=SB.row true es e ks L z/\(alg f0 x.ren z=true/\(@Tm.pd (dt w0 eT) L).q=[]))->¬gG (uY f0 x.ren U) n b/\∀z,¬Zb (uY f0 x.ren U) n b z:=fun n b g1 ⟨es,e,ks,L,z,g2,g0,g3⟩=>by
  subst g2;refine⟨fun o=>?_,fun q hq=>aix g0 U q hq⟩
  have o:(uY f0 x.ren U n).x.nl=false:=o;rw[Dc g1]at o;cases o
 refine⟨@uV.mk (dt w0 eT) _ _ _ _ (by rw[l1];exact tsize) (fun i s hi hk=>?_) (fun s hs'=>be.1 h6 s hs') tdef,@dA.mk (dt w0 eT) _ _ _ _ _ _ _ _ (@b9.mk (dt w0 eT) _ _ _ (fun n b hb=>?_) (fun n k b c z hb hc hne o u=>?_) (@Far.mk (dt w0 eT) _ _ _ (fun n b _ _=>ec _) sbel (ec _) (fun n b hb o=>by
  rcases ent n b hb with⟨g1,gx⟩|⟨q,y,g1,g2,k1,k2,k3,e1⟩
  ·exact absurd o (nilOwn n b g1 gx).1
  ·rw[e1];exact sfo q y g2 (k2.1 o)) sfs)) (@ajL (dt w0 eT) _ _ h5) h1 (fun n hn'=>?_) sfr ssz sos stape soutput (fun n b hb o=>?_) (fun n b z hb o=>?_)⟩
 ·obtain⟨s',e1,e2⟩:=l2 i s hi;obtain⟨k1,k2⟩:=aBz R hn e2 hk;rw[k2];exact ttmp i s' e1 k1
 ·rcases ent n b hb with⟨g1,es,e,ks,L,z,g2,g0,g3⟩|⟨q,y,g1,g2,k1,k2,k3,_⟩
  ·subst g2;exact⟨.inl ⟨by rw[Dc g1],g3,rfl⟩,fun b hb'=>(aix g0 U b hb').elim⟩
  ·exact k1
 ·rcases ent n b hb with⟨g1,gx⟩|⟨q,y,g1,g2,k1,k2,k3,e1⟩
  ·exact absurd o (nilOwn n b g1 gx).1
  ·rcases ent k c hc with⟨g1',gx⟩|⟨q',y',g1',g2',k1',k2',k3',e1'⟩
   ·rcases u with⟨u,_⟩|u
    ·exact absurd u (nilOwn k c g1' gx).1
    ·exact absurd u ((nilOwn k c g1' gx).2 z)
   ·have hqq:q≠q':=fun e=>by
     have:=UC (UD h4 n b (@EO (dt w0 eT) Fa.bare (@fN.bare (dt w0 eT)) _ _ _ hb)) k c (@EO (dt w0 eT) Fa.bare (@fN.bare (dt w0 eT)) _ _ _ hc) hne q g1;exact this (by rw[g1',e])
    rw[e1];refine sinj q q' y y' z g2 g2' hqq (k2.1 o) ?_;rcases u with⟨u,hz⟩|u
    ·exact .inl ⟨k2'.1 u,by rw[<-e1'];exact hz⟩
    ·exact .inr ((k3' z).1 u)
 ·rw[aBe hn'];exact sext n hn'
 ·rcases ent n b hb with⟨g1,gx⟩|⟨q,y,g1,g2,k1,k2,k3,e1⟩
  ·exact absurd o (nilOwn n b g1 gx).1
  ·rw[e1];exact snb q y g2 (k2.1 o)
 ·rcases ent n b hb with⟨g1,gx⟩|⟨q,y,g1,g2,k1,k2,k3,e1⟩
  ·exact absurd o ((nilOwn n b g1 gx).2 z)
  ·exact snz q y z g2 ((k3 z).1 o)
end
inductive Lf where
 |fin (outs:List Tm)
 |again (x:Hy)
 |brk (k:Nat) (x:Hy)
structure Xt where
 x:Ex
 t:qn
 n:Nat
inductive PL where
 |leaf (l:Lf)
 |ite (b:Bm) (x y:PL)
 |chk (b:Bm) (x:PL)
 |call (k:Nat) (ins:List Tm) (x:PL)
 |loop (id f0:Nat) (hd:qn) (ini:Hy) (e0 e1:Xt) (body r0 r1:PL)
 |stop
inductive iX where
 |fin (ds:List PD)
 |again (ds:List PD)
 |brk (k:Nat) (ds:List PD)
abbrev VO:=Nat->List PD->Option (List PD)
def kC(σ:dO):Nat:=(cz σ.outs).length+σ.io.length
def QH(e:List PD)(t:Tm):PD:=@Tm.pd (dt default e) t
def YW(e:List PD)(b:Bm):Bool:=@Bm.den (dt default e) b
def Km(e:List PD)(ty:Ty)(t:Tm):PD:=@Tm.at (dt default e) ty t
def m6(body:List PD->Option iX)(e:List PD):Nat->List PD->Option iX
 |0,_=>none
 |n+1,S=>match body (e++S)with
  |some (.again S')=>m6 body e n S'
  |r=>r
def den(N:Nat)(K:List (Nat×dO))(Φ:VO)(fo:List Ty):PL->List PD->Option iX
 | .leaf (.fin outs),e=>some (.fin (List.zipWith (Km e) fo outs))
 | .leaf (.again x),e=>some (.again (x.vals.map (QH e)))
 | .leaf (.brk k x),e=>some (.brk k (x.vals.map (QH e)))
 | .ite b x y,e=>bif YW e b then den N K Φ fo x e else den N K Φ fo y e
 | .chk b x,e=>bif YW e b then den N K Φ fo x e else none
 | .call k ins x,e=>match K[k]? with
  |some (_,σ)=>(match Φ k (List.zipWith (Km e) σ.ins ins)with
   |some rs=>bif Nat.beq rs.length (kC σ)then den N K Φ fo x (e++rs)else none
   |none=>none)
  |none=>none
 | .loop _ _ _ ini _ _ body r0 r1,e=>match m6 (den N K Φ fo body) e N (ini.vals.map (QH e))with
  |some (.brk 0 X)=>den N K Φ fo r0 (e++X)
  |some (.brk (_+1) X)=>den N K Φ fo r1 (e++X)
  |_=>none
 | .stop,_=>none
structure LF where
 id:Nat
 f0:Nat
 hd:qn
 m:Nat
 ini:Hy
 x:Ex
 t:qn
def lfF:List LF->sP
 | [],_,_,_,_=>none
 |l::r,i,T,H,f=>bif Nat.beq l.id i&&(Nat.beq l.f0 f&&X8 l.m l.f0 l.ini l.hd T H)then some (l.x,l.t.T,l.t.H,l.t.f)else lfF r i T H f
inductive Fv where
 |fn (σ:dO) (rs:List ResultVar)
 |lp (m f0 ns:Nat) (hd:qn) (e0 e1:Xt)
structure Cx where
 P:Program
 tab:List (Nat×Func)
 lf:Nat
 dep:Nat
 fl:Nat
 K:List (Nat×dO)
 body:Code
abbrev aFW:Hy:=⟨[],[]⟩
def ahB{α:Type}(p:α->Bool):List α->Bool
 | []=>true
 |a::r=>p a&&ahB p r
theorem Fc{α:Type}{p:α->Bool}:∀ {l:List α},ahB p l=true->∀a∈l,p a=true
 | [],_,a,h=>by cases h
 |b::r,h,a,ha=>by
  simp only[ahB,ah]at h;rcases aS.1 ha with rfl|ha
  ·exact h.1
  ·exact Fc h.2 a ha
def rJ(g:Nat):Nat:=(g+1)*1000000
def wR(b:Nat):List Code->List (Nat×Nat×Code)
 | []=>[]
 |c::r=>match AA c with
  |some i=>(b+i,b,c)::wR b r
  |none=>wR b r
def kG:List (Nat×Func)->List (Nat×Nat×Code)
 | []=>[]
 |(g,fn)::r=>match fn.body with
  |some c=>(rJ g+999999,rJ g,c)::(wR (rJ g) (jV c)++kG r)
  |none=>kG r
def Cx.all(cx:Cx):List (Nat×Nat×Code):=wR 0 (jV cx.body)++kG cx.tab
def aiX(cx:Cx)(A:List (Bm×Bool))(C:List QG)(L:List LF)(b:Nat)(c:Code)(t:qn):Res:=
 letI:Fa:=⟨A,[],[],[],true⟩
 uG cx.P (P3 cx.P cx.tab cx.lf (ar8 cx.fl C) (fun g i=>lfF L (rJ g+i)) cx.dep) (fun i=>lfF L (b+i)) cx.lf c t.T t.H t.f
def ahc:Ex->Ex->Bool
 | .normal,.normal=>true
 | .exit i,.exit j=>Nat.beq i j
 | .ret,.ret=>true
 |_,_=>false
theorem EZ{a b:Ex}(h:ahc a b=true):a=b:=by
 cases a<;>cases b<;>simp only[ahc,aw]at h
 ·rfl
 ·rw[af h]
 ·rfl
def X0(q:Nat)(H:bt):List Nat->Bool
 | []=>true
 |n::r=>(!(Nat.beq n q))&&((match get H n with
  |some x=>frx x
  |none=>false)&&X0 q H r)
def AC(H:bt)(fl:Nat)[Fa]:List Ty->Nat->List SC->Option (List Tm)
 | [],_,[]=>some []
 | .lst _::r,i,c::cs=>(match c with
  | .dat n .root=>bif Nat.beq n i then(match AC H fl r (i+1) cs with
   |some l=>some (.ds i::l)
   |none=>none)else none
  |_=>none)
 |t::r,i,c::cs=>(match u0 H fl t c with
  |some (m,_)=>(match AC H fl r (i+1) cs with
   |some l=>some (m::l)
   |none=>none)
  |none=>none)
 |_,_,_=>none
def arD(cx:Cx)(A:List (Bm×Bool))(σ:dO)(rs:List ResultVar)(outs:List Tm)(T:List SV)(H:bt):Bool:=
 letI:Fa:=⟨A,[],[],[],true⟩
 match Q3 cx.P T H rs with
 |some srs=>(match fV H cx.fl σ.outs (srs.map .r)with
  |some (l,ns,none)=>T4 σ.outs&&(X0 σ.ins.length H ns&&(match σ.io with
   | []=>xJ outs l
   |io=>(match get H σ.ins.length with
    |some (.cells 0 e cs)=>Nat.beq e σ.ioT&&(match AC H cx.fl io (cz σ.args).length cs with
     |some l2=>xJ outs (l++l2)
     |none=>false)
    |_=>false)))
  |_=>false)
 |none=>false
def amP:bt->Bool
 | []=>false
 |(_,.rowL _ _ _ _ _ _ _ _)::_=>true
 |_::r=>amP r
def Kt(goal:Fv)(l:Lf):Bool:=match goal with
 | .fn _ _=>true
 | .lp _ _ _ hd e0 e1=>(match l with
  | .again _=> !(amP hd.H)
  | .brk 0 _=> !(amP e0.t.H)
  | .brk (_+1) _=> !(amP e1.t.H)
  |_=>false)
def ahn(A:List (Bm×Bool))(goal:Fv)(l:Lf)(r:Res):Res:=match r with
 |some (x,T,H,f)=>bif amP H&&Kt goal l then
   letI:Fa:=⟨A,[],[],[],true⟩
   some (x,T,(nv H H f).1,(nv H H f).2)else some (x,T,H,f)
 |none=>none
def Ym(cx:Cx)(A:List (Bm×Bool))(l:Lf)(goal:Fv)(r:Res):Bool:=match r with
 |some (x,T,H,f)=>(match goal with
  | .fn σ rs=>(match l with
   | .fin outs=>(ahc x .normal||ahc x .ret)&&arD cx A σ rs outs T H
   |_=>false)
  | .lp m f0 ns hd e0 e1=>(match l with
   | .again y=>ahc x .normal&&(Nat.beq y.vals.length ns&&X8 m f0 y hd T H)
   | .brk 0 y=>ahc x e0.x&&(Nat.beq y.vals.length e0.n&&X8 m f0 y e0.t T H)
   | .brk (_+1) y=>ahc x e1.x&&(Nat.beq y.vals.length e1.n&&X8 m f0 y e1.t T H)
   |_=>false))
 |none=>false
def pT(id:Nat):List (Nat×Nat×Code)->Option (Nat×Code)
 | []=>none
 |(k,b,c)::r=>bif Nat.beq k id then some (b,c)else pT id r
def lG(id:Nat):List (Nat×Nat×Code)->Nat
 | []=>0
 |(k,_,_)::r=>bif Nat.beq k id then lG id r+1 else lG id r
def KC(m:Nat)(t:qn):Bool:=X8 m t.f aFW t t.T t.H
def sd:Ex->Bool
 | .normal=>false
 |_=>true
def lT:PL->Bool
 | .leaf (.again _)=>false
 | .leaf _=>true
 | .ite _ x y=>lT x&&lT y
 | .chk _ x=>lT x
 | .call _ _ x=>lT x
 | .loop _ _ _ _ _ _ _ x y=>lT x&&lT y
 | .stop=>true
def sk:Code->Code
 | .loop x=>x
 |c=>c
def XM:Code->Bool
 | .loop _=>true
 |_=>false
def fw(cx:Cx):PL->Nat->Code->qn->Fv->Nat->List (Bm×Bool)->List QG->List LF->Bool
 | .leaf l,bs,c,t,goal,m,A,C,L=>Ym cx A l goal (ahn A goal l (aiX cx A C L bs c t))
 | .ite b x y,bs,c,t,goal,m,A,C,L=>bmt m [] b b&&(fw cx x bs c t goal m (A++[(b,true)]) C L&&fw cx y bs c t goal m (A++[(b,false)]) C L)
 | .chk b x,bs,c,t,goal,m,A,C,L=>bmt m [] b b&&fw cx x bs c t goal m (A++[(b,true)]) C L
 | .call k ins x,bs,c,t,goal,m,A,C,L=>(match cx.K[k]? with
  |some (g,σ)=>Nat.beq ins.length σ.ins.length&&(ahB (fun u=>mt m [] true u u) ins&&fw cx x bs c t goal (m+kC σ) A (C++[⟨g,σ,ins,m⟩]) L)
  |none=>false)
 | .loop id f0 hd ini e0 e1 body r0 r1,bs,c,t,goal,m,A,C,L=>(match pT id cx.all with
  |some (b',xb)=>Nat.beq (lG id cx.all) 1&&(ahB (fun u=>mt m [] true u u) ini.vals&&(KC (m+ini.vals.length) hd&&(KC (m+e0.n) e0.t&&(KC (m+e1.n) e1.t&&(Nat.ble f0 hd.f&&((bif XM xb then sd e0.x&&sd e1.x else lT body)&&
    (fw cx body b' (sk xb) hd (.lp m f0 ini.vals.length hd e0 e1) (m+ini.vals.length) A C L&&
     (fw cx r0 bs c t goal (m+e0.n) A C (L++[⟨id,f0,hd,m,ini,e0.x,e0.t⟩])&&fw cx r1 bs c t goal (m+e1.n) A C (L++[⟨id,f0,hd,m,ini,e1.x,e1.t⟩])))))))))
  |none=>false)
 | .stop,_,_,_,_,_,_,_,_=>true
theorem avA(w:World)(e:List PD)(t:Tm): @Tm.pd (dt w e) t=QH e t:=by
 unfold QH
 induction t<;>first|rfl|simp only[Tm.pd, *]
theorem aJX(w:World)(e:List PD)(b:Bm): @Bm.den (dt w e) b=YW e b:=by
 have key:∀t,@Tm.den (dt w e) t=@Tm.den (dt default e) t:=fun t=>congrArg PD.n (avA w e t)
 unfold YW;cases b<;>simp only[Bm.den,key]
theorem aw0(w:World)(e:List PD)(ty:Ty)(t:Tm): @Tm.at (dt w e) ty t=Km e ty t:=by have h:=avA w e t;unfold Km;unfold QH at h;cases ty<;>simp only[Tm.at,Tm.den,h]
theorem Wh{m:Nat}{w w':World}{e t:List PD}(h:e.length=m):Rel m [] w w' (e++t) e:=
 ⟨fun i hi=>by rw[ae,bl (by omega),<-ae],fun k s hk=>by simp at hk⟩
theorem aqd{m:Nat}{e:List PD}(h:e.length=m){t:Tm}(ht:mt m [] true t t=true)(r:List PD):QH (e++r) t=QH e t:=
 (iF (Wh (w:=default) (w':=default) (t:=r) h) t t true ht).2 rfl
theorem aCk{m:Nat}{e:List PD}(h:e.length=m){b:Bm}(hb:bmt m [] b b=true)(r:List PD):YW (e++r) b=YW e b:=
 P_ (Wh (w:=default) (w':=default) (t:=r) h) hb
theorem aCl{m:Nat}{e:List PD}(h:e.length=m){t:Tm}(ht:mt m [] true t t=true)(r:List PD)(ty:Ty):Km (e++r) ty t=Km e ty t:=by have h1: @Tm.pd (dt default (e++r)) t=@Tm.pd (dt default e) t:=aqd h ht r;unfold Km;cases ty<;>simp only[Tm.at,Tm.den,h1]
theorem aBf{f0:Nat}{U:Th}:uY f0 [] U=U:=by
 funext n
 unfold uY;cases Nat.blt n f0<;>rfl
theorem Sk{m:Nat}{w0:World}{e r:List PD}(h:e.length=m){t:qn}(ht:KC m t=true){θ0:Th}{G0:C3}{f0:Nat}{wS w:World}{U:Th}{a:Act}(hs: @dA (dt w0 e) θ0 G0 f0 wS U (get t.H) t.f w)(hT: @uV (dt w0 e) U t.f t.T a)(hf:f0<=t.f):
  @uV (dt w0 (e++r)) U t.f t.T a/\@dA (dt w0 (e++r)) θ0 G0 f0 wS U (get t.H) t.f w:=by
 obtain⟨⟨sok,sinj,⟨s1,sbel,s2,s3,s4⟩⟩,slt,sle,sext,sfr,ssz,sos,stape,soutput,snb,snz⟩:=hs;have hs': @dA (dt w0 e) U (get t.H) t.f w U (get t.H) t.f w:=@dA.refl (dt w0 e) _ _ _ _ (@b9.mk (dt w0 e) _ _ _ sok sinj (@Far.mk (dt w0 e) _ _ _ s1 sbel s2 s3 s4)) slt;obtain⟨k1,k2⟩:=EU (Wh (w:=w0) (w':=w0) (t:=r) h) ht hs' hT;rw[aBf]at k1 k2;obtain⟨⟨gok,ginj,⟨g1,gbel,g2,g3,g4⟩⟩,glt,_,_,_,_,_,_,_,_,_⟩:=k2;exact⟨k1,@dA.mk (dt w0 (e++r)) _ _ _ _ _ _ _ _ (@b9.mk (dt w0 (e++r)) _ _ _ gok ginj (@Far.mk (dt w0 (e++r)) _ _ _ g1 gbel g2 g3 g4)) glt sle sext sfr ssz sos stape soutput snb snz⟩
structure au9(cx:Cx):Prop where
 tab:bG cx.P cx.tab
 mix:cx.P.follows .mixedOrders=true
def AEv(e:List PD)(p:Bm×Bool):Prop:=∃ea t m,e=ea++t/\ea.length=m/\bmt m [] p.1 p.1=true/\YW ea p.1=p.2
def CEv(P:Program)(e:List PD)(a:QG):Prop:=∃ea rs t φ,e=ea++rs++t/\ea.length=a.m/\rs.length=kC a.σ/\(∀u∈a.ins,mt a.m [] true u u=true)/\Aq P a.g a.σ φ/\φ (List.zipWith (Km ea) a.σ.ins a.ins)=some rs
def aJ8(P:Program)(w0:World)(xb:Code)(l:LF)(ea X:List PD):Prop:=
 ∀ (θ0:Th) (G0:C3) (wS:World) (U:Th) (a:Act) (w:World) (Q:Exit->Act->World->Prop),@uV (dt w0 (ea++l.ini.vals.map (QH ea))) U l.hd.f l.hd.T a->@dA (dt w0 (ea++l.ini.vals.map (QH ea))) θ0 G0 l.f0 wS U (get l.hd.H) l.hd.f w->
  (∀a' U' w',@uV (dt w0 (ea++X)) U' l.t.f l.t.T a'->@dA (dt w0 (ea++X)) θ0 G0 l.f0 wS U' (get l.t.H) l.t.f w'->Q l.x.out a' w')->xb.wp P Q a w
def LEv(cx:Cx)(w0:World)(e:List PD)(l:LF):Prop:=∃ea X t,e=ea++X++t/\ea.length=l.m/\(∀u∈l.ini.vals,mt l.m [] true u u=true)/\KC (l.m+X.length) l.t=true/\∀b xb,(l.id,b,xb)∈cx.all->aJ8 cx.P w0 xb l ea X
theorem AEv.more{e r:List PD}{p:Bm×Bool}(h:AEv e p):AEv (e++r) p:=by obtain⟨ea,t,m,h1,h2,h3,h4⟩:=h;exact⟨ea,t++r,m,by rw[h1,dg],h2,h3,h4⟩
theorem CEv.more{P:Program}{e r:List PD}{a:QG}(h:CEv P e a):CEv P (e++r) a:=by obtain⟨ea,rs,t,φ,h1,h2⟩:=h;exact⟨ea,rs,t++r,φ,by rw[h1,dg],h2⟩
theorem LEv.more{cx:Cx}{w0:World}{e r:List PD}{l:LF}(h:LEv cx w0 e l):LEv cx w0 (e++r) l:=by obtain⟨ea,X,t,h1,h2⟩:=h;exact⟨ea,X,t++r,by rw[h1,dg],h2⟩
theorem xF(w0:World){e:List PD}{A:List (Bm×Bool)}(h:∀p∈A,AEv e p): @fN (dt w0 e) ⟨A,[],[],[],true⟩:=
 @fN.mk (dt w0 e) ⟨A,[],[],[],true⟩ (fun p hp=>by
  obtain⟨ea,t,m,h1,h2,h3,h4⟩:=h p hp;rw[aJX,h1,aCk h2 h3,h4]) (fun i hi=>by cases hi) (fun i hi=>by cases hi) (fun i hi=>by cases hi)
theorem aFY(w0:World){P:Program}{e:List PD}{a:QG}(h:CEv P e a): @QG.Ok (dt w0 e) P a:=by
 obtain⟨ea,rs,t,φ,h1,h2,h3,h4,h5,h6⟩:=h;refine @QG.Ok.mk (dt w0 e) _ _ ⟨φ,rs,h5,?_,fun i hi=>?_⟩
 ·rw[<-h6]
  congr 1
  have:∀ (ts:List Ty) (l:List Tm),(∀u∈l,mt a.m [] true u u=true)->List.zipWith (@Tm.at (dt w0 e)) ts l=List.zipWith (Km ea) ts l:=by
   intro ts
   induction ts with
   |nil=>intro l _;rfl
   |cons t ts ih=>
    intro l hl;cases l with
    |nil=>rfl
    |cons u l=>simp only[List.zipWith_cons_cons];rw[ih l fun v hv=>hl v (aU _ hv),aw0,h1,dg,aCl h2 (hl u (bN ..))]
  exact this _ _ h4
 ·have e1:e.getD (a.m+i) (.i 0)=rs.getD i (.i 0):=by
   rw[h1,dg,ae,bA (by omega),h2,cN,bl (by rw[h3];exact hi),<-ae]
  exact⟨e1,congrArg PD.n e1⟩
theorem avT{L:List LF}{i:Nat}{T:List SV}{H:bt}{f:Nat}{r:Ex×List SV×bt×Nat}(h:lfF L i T H f=some r):∃l∈L,l.id=i/\l.f0=f/\X8 l.m l.f0 l.ini l.hd T H=true/\r=(l.x,l.t.T,l.t.H,l.t.f):=by
 induction L with
 |nil=>cases h
 |cons l L ih=>
  simp only[lfF]at h;cases hc:(Nat.beq l.id i&&(Nat.beq l.f0 f&&X8 l.m l.f0 l.ini l.hd T H))with
  |false=>rw[hc]at h;obtain⟨q,hq,hr⟩:=ih h;exact⟨q,aU _ hq,hr⟩
  |true=>rw[hc]at h;simp only[aP,ad]at h;simp only[ah]at hc;exact⟨l,bN ..,af hc.1,af hc.2.1,hc.2.2,h.symm⟩
theorem avq{m:Nat}{w0:World}{ea r:List PD}{vals:List Tm}(h:ea.length=m)(hv:∀u∈vals,mt m [] true u u=true):Rel m vals w0 w0 (ea++vals.map (QH ea)) (ea++r):=
 ⟨fun i hi=>by rw[ae,bl (by omega),ae,bl (by omega)],fun k s hk=>by
  rw[ae,bA (by omega),h,cN,aM,hk,avA,aqd h (hv s (bS hk))]
  rfl⟩
theorem aFE{cx:Cx}{w0:World}{e:List PD}{L:List LF}(hL:∀l∈L,LEv cx w0 e l){k bs:Nat}{xb:Code}(hk:(k,bs,xb)∈cx.all){T T':List SV}{H H':bt}{f f':Nat}{x:Ex}(h:lfF L k T H f=some (x,T',H',f')): @R8 (dt w0 e) cx.P xb T H f x T' H' f':=by
 obtain⟨l,hl,h1,h2,h3,h4⟩:=avT h;simp only[aA]at h4;obtain⟨rfl,rfl,rfl,rfl⟩:=h4;obtain⟨ea,X,t,g1,g2,g3,g4,g5⟩:=hL l hl;intro U a w Q ht hm hlt hq;have hsem:=g5 bs xb (by rw[h1];exact hk)
 have hs: @dA (dt w0 e) U (get H) l.f0 w U (get H) f w:=by rw[h2];exact @dA.refl (dt w0 e) _ _ _ _ hm hlt
 have R:Rel l.m l.ini.vals w0 w0 (ea++l.ini.vals.map (QH ea)) e:=by rw[g1,dg];exact avq g2 g3
 obtain⟨k1,k2⟩:=EU R h3 hs ht;refine hsem U (get H) w _ a w Q k1 k2 fun a' U' w' t' s'=>?_
 have hle:l.f0<=l.t.f:=by obtain⟨_,_,hle,_⟩:=s';exact hle
 obtain⟨q1,q2⟩:=Sk (r:=t) (by rw[ba,g2]) g4 s' t' hle
 rw[<-g1]at q1 q2;rw[h2]at q2;exact hq a' U' w' q1 q2
theorem aqD{cx:Cx}{w0:World}{e:List PD}{L:List LF}(hL:∀l∈L,LEv cx w0 e l){c:Code}{bs:Nat}(hc:∀z∈jV c,∀i,AA z=some i->(bs+i,bs,z)∈cx.all): @yi (dt w0 e) cx.P (fun i=>lfF L (bs+i)) c:=
 fun xb hxb i hi T H f x T' H' f' h=>aFE hL (hc xb hxb i hi) h
theorem aCj{cx:Cx}{w0:World}{e:List PD}{L:List LF}(hL:∀l∈L,LEv cx w0 e l){c:Code}{bs:Nat}(hc:(bs+999999,bs,c)∈cx.all): @aiv (dt w0 e) cx.P (fun i=>lfF L (bs+i)) c:=
 fun T H f x T' H' f' h=>aFE hL hc h
def aJ'(cx:Cx)(w0:World)(PF:List PD->Exit->Act->World->Prop)(goal:Fv)(eb:List PD)(o:iX)(θ0:Th)(G0:C3)(wS:World)(x:Exit)(a:Act)(w:World):Prop:=match goal with
 | .fn _ _=>∃ds,o= .fin ds/\PF ds x a w
 | .lp _ f0 ns hd e0 e1=>match o with
  | .again S=>x= .normal/\S.length=ns/\∃U,@uV (dt w0 (eb++S)) U hd.f hd.T a/\@dA (dt w0 (eb++S)) θ0 G0 f0 wS U (get hd.H) hd.f w
  | .brk 0 X=>x=e0.x.out/\X.length=e0.n/\∃U,@uV (dt w0 (eb++X)) U e0.t.f e0.t.T a/\@dA (dt w0 (eb++X)) θ0 G0 f0 wS U (get e0.t.H) e0.t.f w
  | .brk (_+1) X=>x=e1.x.out/\X.length=e1.n/\∃U,@uV (dt w0 (eb++X)) U e1.t.f e1.t.T a/\@dA (dt w0 (eb++X)) θ0 G0 f0 wS U (get e1.t.H) e1.t.f w
  |_=>False
def aJf(goal:Fv)(o:iX):Prop:=match goal with
 | .fn _ _=>True
 | .lp _ _ ns _ e0 e1=>match o with
  | .again S=>S.length=ns
  | .brk 0 X=>X.length=e0.n
  | .brk (_+1) X=>X.length=e1.n
  |_=>True
theorem akw{cx:Cx}{N:Nat}{Φ:VO}{fo:List Ty}{goal:Fv}:∀ {pl:PL} {bs:Nat} {c:Code} {t:qn} {m:Nat} {A:List (Bm×Bool)} {C:List QG} {L:List LF} {e:List PD} {o:iX},fw cx pl bs c t goal m A C L=true->den N cx.K Φ fo pl e=some o->aJf goal o:=by
 intro pl
 induction pl with
 |leaf l=>
  intro bs c t m A C L e o hc hd;simp only[fw,Ym]at hc;split at hc
  ·cases goal with
   |fn σ rs=>trivial
   |lp m' f0 ns hd' e0 e1=>
    cases l with
    |fin outs=>simp at hc
    |again y=>
     simp only[ah]at hc;simp only[den,ad]at hd;subst hd
     show(y.vals.map _).length=ns
     rw[bO];exact af hc.2.1
    |brk k y=>
     simp only[den,ad]at hd;subst hd;cases k with
     |zero=>
      simp only[ah]at hc
      show(y.vals.map _).length=e0.n
      rw[bO];exact af hc.2.1
     |succ k=>
      simp only[ah]at hc
      show(y.vals.map _).length=e1.n
      rw[bO];exact af hc.2.1
  ·cases hc
 |ite b x y ihx ihy=>
  intro bs c t m A C L e o hc hd;simp only[fw,ah]at hc;simp only[den]at hd;cases hb:YW e b with
  |true=>rw[hb]at hd;exact ihx hc.2.1 hd
  |false=>rw[hb]at hd;exact ihy hc.2.2 hd
 |chk b x ih=>
  intro bs c t m A C L e o hc hd;simp only[fw,ah]at hc;simp only[den]at hd;cases hb:YW e b with
  |true=>rw[hb]at hd;exact ih hc.2 hd
  |false=>rw[hb]at hd;cases hd
 |call k ins x ih=>
  intro bs c t m A C L e o hc hd;simp only[fw]at hc;simp only[den]at hd;split at hc
  ·rename_i g σ hk;rw[hk]at hd;simp only at hd;simp only[ah]at hc;split at hd
   ·rename_i rs hrs;cases hl:Nat.beq rs.length (kC σ)with
    |false=>rw[hl]at hd;cases hd
    |true=>rw[hl]at hd;exact ih hc.2.2 hd
   ·cases hd
  ·cases hc
 |loop id f0 hd' ini e0 e1 body r0 r1 ihb ih0 ih1=>
  intro bs c t m A C L e o hc hd;simp only[fw]at hc;split at hc
  ·rename_i b' xb hxb;simp only[ah]at hc;obtain⟨_,_,_,_,_,_,_,_,h0,h1⟩:=hc;simp only[den]at hd;split at hd
   ·exact ih0 h0 hd
   ·exact ih1 h1 hd
   ·cases hd
  ·cases hc
 |stop=>intro bs c t m A C L e o hc hd;simp[den]at hd
end Go.Proofs.YtlchkibailfldaaGreat.Ex
