/-
  Part 3 of the proof that TopTiles returns true at every call and leaves what it was given as it was; no condition beyond the row's own.
-/
import Derived.Laws.StructEq
import Derived.Orders
import Derived.Test.YtlchkibailfldaaGreatM02
set_option linter.unusedVariables false
set_option linter.unusedSimpArgs false
set_option linter.unusedSectionVars false
namespace Go.Proofs.YtlchkibailfldaaGreat.Ex
open Go Go.RowKit
section
variable [Sy][Fa][fN]
section
variable {P:Program}{o:Oper}{V:Operand->Value}{ev:Operand->Option SV}{U:Th}{H H':bt}{f f':Nat}{w:World}{v:SV}
def ayZ(k:Ty)(L t:Tm)(es o:Nat)(m:Tm):Tm:=match k with
 | .lst _=> .setD L t es o m
 |_=> .set L t es o m
theorem alY(k:Ty)(L t:Tm)(es o:Nat)(m:Tm):(ayZ k L t es o m).pd.q=L.pd.q.set (t.nat*es+o) (m.at k):=by cases k<;>rfl
def rV(H:bt)(fl:Nat)(ks:List Ty)(t:Tm)(es:Nat):Nat->Tm->List SC->Option (Tm×List Nat)
 |_,L,[]=>some (L,[])
 |o,L,c::r=>match ks[o]? with
  |some k=>match u0 H fl k c with
   |some (m,ns)=>match rV H fl ks t es (o+1) (ayZ k L t es o m) r with
    |some (L',ns')=>some (L',ns++ns')
    |none=>none
   |none=>none
  |none=>none
theorem vP(hm:b9 U (get H) w){fl:Nat}{ks:List Ty}{t:Tm}{es:Nat}:∀ {cs:List SC} {o:Nat} {L L':Tm} {ns:List Nat},rV H fl ks t es o L cs=some (L',ns)->t.nat*es+o+cs.length<=L.pd.q.length->L'.pd.q.length=L.pd.q.length/\(∀j,j<t.nat*es+o\/t.nat*es+o+cs.length<=j->L'.pd.q.getD j (.i 0)=L.pd.q.getD j (.i 0))/\
  ∀j c,cs[j]?=some c->∃ty,ks[o+j]?=some ty/\gV w (Zn U H ns) ty (L'.pd.q.getD (t.nat*es+o+j) (.i 0)) (c.val U)
 | [],o,L,L',ns,h,hf=>by
  simp only[rV,ad,aA]at h;obtain⟨rfl,rfl⟩:=h;exact⟨rfl,fun j _=>rfl,fun j c hj=>by simp at hj⟩
 |c::r,o,L,L',ns,h,hf=>by
  simp only[rV]at h;split at h
  ·rename_i k hk;split at h
   ·rename_i m n1 hre;split at h
    ·rename_i L2 n2 hset;simp only[ad,aA]at h;obtain⟨rfl,rfl⟩:=h;have hl:=alY k L t es o m;simp only[cj]at hf;obtain⟨s1,s2,s3⟩:=vP hm hset (by rw[hl,dJ];omega)
     rw[hl,dJ]at s1;obtain⟨vt,e1,e2⟩:=m_ hm _ _ _ _ _ hre;refine⟨s1,fun j hj=>?_,fun j c' hj=>?_⟩
     ·simp only[cj]at hj;rw[s2 j (by omega),hl,ae,dF,ak (by omega),<-ae]
     ·cases j with
      |zero=>
       simp only[bn,ad]at hj;subst hj;refine⟨k,hk,vt,e1,?_⟩;rw[ch,s2 _ (by omega),hl,ae,dF,ab rfl,ab (by omega)]
       exact e2.keep (fun _ _=>rfl) (Zn.more fun q hq=>cq _ hq)
      |succ j=>
       rw[bk]at hj;obtain⟨ty',e1,e2⟩:=s3 j c' hj;refine⟨ty',by rw[<-e1];congr 1;omega,?_⟩
       have:=e2.keep (fun _ _=>rfl) (Zn.more (c:=n1++n2) fun q hq=>ci _ hq)
       rw[show t.nat*es+o+(j+1)=t.nat*es+(o+1)+j by omega]
       exact this
    ·cases h
   ·cases h
  ·cases h
theorem mO:∀ {ns:List Nat} {H:bt} {m:Nat},m∉ns->get (ma H ns) m=get H m
 | [],H,m,h=>rfl
 |n::r,H,m,h=>by
  simp only[aS,not_or]at h;simp only[ma];split
  ·rename_i x hx;cases ho:ownB x with
   |true=>simp only[aP];rw[mO h.2,Px,ak (fun e=>h.1 e.symm)]
   |false=>simp only[cD];exact mO h.2
  ·exact mO h.2
def aeA(P:Program)(fl:Nat)(H:bt)(t:TypeId)(x y:Option SV)(f:Nat):Option (bt×Nat):=match pf P t with
 |some (s,_)=>match x with
  |some (.r (.one c))=>match al3 H c with
   |some (n,u,es,o)=>match Lk H n u es with
    |some (kc,e,ks,L,z)=>match y with
     |some (.r q)=>bif Nat.beq (ff q).length s&&(Nat.blt 0 s&&Nat.ble (o+s) es)then(match rV H fl ks u es o L (ff q)with
      |some (L',ns)=>bif rA n ns then none else some (put (ma H ns) n (.row kc es e ks L' ⟨some f,z.fr&&ig H ns⟩),f+1)
      |none=>none)else none
     |_=>none
    |none=>none
   |none=>none
  |_=>none
 |none=>none
theorem alA{fl:Nat}{t:TypeId}{x y:Operand}(ho:o.op= .store t x y)(h:aeA P fl H t (ev x) (ev y) f=some (H',f'))(hm:b9 U (get H) w)(hl:ga f (get H))(ha:kA U f ev V o):bB P o V U H f w .undef H' f':=by
 unfold aeA at h;split at h
 ·rename_i s b hs;split at h
  ·rename_i c hx;split at h
   ·rename_i n u es off hrp;split at h
    ·rename_i kc e ks L z hr;split at h
     ·rename_i q hy;cases hc:(Nat.beq (ff q).length s&&(Nat.blt 0 s&&Nat.ble (off+s) es))with
      |false=>rw[hc]at h;cases h
      |true=>
       rw[hc]at h;simp only[aP]at h;simp only[ah]at hc;obtain⟨c1,c2,c3⟩:=hc;have c1:=af c1;rw[bT]at c2;have c3:=bY c3;split at h
       ·rename_i L' ns hset;cases hmem:rA n ns with
        |true=>rw[hmem]at h;cases h
        |false=>
         rw[hmem]at h;simp only[cD,ad,aA]at h;obtain⟨rfl,rfl⟩:=h;have hnn:n∉ns:=fun hin=>by rw[zh hin]at hmem;cases hmem
         have hx:=ha x (by simp[ho,Op.operands]) _ hx
         have hy:=ha y (by simp[ho,Op.operands]) _ hy
         obtain⟨y',hy',hv,⟨hb,hbz⟩,⟨hown,hzb⟩,hes,hlt,_⟩:=vT hr hm;have hfit:u.nat*es+off+(ff q).length<=L.pd.q.length:=by
          have:=acD (m:=0) hlt hes (show off+s-1<es by omega)
          omega
         obtain⟨s1,s2,s3⟩:=vP hm hset hfit;have hnf:n<f:=(hl n _ hy').1;rcases hb with⟨_,g2,_⟩|⟨g1,arr,g2,g3,g4⟩
         ·rw[g2,dr]at hfit;omega
         have oy:gG U n y':=hown.2 g1;generalize hvs:(ff q).map (SC.val U)=vs;have hvl:vs.length=s:=by rw[<-hvs,bO,c1]
         generalize hq:u.nat*es+off=q0;rw[hq]at hfit s2 s3;have hsz:(U n).sh+L.pd.q.length<=arr.size:=by
          obtain⟨t,u,_,_,h⟩:=g3 (L.pd.q.length-1) (by omega)
          obtain⟨h4,_⟩:=cP.1 h;omega
         have hone:∀v∈vs,v.oneCell'=true:=fun v hv=>by
          rw[<-hvs]at hv;obtain⟨q,_,rfl⟩:=eH.1 hv;exact SC.one q
         have hfit':(U n).sh+q0+vs.length<=arr.toList.length:=by simp;omega
         have hst:=run_storeCells_at P (U n).b ((U n).sh+q0) e vs 0 arr w g2 (by simp at hfit' ⊢;omega) hone
         obtain⟨w',hw',hst⟩:∃w',w.setRow (U n).b (ja arr.toList ((U n).sh+q0) vs).toArray=w'/\(storeCells ⟨(U n).b,(U n).sh+q0+0,none⟩ vs).run P w= .ok () w':=⟨_,rfl,hst⟩;have hw:∀b,b≠(U n).b->w'.heap[b]?=w.heap[b]? :=fun b hb=>by rw[<-hw'];exact setRow_other w _ b _ hb
         generalize hθ:hU U f ⟨0,0,0,⟨false,.no,fun b=>cu U z b\/Zn U H ns b⟩⟩=U'
         have hθl:∀k,k<f->U' k=U k:=fun k hk=>by rw[<-hθ];exact e9 hk
         have hθn:U' n=U n:=hθl n hnf;have hzo:∀b,cu U' ⟨some f,z.fr&&ig H ns⟩ b↔(cu U z b\/Zn U H ns b):=fun b=>by simp only[cu,<-hθ,bK]
         have hZp:∀b,Zn U H ns b->Zp U H [] ns b:=fun b hb=> .inr hb
         have hZ1:∀b,(cu U z b\/Zn U H ns b)->b≠(U n).b:=fun b hb=>by
          rcases hb with hb|hb
          ·exact(hbz b hb).2.1 g1
          ·exact((hZp b hb).far hm hy' oy hnn).symm
         have hZk:∀b,(cu U z b\/Zn U H ns b)->w'.heap[b]?=w.heap[b]? :=fun b hb=>hw b (hZ1 b hb)
         have hgn:∀k y,get (put (ma H ns) n (.row kc es e ks L' ⟨some f,z.fr&&ig H ns⟩)) k=some y->(k=n/\y= .row kc es e ks L' ⟨some f,z.fr&&ig H ns⟩)\/(k≠n/\get H k=some y/\(ownB y=true->k∉ns)):=fun k y hk=>by
          rw[ur]at hk;split at hk
          ·rename_i e';subst e';rw[mO hnn,hy']at hk;simp at hk;exact .inl ⟨rfl,hk.symm⟩
          ·rename_i e';obtain⟨h1,h2⟩:=mP hk;exact .inr ⟨fun e2=>e' e2.symm,h1,h2⟩
         have hothers:∀k y,k≠n->get (put (ma H ns) n (.row kc es e ks L' ⟨some f,z.fr&&ig H ns⟩)) k=some y->get H k=some y/\(ownB y=true->k∉ns):=fun k y hk h=>by
          rcases hgn k y h with⟨h1,_⟩|⟨_,h2⟩
          ·exact absurd h1 hk
          ·exact h2
         refine⟨U',w',.inr ⟨?_,rfl⟩,vG (n:=n) (y:= .row kc es e ks L' ⟨some f,z.fr&&ig H ns⟩) hm hl hθl (Nat.le_succ f) (by omega) (by simp[SB.ltB,RZ.ltB]) ⟨.inr ⟨by rw[hθn];exact g1,(ja arr.toList ((U n).sh+q0) vs).toArray,?_,fun j hj=>?_,fun hk=>?_⟩,fun b hb=>?_⟩ (fun k y h=>by
          rcases hgn k y h with h1|⟨h1,h2,_⟩
          ·exact .inl h1
          ·exact .inr ⟨h1,h2⟩) (fun _=> .inl ⟨n,y',hy',oy,by rw[hθn]⟩) (fun _ k y b hk h hu=>?_) (fun b hb k y hk h hok=>?_) (fun b hb=> .inl ?_) (fun k y b hk h hu=>?_) (fun b hb hno=>hw b fun e'=>hno n y' hy' oy e'.symm) (by rw[<-hw'];simp[World.setRow]) (by rw[<-hw'];rfl) (by rw[<-hw'];rfl) (by rw[<-hw'];rfl),rfl⟩
         ·have hcl:(q.val U).cells=((ff q).map (SC.val U)).toArray:=ko q;have e1:V x= .pointer (some (U.addr n q0)):=by rw[<-hq];exact hx.1.trans (Du hrp U).1
          have e2:V y=q.val U:=hy.1;have hst':(storeCells (U.addr n q0) vs).run P w= .ok () w':=hst;simp[execOp,ho,e1,e2,Instr.storeAt,Instr.sureAddr,storeVar,hcl,(iQ hs w).2,hvs,hvl,hst']
         ·rw[hθn,<-hw'];exact setRow_heap w _ _ _ _ _ g2
         ·rw[s1]at hj;rw[hθn];obtain⟨t,uu,k1,k2,k3⟩:=g3 j hj;have hget:(ja arr.toList ((U n).sh+q0) vs).toArray[(U n).sh+j]?=if(U n).sh+j<(U n).sh+q0 then arr[(U n).sh+j]? else if(U n).sh+j<(U n).sh+q0+vs.length then vs[(U n).sh+j-((U n).sh+q0)]? else arr[(U n).sh+j]? :=by
           rw[eF,ly hfit',b8]
          by_cases hin:q0<=j/\j<q0+vs.length
          ·obtain⟨cc,hcc⟩:∃cc,(ff q)[j-q0]?=some cc:=⟨_,aj (by omega)⟩
           obtain⟨t',e1,e2⟩:=s3 (j-q0) cc hcc;rw[show q0+(j-q0)=j by omega]at e2
           refine⟨t',cc.val U,?_,e2.keep (fun b hb=>hZk b (.inr hb)) (fun b hb=>(hzo b).2 (.inr hb)),?_⟩
           ·have h6:=Yf (t:=u.nat) (es:=es) (o:=off+(j-q0)) (by omega)
            have h5:j%es=off+(j-q0):=by rw[<-h6];congr 1;omega
            rw[h5];exact e1
           ·rw[hget,ak (by omega),ab (by omega),show(U n).sh+j-((U n).sh+q0)=j-q0 by omega,<-hvs,aM,hcc];rfl
          ·refine⟨t,uu,k1,by rw[s2 j (by omega)];exact k2.keep (fun b hb=>hZk b (.inl hb)) (fun b hb=>(hzo b).2 (.inl hb)),?_⟩
           rw[hget];split
           ·exact k3
           ·rw[ak (by omega)];exact k3
         ·obtain⟨k1,k2,k3,m,k4,k5⟩:=g4 hk;rw[hθn];refine⟨k1,?_,k3,m,by rw[s1];exact k4,k5⟩
          rw[iA,od hfit',fe,k2]
         ·have hb:=(hzo b).1 hb;rw[hθn];refine⟨?_,fun _=>hZ1 b hb,fun hfre=>?_⟩
          ·have:b<w.heap.size:=by
            rcases hb with hb|hb
            ·exact(hbz b hb).1
            ·exact(hZp b hb).lt hm
           rw[<-hw'];simpa[World.setRow]using this
          ·have hfre:(z.fr&&ig H ns)=true:=hfre;rw[ah]at hfre;rcases hb with hb|hb
           ·exact(hbz b hb).2.2 hfre.1
           ·exact(hZp b hb).fresh hm rfl hfre.2
         ·obtain⟨h1,_⟩:=hothers k y hk h;rw[hθn];exact(hm.inj n k y' y b hy' h1 (fun e'=>hk e'.symm) oy hu).symm
         ·obtain⟨h1,h2⟩:=hothers k y hk h;rcases(hzo b).1 hb with hb|hb
          ·exact hm.inj k n y y' b h1 hy' hk hok (.inr ((hzb b).1 hb))
          ·exact(hZp b hb).far hm h1 hok (h2 hok.ownB)
         ·rcases(hzo b).1 hb with hb|⟨k,_,y,hy,hu⟩
          ·exact⟨n,y',hy',.inr ((hzb b).1 hb)⟩
          ·exact⟨k,y,hy,hu⟩
         ·obtain⟨h1,_⟩:=hothers k y hk h;exact hw b (hm.inj n k y' y b hy' h1 (fun e'=>hk e'.symm) oy hu).symm
       ·cases h
     ·cases h
    ·cases h
   ·cases h
  ·cases h
 ·cases h
def kY(n:Nat)(fr:Bool)(ks:List Ty)(L u:Tm)(es:Nat):Nat->Nat->bt->Nat->Option (List SC×bt×Nat)
 |_,0,H,f=>some ([],H,f)
 |o,s+1,H,f=>match ks[o]? with
  |some (.lst us)=>match kY n fr ks L u es (o+1) s ((f,.frz fr us (.el L u es o))::H) (f+1)with
   |some (l,H',f')=>some (.dat f .root::l,H',f')
   |none=>none
  |_=>match Dv ks L u es o with
   |some c=>match kY n fr ks L u es (o+1) s H f with
    |some (l,H',f')=>some (c::l,H',f')
    |none=>none
   |none=>none
theorem Ca{n:Nat}{fr:Bool}{ks:List Ty}{L u:Tm}{es:Nat}{Z:Nat->Prop}{vals:Nat->Value}:∀ {s o:Nat} {H:bt} {f:Nat} {U:Th} {l:List SC} {H':bt} {f':Nat},kY n fr ks L u es o s H f=some (l,H',f')->b9 U (get H) w->ga f (get H)->
  (∀j ty,o<=j->j<o+s->ks[j]?=some ty->gV w Z ty (L.pd.q.getD (u.nat*es+j) (.i 0)) (vals j))->
  (∀b,Z b->b<w.heap.size/\(fr=true->IR b)/\(∀m y,get H m=some y->gG U m y->(U m).b≠b)/\∃k y,get H k=some y/\fc U k y b)->
  ∃U',dA U (get H) f w U' (get H') f' w/\l.length=s/\∀j c,l[j]?=some c->c.val U'=vals (o+j)/\c.ltB f'=true
 |0,o,H,f,U,l,H',f',h,hm,hl,hv,hz=>by
  simp only[kY,ad,aA]at h;obtain⟨rfl,rfl,rfl⟩:=h;exact⟨U,dA.refl hm hl,rfl,fun j c hj=>by simp at hj⟩
 |s+1,o,H,f,U,l,H',f',h,hm,hl,hv,hz=>by
  simp only[kY]at h;split at h
  ·rename_i us hk;split at h
   ·rename_i l' H2 f2 hr;simp only[ad,aA]at h;obtain⟨rfl,rfl,rfl⟩:=h;obtain⟨vt,v1,v2⟩:=hv o _ (bD _) (by omega) hk
    have hfb:∀b,Zb (hU U f ⟨0,0,0,⟨false,vt,Z⟩⟩) f (.frz fr us (.el L u es o)) b↔Z b:=fun b=>by simp only[Zb,bK]
    have st:=Zh hm hl ⟨0,0,0,⟨false,vt,Z⟩⟩ (.frz fr us (.el L u es o)) (fun h=>h) ⟨by rw[bK];exact v2,fun b hb=>by rw[bK]at hb;exact⟨(hz b hb).1,(hz b hb).2.1⟩⟩ rfl
     (fun b hb m y hy ho=>(hz b ((hfb b).1 hb)).2.2.1 m y hy ho) (fun b hb=> .inl (hz b ((hfb b).1 hb)).2.2.2)
    obtain⟨U',st',h1,h2⟩:=Ca hr st.m st.lt (fun j ty h1 h2 h3=>hv j ty (by omega) (by omega) h3) (fun b hb=>by
     obtain⟨z1,z2,z3,k,y,z4,z5⟩:=hz b hb;refine⟨z1,z2,fun m y hy ho=>?_,k,y,?_,?_⟩
     ·rw[di]at hy;split at hy
      ·cases hy;exact ho.elim
      ·have hmf:=(hl m y hy).1;rw[gG.ext (e9 hmf)]at ho;rw[e9 hmf];exact z3 m y hy ho
     ·rw[di,ak (by have:=(hl k y z4).1;omega)];exact z4
     ·rw[fc.ext (hl k y z4) (fun q hq=>e9 hq)];exact z5)
    refine⟨U',st.trans st',by simp[h1],fun j c hj=>?_⟩
    cases j with
    |zero=>
     simp only[bn,ad]at hj;subst hj;have hle:=st'.le;refine⟨?_,by simp[SC.ltB];omega⟩
     show xY (U' f).x.t.v=_
     rw[st'.ext f (g7 f),bK,ch,<-v1];exact yF v2
    |succ j=>rw[bk]at hj;obtain⟨g1,g2⟩:=h2 j c hj;exact⟨by rw[g1];congr 1;omega,g2⟩
   ·cases h
  ·split at h
   ·rename_i c hc;split at h
    ·rename_i l' H2 f2 hr;simp only[ad,aA]at h;obtain⟨rfl,rfl,rfl⟩:=h;obtain⟨U',st',h1,h2⟩:=Ca hr hm hl (fun j ty h1 h2 h3=>hv j ty (by omega) (by omega) h3) hz
     refine⟨U',st',by simp[h1],fun j c' hj=>?_⟩
     cases j with
     |zero=>simp only[bn,ad]at hj;subst hj;obtain⟨ty,e1,e2,e3⟩:=Bh hc U';exact⟨e2 w Z _ (hv o ty (bD _) (by omega) e1),e3 _⟩
     |succ j=>rw[bk]at hj;obtain⟨g1,g2⟩:=h2 j c' hj;exact⟨by rw[g1];congr 1;omega,g2⟩
    ·cases h
   ·cases h
def OU(P:Program)(H:bt)(t:TypeId)(x:Option SV)(f:Nat):Option (SV×bt×Nat):=match pf P t with
 |some (s,agg)=>match x with
  |some (.r (.one c))=>match al3 H c with
   |some (n,u,es,o)=>match Lk H n u es with
    |some (kc,e,ks,L,z)=>bif Nat.ble (o+s) es then(match kY n z.fr ks L u es o s H f with
     |some (l,H',f')=>(match anQ agg l with
      |some v=>some (v,H',f')
      |none=>none)
     |none=>none)else none
    |none=>none
   |none=>none
  |_=>none
 |none=>none
theorem ol{n:Nat}{fr:Bool}{ks:List Ty}{L u:Tm}{es:Nat}:∀ {s o:Nat} {H:bt} {f:Nat} {l:List SC} {H':bt} {f':Nat},kY n fr ks L u es o s H f=some (l,H',f')->f<=f'/\(f'=f->H'=H)
 |0,o,H,f,l,H',f',h=>by
  simp only[kY,ad,aA]at h;obtain⟨rfl,rfl,rfl⟩:=h;exact⟨bD _,fun _=>rfl⟩
 |s+1,o,H,f,l,H',f',h=>by
  simp only[kY]at h;split at h
  ·split at h
   ·rename_i l' H2 f2 hr;simp only[ad,aA]at h;obtain⟨rfl,rfl,rfl⟩:=h;have:=(ol hr).1;exact⟨by omega,fun e=>by omega⟩
   ·cases h
  ·split at h
   ·split at h
    ·rename_i l' H2 f2 hr;simp only[ad,aA]at h;obtain⟨rfl,rfl,rfl⟩:=h;exact ol hr
    ·cases h
   ·cases h
theorem age{t:TypeId}{x:Option SV}(h:OU P H t x f=some (v,H',f'))(hff:f'=f):H'=H:=by
 unfold OU at h;split at h
 ·split at h
  ·split at h
   ·split at h
    ·generalize hc:Nat.ble _ _=bb at h;cases bb with
     |false=>cases h
     |true=>
      simp only[aP]at h;split at h
      ·rename_i l H2 f2 hld;split at h
       ·simp only[ad,aA]at h;obtain⟨_,rfl,rfl⟩:=h;exact(ol hld).2 hff
       ·cases h
      ·cases h
    ·cases h
   ·cases h
  ·cases h
 ·cases h
theorem Il{n:Nat}{fr:Bool}{ks:List Ty}{L u:Tm}{es:Nat}:∀ {s o:Nat} {H:bt} {f:Nat} {l:List SC} {H':bt} {f':Nat},kY n fr ks L u es o s H f=some (l,H',f')->f'=f+1->∃y,H'=(f,y)::H
 |0,o,H,f,l,H',f',h,hf=>by
  simp only[kY,ad,aA]at h;omega
 |s+1,o,H,f,l,H',f',h,hf=>by
  simp only[kY]at h;split at h
  ·split at h
   ·rename_i l' H2 f2 hr;simp only[ad,aA]at h;obtain⟨rfl,rfl,rfl⟩:=h;exact⟨_,(ol hr).2 hf⟩
   ·cases h
  ·split at h
   ·split at h
    ·rename_i l' H2 f2 hr;simp only[ad,aA]at h;obtain⟨rfl,rfl,rfl⟩:=h;exact Il hr hf
    ·cases h
   ·cases h
theorem amN{t:TypeId}{x:Option SV}(h:OU P H t x f=some (v,H',f'))(hff:f'=f+1):∃y,H'=(f,y)::H:=by
 unfold OU at h;split at h
 ·split at h
  ·split at h
   ·split at h
    ·generalize hc:Nat.ble _ _=bb at h;cases bb with
     |false=>cases h
     |true=>
      simp only[aP]at h;split at h
      ·rename_i l H2 f2 hld;split at h
       ·simp only[ad,aA]at h;obtain⟨_,rfl,rfl⟩:=h;exact Il hld hff
       ·cases h
      ·cases h
    ·cases h
   ·cases h
  ·cases h
 ·cases h
theorem aqI{t:TypeId}{x:Operand}(ho:o.op= .load t x)(h:OU P H t (ev x) f=some (v,H',f'))(hm:b9 U (get H) w)(hl:ga f (get H))(ha:kA U f ev V o):bB P o V U H f w v H' f':=by
 unfold OU at h;split at h
 ·rename_i s agg hs;split at h
  ·rename_i c hx;have hx:=ha x (by simp[ho,Op.operands]) _ hx
   split at h
   ·rename_i n u es off hrp;obtain⟨q1,q2⟩:=Du hrp U;split at h
    ·rename_i kc e ks L z hr;obtain⟨y,hy,hv,hb,⟨hown,hzb⟩,hes,hlt,_⟩:=vT hr hm;cases hc:Nat.ble (off+s) es with
     |false=>rw[hc]at h;cases h
     |true=>
      rw[hc]at h;simp only[aP]at h;have hc:=bY hc;split at h
      ·rename_i l H2 f2 hld;split at h
       ·rename_i v2 hv2;simp only[ad,aA]at h;obtain⟨rfl,rfl,rfl⟩:=h
        let vals:Nat->Value:=fun j=>(w.cell? ⟨(U n).b,(U n).sh+(u.nat*es+j),none⟩).getD Go.undef
        have hcell:∀j,j<es->∃ty uu,ks[j]?=some ty/\gV w (cu U z) ty (L.pd.q.getD (u.nat*es+j) (.i 0)) uu/\w.cell? ⟨(U n).b,(U n).sh+(u.nat*es+j),none⟩=some uu:=fun j hj=>by
         obtain⟨_,ty',uu,k1,k2,k3⟩:=rY hb (acD (m:=0) hlt hes hj);rw[Yf hj]at k1;exact⟨ty',uu,k1,k2,k3⟩
        have hnl:(U n).x.nl=false:=(rY hb (acD (m:=0) hlt hes hes)).1;obtain⟨U',st,l1,l2⟩:=Ca (vals:=vals) hld hm hl (fun j ty h1 h2 h3=>by
         obtain⟨ty',uu,k1,k2,k3⟩:=hcell j (by omega)
         rw[h3]at k1;cases k1
         show gV w _ ty _ ((w.cell? _).getD _)
         rw[k3];exact k2) (fun b hb'=>by
         obtain⟨z1,z2,z3⟩:=hb.2 b hb';refine⟨z1,z3,fun m y' hy' ho'=>?_,n,y,hy,.inr ((hzb b).1 hb')⟩
         by_cases hmn:m=n
         ·subst hmn;exact(z2 hnl).symm
         ·exact hm.inj m n y' y b hy' hy hmn ho' (.inr ((hzb b).1 hb')))
        obtain⟨r1,r2⟩:=pH (P:=P) (w:=w) (U:=U') (f:=f2) hs hv2 l1 ⟨(U n).b,(U n).sh+(u.nat*es+off),none⟩ rfl (fun j c hj=>by
         have hjl:j<s:=by rw[<-l1];exact(av.1 hj).1
         obtain⟨ty',uu,k1,k2,k3⟩:=hcell (off+j) (by omega)
         rw[(l2 j c hj).1]
         show w.cell? ⟨(U n).b,(U n).sh+(u.nat*es+off)+j,none⟩=some ((w.cell? _).getD _)
         rw[k3,show(U n).sh+(u.nat*es+off)+j=(U n).sh+(u.nat*es+(off+j))by omega,k3];rfl) (fun c hc=>by
         obtain⟨j,hj⟩:=dM hc;exact(l2 j c hj).2)
        have e1:V x= .pointer (some (U.addr n (u.nat*es+off))):=hx.1.trans q1;refine⟨U',w,.inl ?_,st,r2⟩;unfold Th.addr at e1;simp[execOp,ho,e1,Instr.loadAt,Instr.sureAddr,r1]
       ·cases h
      ·cases h
    ·cases h
   ·cases h
  ·cases h
 ·cases h
def aqz(P:Program)(fl:Nat)(t:TypeId)(x y:Option SV)(f:Nat)(H:bt):Option (SV×bt×Nat):=match x with
 |some (.r (.one a))=>match y with
  |some (.r (.one b))=>match iu a with
   |some (_,l)=>match iu b with
    |some (_,c)=>match P.underlying t with
     |some (.slice elem)=>match P.info? elem with
      |some i=>match o9 P elem with
       |some zs=>match oM P 10 elem with
        |some ks=>match lN H fl ks 0 zs .nil []with
         |some (E,[])=>bif (Nat.beq i.size zs.length&&(Nat.beq i.size ks.length&&Nat.blt 0 i.size))&&(nn l&&(oX l c&&(oX c (.lit 1000000)&&Nat.ble i.bytes 1024)))then some (.c (.osl f i.size (.lit 0) l),(f,.row true i.size elem ks (.repL l E) .no)::H,f+1)else none
         |_=>none
        |none=>none
       |none=>none
      |none=>none
     |_=>none
    |none=>none
   |none=>none
  |_=>none
 |_=>none
theorem acx{α:Type}(l:List α):∀ (n:Nat),(List.replicate n l).flatten.length=n*l.length/\∀ (d:α) (j:Nat),j<n*l.length->(List.replicate n l).flatten.getD j d=l.getD (j%l.length) d
 |0=>⟨by simp,fun d j hj=>by simp at hj⟩
 |n+1=>by
  obtain⟨h1,h2⟩:=acx l n;refine⟨by rw[List.replicate_succ,List.flatten_cons,ba,h1,co,dd,kv],fun d j hj=>?_⟩
  rw[co,dd]at hj;rw[List.replicate_succ,List.flatten_cons,ae,gq];split
  ·rename_i hlt;rw[kq hlt,<-ae]
  ·rename_i hge;have:=h2 d (j-l.length) (by omega)
   rw[<-ae,this]
   congr 1
   conv=>rhs;rw[show j=(j-l.length)+l.length by omega,Nat.add_mod_right]
theorem aqy{fl:Nat}{t:TypeId}{x y:Operand}(ho:o.op= .makeSlice t x y)(h:aqz P fl t (ev x) (ev y) f H=some (v,H',f'))(hm:b9 U (get H) w)(hl:ga f (get H))(ha:kA U f ev V o):bB P o V U H f w v H' f':=by
 unfold aqz at h;split at h
 ·rename_i a hx;split at h
  ·rename_i b hy;have hx:=(ha x (by simp[ho,Op.operands]) _ hx).1
   have hy:=(ha y (by simp[ho,Op.operands]) _ hy).1
   split at h
   ·rename_i k l hk;split at h
    ·rename_i k' c hk';have ex:V x= .int k l.den:=hx.trans (dE hk U);have ey:V y= .int k' c.den:=hy.trans (dE hk' U);split at h
     ·rename_i elem hu;split at h
      ·rename_i i hi;split at h
       ·rename_i zs hz;split at h
        ·rename_i ks hks;split at h
         ·rename_i E hre;cases hc:((Nat.beq i.size zs.length&&(Nat.beq i.size ks.length&&Nat.blt 0 i.size))&&(nn l&&(oX l c&&(oX c (.lit 1000000)&&Nat.ble i.bytes 1024))))with
          |false=>rw[hc]at h;cases h
          |true=>
           rw[hc]at h;simp only[aP,ad,aA]at h;obtain⟨rfl,rfl,rfl⟩:=h;simp only[ah]at hc;obtain⟨⟨c1,c0,cp⟩,c2,c3,c4,c5⟩:=hc;have c1:=af c1;have c0:=af c0;rw[bT]at cp;have d1:=lj c2;have d2:=gj c3;have d3:c.den<=1000000:=gj c4;have c5:=bY c5;obtain⟨zv,z1,z2,z3⟩:=jz hz;have hzero:i.zero=some zv:=by
            have:=z1 w;simp only[zeroValue,typeInfo,Sem.run_bind,run_program,Result.andThen_ok,hi,Sem.run_pure]at this;cases hq:i.zero with
            |none=>rw[hq]at this;simp at this
            |some q=>rw[hq]at this;simp at this;rw[this]
           have hbytes:(i.bytes:Int)*c.den<=281474976710656:=by
            have:(i.bytes:Int)*c.den<=1024*1000000:=iW (by omega) d3 (by omega) (by omega)
            omega
           have hr:=run_make (P:=P) w t elem i zv hu hi hzero k k' l.den c.den d1 d2 hbytes (by omega)
           have hzc:zv.cells=(zs.map (SC.val U)).toArray:=z2 U;obtain⟨us,ds,s1,s2,s3,s4,s5⟩:=na hm _ _ _ _ _ _ _ _ hre;have s3:E.pd.q=ds:=by rw[s3];rfl
           obtain⟨fl1,fl2⟩:=acx E.pd.q l.nat;have hlst:(Tm.repL l E).pd.q=(List.replicate l.nat E.pd.q).flatten:=rfl;have hEl:E.pd.q.length=i.size:=by rw[s3,s2,c1]
           have hlc:l.nat<=c.nat:=Int.toNat_le_toNat d2;have hblk:ek (hU U f ⟨w.heap.size,0,c.nat,xd⟩) (w.alloc (.cells (madeCells zv.cells (c.nat*i.size)) elem)) f (.row true i.size elem ks (.repL l E) .no):=by
            refine⟨.inr ⟨by rw[bK];rfl,_,by rw[bK];exact sx w _,fun j hj=>?_,fun _=>?_⟩,.no⟩
            ·rw[hlst,fl1,hEl]at hj;have hmod:j%i.size<i.size:=eN _ cp;obtain⟨q,hq⟩:∃q,zs[j%i.size]?=some q:=⟨_,aj (by omega)⟩
             obtain⟨ty,hty⟩:∃ty,ks[j%i.size]?=some ty:=⟨_,aj (by omega)⟩
             obtain⟨e1,e2⟩:=s4 _ q hq;refine⟨ty,q.val U,hty,⟨us.getD (j%i.size) .no,e1,?_⟩,?_⟩
             ·have:=fl2 (.i 0) j (by rw[hEl];exact hj)
              rw[hlst,this,hEl,s3];refine(e2 ty (by rw[bR,<-c0,Nat.mod_mod];exact hty)).keep (fun b hb=>?_) (fun b hb=>?_)
              ·obtain⟨_,hn,_⟩:=hb;cases hn
              ·obtain⟨_,hn,_⟩:=hb;cases hn
             ·rw[bK]
              show(madeCells zv.cells (c.nat*i.size))[0+j]?=_
              rw[bR,hzc];have hjc:j<c.nat*i.size:=dm hj (bM _ hlc);have hzl:(zs.map (SC.val U)).toArray.size=i.size:=by simp[c1]
              unfold madeCells;simp only[hzl];rw[Array.getElem?_map,Array.getElem?_range,ab hjc]
              show some _=some _
              congr 1
              show((List.map (SC.val U) zs).toArray[j%i.size]!)=_
              simp only[List.getElem!_toArray,List.getElem!_eq_getElem?_getD,aM,hq];rfl
            ·rw[bK];refine⟨rfl,?_,mB (by show c.den.toNat<=_;omega),l.nat,by rw[hlst,fl1,hEl],hlc⟩
             rw[size_madeCells]
           refine⟨_,_,.inl ?_,rQ hm hl _ ⟨w.heap.size,0,c.nat,xd⟩ rfl _ hblk rfl (fun _ h=>h),by simp[SV.ltB,SR.ltB,SC.ltB]⟩
           have e3:SV.val (hU U f ⟨w.heap.size,0,c.nat,xd⟩) (.c (.osl f i.size (.lit 0) l))= .slice (some ⟨w.heap.size,0,none⟩) l.nat c.nat:=by
            show fA (Th.row _ f) 0 l.nat i.size=_
            simp only[Th.row,bK,xd,cD,fA,Th.addr,dc,dX,bR,de];split <;>simp[Addr.add]
           rw[e3];have e4:c.den.toNat=c.nat:=rfl;have e5:l.den.toNat=l.nat:=rfl;rw[e4,e5]at hr;simp[execOp,ho,ex,ey,hr]
         ·cases h
        ·cases h
       ·cases h
      ·cases h
     ·cases h
    ·cases h
   ·cases h
  ·cases h
 ·cases h
end
end
section
variable [Sy][Fa][fN]
section
variable {P:Program}{o:Oper}{V:Operand->Value}{ev:Operand->Option SV}{U:Th}{H H':bt}{f f':Nat}{w:World}{v:SV}
def arJ(P:Program)(t:TypeId)(a b:SC):Option Bool:=match P.underlying t with
 |some (.int _)=>match iu a with
  |some (k,u)=>match iu b with
   |some (k',u')=>bif decide (k=k')then ask (.eq u u')else none
   |none=>none
  |none=>none
 |_=>none
theorem U9{t:TypeId}{a b:SC}{r:Bool}(h:arJ P t a b=some r)(d:Nat)(w:World):(Op.equalIn (d+1) t (a.val U) (b.val U)).run P w= .ok r w:=by
 unfold arJ at h;split at h
 ·rename_i k0 hu;split at h
  ·rename_i k u ha;split at h
   ·rename_i k' u' hb;cases hk:decide (k=k')with
    |false=>rw[hk]at h;cases h
    |true=>rw[hk]at h;simp only[aP]at h;have hk:=of_decide_eq_true hk;subst hk;have h:=k_ h;rw[dE ha U,dE hb U,run_equalIn_int w d t k k0 _ _ hu,<-h];rfl
   ·cases h
  ·cases h
 ·cases h
def PS(P:Program)(cs ds:List SC):List Field->Option Bool
 | []=>some true
 |f::r=>bif decide (f.name≠ "_")then(match Ii P f.type cs f.offset with
  |some (.r (.one a))=>match Ii P f.type ds f.offset with
   |some (.r (.one b))=>match arJ P f.type a b with
    |some true=>PS P cs ds r
    |some false=>some false
    |none=>none
   |_=>none
  |_=>none)else none
theorem PR{cs ds:List SC}(hc:cs.all (SC.ltB f)=true)(hd:ds.all (SC.ltB f)=true)(d:Nat)(w:World):∀ {l:List Field} {r:Bool},PS P cs ds l=some r->(Op.eqFields (d+1) (cs.map (SC.val U)).toArray (ds.map (SC.val U)).toArray l).run P w= .ok r w
 | [],r,h=>by simp only[PS,ad]at h;subst h;rfl
 |g::l,r,h=>by
  simp only[PS]at h;cases hn:decide (g.name≠ "_")with
  |false=>rw[hn]at h;cases h
  |true=>
   rw[hn]at h;simp only[aP]at h;have hn:=of_decide_eq_true hn;split at h
   ·rename_i a hpa;split at h
    ·rename_i b hpb;obtain⟨r1,_⟩:=wG (U:=U) (f:=f) hpa hc w;obtain⟨r2,_⟩:=wG (U:=U) (f:=f) hpb hd w;have r1:(part g.type (cs.map (SC.val U)).toArray g.offset).run P w= .ok (a.val U) w:=r1;have r2:(part g.type (ds.map (SC.val U)).toArray g.offset).run P w= .ok (b.val U) w:=r2;split at h
     ·rename_i he;have:=U9 (U:=U) he d w;simp only[Op.eqFields,ab hn,Sem.run_bind,r1,r2,this,Result.andThen_ok,jE,aw,iS];exact PR hc hd d w h
     ·rename_i he;cases h;have:=U9 (U:=U) he d w;simp only[Op.eqFields,ab hn,Sem.run_bind,r1,r2,this,Result.andThen_ok,Bool.not_false,gN,Sem.run_pure]
     ·cases h
    ·cases h
   ·cases h
def ahf(P:Program)(b:BinOp)(t:TypeId)(x y:Option SV):Option SV:=match x with
 |some (.r (.agg cs))=>match y with
  |some (.r (.agg ds))=>match P.underlying t with
   |some (.struct fs)=>bif !(P.stoodInHeld t)&&!(P.eqGuardType P.depth t)then(match PS P cs ds fs.toList with
    |some r=>(match b with
     | .eql=>some (.c (.bool r))
     | .neq=>some (.c (.bool (!r)))
     |_=>none)
    |none=>none)else none
   |_=>none
  |_=>none
 |_=>none
theorem anx{b:BinOp}{t t':TypeId}{x y:Operand}(ho:o.op= .binOp b t x y t')(h:ahf P b t (ev x) (ev y)=some v)(hm:b9 U (get H) w)(hl:ga f (get H))(ha:kA U f ev V o):bB P o V U H f w v H f:=by
 have hexec:execOp V o=(do pure (.value (<- (do eqGuard b t x y (V x) (V y);binOp b t (V x) (V y):Sem Value))):Sem Next):=by unfold execOp;rw[ho]
 unfold ahf at h;split at h
 ·rename_i cs hx;split at h
  ·rename_i ds hy;have hx:=ha x (by simp[ho,Op.operands]) _ hx
   have hy:=ha y (by simp[ho,Op.operands]) _ hy
   split at h
   ·rename_i fs hu;cases hc:(!(P.stoodInHeld t)&&!(P.eqGuardType P.depth t))with
    |false=>rw[hc]at h;cases h
    |true=>
     rw[hc]at h;simp only[aP]at h;rw[ah,d7,d7]at hc;have hfo:P.fieldsOf t=fs:=by unfold Program.fieldsOf;rw[hu]
     split at h
     ·rename_i r hr;have hrun:(Op.equalIn 10000 t (.agg (cs.map (SC.val U)).toArray) (.agg (ds.map (SC.val U)).toArray)).run P w= .ok r w:=by
       rw[show(10000:Nat)=9998+1+1 from rfl,run_equalIn_struct w _ t _ _ (by rw[hfo];exact hu) hc.1,hfo]
       exact PR hx.2 hy.2 9998 w hr
      have ex:V x= .agg (cs.map (SC.val U)).toArray:=hx.1;have ey:V y= .agg (ds.map (SC.val U)).toArray:=hy.1;split at h
      ·cases h;refine bB.same hm hl ?_ rfl;rw[hexec,ex,ey];simp only[Sem.run_bind,run_eqGuard_agg w _ t x y _ _ hc.2,Result.andThen_ok,run_eql_struct,hrun,Sem.run_pure];rfl
      ·cases h;refine bB.same hm hl ?_ rfl;rw[hexec,ex,ey];simp only[Sem.run_bind,run_eqGuard_agg w _ t x y _ _ hc.2,Result.andThen_ok,run_neq_struct,hrun,Sem.run_pure];rfl
      ·cases h
     ·cases h
   ·cases h
  ·cases h
 ·cases h
def ar0(P:Program)(src dst:TypeId)(x:Option SV):Option SV:=match x with
 |some (.r (.one c))=>match iu c with
  |some (_,t)=>match P.underlying src with
   |some (.int _)=>match P.underlying dst with
    |some (.int k)=>some (.c (.sym k (.add k t (.lit 0))))
    |_=>none
   |_=>none
  |none=>none
 |_=>none
theorem arZ{src dst:TypeId}{x:Operand}(ho:o.op= .convert src dst x)(h:ar0 P src dst (ev x)=some v)(hm:b9 U (get H) w)(hl:ga f (get H))(ha:kA U f ev V o):bB P o V U H f w v H f:=by
 unfold ar0 at h;split at h
 ·rename_i c hx;have hx:=ha x (by simp[ho,Op.operands]) _ hx
  split at h
  ·rename_i k' t hn;split at h
   ·rename_i k0 hs;split at h
    ·rename_i k hd;cases h;have ex:V x= .int k' t.den:=hx.1.trans (dE hn U);refine bB.same hm hl ?_ rfl;have e:SV.val U (.c (.sym k (.add k t (.lit 0))))= .int k (k.wrap t.den):=by
      show Value.int k (k.wrap (t.den+0))=_
      rw[Int.add_zero]
     rw[e];simp[execOp,ho,ex,convert,run_underlying hs,run_underlying hd,Conv.intToInt]
    ·cases h
   ·cases h
  ·cases h
 ·cases h
def aeL(b:BinOp)(x y:Option SV):Option SV:=match x with
 |some (.r (.one c))=>match y with
  |some (.r (.one d))=>match iu c with
   |some (k,u)=>match iu d with
    |some (_,n)=>bif nn n&&oX n (.lit (k.bits:Nat))then(match b with
     | .shl=>some (.c (.sym k (.shl k u n)))
     | .shr=>some (.c (.sym k (.shr k u n)))
     |_=>none)else none
    |none=>none
   |none=>none
  |_=>none
 |_=>none
theorem alK{b:BinOp}{t t':TypeId}{x y:Operand}(ho:o.op= .binOp b t x y t')(h:aeL b (ev x) (ev y)=some v)(hm:b9 U (get H) w)(hl:ga f (get H))(ha:kA U f ev V o):bB P o V U H f w v H f:=by
 have hexec:execOp V o=(do pure (.value (<- (do eqGuard b t x y (V x) (V y);binOp b t (V x) (V y):Sem Value))):Sem Next):=by unfold execOp;rw[ho]
 unfold aeL at h;split at h
 ·rename_i c hx;split at h
  ·rename_i d hy;have hx:=(ha x (by simp[ho,Op.operands]) _ hx).1
   have hy:=(ha y (by simp[ho,Op.operands]) _ hy).1
   split at h
   ·rename_i k u hk;split at h
    ·rename_i k' n hk';have ex:V x= .int k u.den:=hx.trans (dE hk U);have ey:V y= .int k' n.den:=hy.trans (dE hk' U);cases hc:(nn n&&oX n (.lit (k.bits:Nat)))with
     |false=>rw[hc]at h;cases h
     |true=>
      rw[hc]at h;simp only[aP]at h;rw[ah]at hc;have n1:=lj hc.1;have n2:n.den<=(k.bits:Int):=gj hc.2;have n3:¬n.den<0:=by omega
      have n4:min n.den.toNat k.bits=n.den.toNat:=by omega
      split at h
      ·cases h;refine bB.same hm hl ?_ rfl;rw[hexec,ex,ey];have e:SV.val U (.c (.sym k (.shl k u n)))= .int k (k.wrap (u.den*2^n.den.toNat)):=rfl;rw[e];simp[eqGuard,binOp,Op.shift,n3,n4]
      ·cases h;refine bB.same hm hl ?_ rfl;rw[hexec,ex,ey];have e:SV.val U (.c (.sym k (.shr k u n)))= .int k (u.den/2^n.den.toNat):=rfl;rw[e];have e2:u.den.fdiv (2^n.den.toNat)=u.den/2^n.den.toNat:=Int.fdiv_eq_ediv_of_nonneg _ (Int.le_of_lt (Int.pow_pos (by decide)))
       simp[eqGuard,binOp,Op.shift,n3,n4,e2]
      ·cases h
    ·cases h
   ·cases h
  ·cases h
 ·cases h
def PV(P:Program)(o:Oper)(ev:Operand->Option SV)(H:bt)(f:Nat):Option (SV×bt×Nat):=match o.op with
 | .binOp b t x y _=>(match ahf P b t (ev x) (ev y)with
  |some v=>some (v,H,f)
  |none=>(match aeL b (ev x) (ev y)with|some v=>some (v,H,f)|none=>none))
 | .convert s t x=>(match ar0 P s t (ev x)with|some v=>some (v,H,f)|none=>none)
 | .load t x=>OU P H t (ev x) f
 | .store t x y=>(match aeA P 300 H t (ev x) (ev y) f with|some (H',f')=>some (.undef,H',f')|none=>none)
 | .makeSlice t x y=>aqz P 300 t (ev x) (ev y) f H
 | .call c=>(match c.callee with
  | .builtin .append=>Yv P 300 c.argTypes.toList (c.args.toList.map ev) f H
  |_=>none)
 |_=>none
theorem anD(h:PV P o ev H f=some (v,H',f'))(hm:b9 U (get H) w)(hl:ga f (get H))(ha:kA U f ev V o):bB P o V U H f w v H' f':=by
 unfold PV at h;split at h
 ·rename_i b t x y t' ho;split at h
  ·rename_i u' hu;cases h;exact anx ho hu hm hl ha
  ·split at h
   ·rename_i u' hu;cases h;exact alK ho hu hm hl ha
   ·cases h
 ·rename_i s t x ho;split at h
  ·rename_i u' hu;cases h;exact arZ ho hu hm hl ha
  ·cases h
 ·rename_i t x ho;exact aqI ho h hm hl ha
 ·rename_i t x y ho;split at h
  ·rename_i H2 f2 hu;cases h;exact alA ho hu hm hl ha
  ·cases h
 ·rename_i t x y ho;exact aqy ho h hm hl ha
 ·rename_i c ho;split at h
  ·rename_i hc;exact ahA ho hc h hm hl ha
  ·cases h
 ·cases h
end
end
section
variable [Sy][Fa][fN]
section
variable {P:Program}{o:Oper}{V:Operand->Value}{ev:Operand->Option SV}{U:Th}{H H':bt}{f f':Nat}{w:World}{v:SV}
def ahe(P:Program)(H:bt)(b:BinOp)(t:TypeId)(x y:Option SV):Option SV:=
 let r:=match b with
  | .eql=>some false
  | .neq=>some true
  |_=>none
 match r with
 |none=>none
 |some r=>match x,y with
  |some (.r (.one (.dat n p))),some (.r (.one .nils))=>match P.underlying t with
   |some (.slice _)=>match E1 H n p with
    |some (ts,M)=>bif Hz (.lt (.lit 0) (.ln M ts.length))then some (.c (.bool r))else none
    |none=>none
   |_=>none
  |_,_=>none
theorem anw{b:BinOp}{t t':TypeId}{x y:Operand}(ho:o.op= .binOp b t x y t')(h:ahe P H b t (ev x) (ev y)=some v)(hm:b9 U (get H) w)(hl:ga f (get H))(ha:kA U f ev V o):bB P o V U H f w v H f:=by
 have hexec:execOp V o=(do pure (.value (<- (do eqGuard b t x y (V x) (V y);binOp b t (V x) (V y):Sem Value))):Sem Next):=by unfold execOp;rw[ho]
 unfold ahe at h;simp only at h;split at h
 ·cases h
 ·rename_i r hr;split at h
  ·rename_i n p hx hy;have hx:=(ha x (by simp[ho,Op.operands]) _ hx).1
   have hy:=(ha y (by simp[ho,Op.operands]) _ hy).1
   split at h
   ·rename_i e hu;split at h
    ·rename_i ts M hd;cases hc:Hz (.lt (.lit 0) (.ln M ts.length))with
     |false=>rw[hc]at h;cases h
     |true=>
      rw[hc]at h;simp only[aP,ad]at h;subst h;have hlt:(0:Int)<(Tm.ln M ts.length).den:=of_decide_eq_true (JJ hc);obtain⟨tys,L,_,hrep,hp⟩:=mQ hd hm;obtain⟨a,m,c,hv,_,_,_,hnil,hdiv⟩:=hrep.len hp;rw[Gx,hdiv]at hlt;cases a with
      |none=>have:=(hnil rfl).1;subst this;simp at hlt
      |some a=>
       have ex:V x= .slice (some a) m c:=by rw[hx];show xY _=_;rw[hv];rfl
       have ey:V y= .slice none 0 0:=hy;refine bB.same hm hl ?_ rfl;rw[hexec,Sem.run_bind,ex,ey,Kl (fun b=>by cases b<;>rfl) rfl rfl (u_ hu a m c w) hr]
       rfl
    ·cases h
   ·cases h
  ·cases h
def Yp:SC->Option Tm
 | .bool b=>some (.lit (bif b then 1 else 0))
 | .bq b=>some (ahs b)
 |_=>none
theorem P9{c:SC}{t:Tm}(h:Yp c=some t)(U:Th):∃b:Bool,c.val U= .bool b/\t.den=if b=true then 1 else 0:=by
 cases c<;>simp only[Yp,ad,reduceCtorEq]at h
 ·rename_i b;subst h;exact⟨b,rfl,by cases b<;>rfl⟩
 ·rename_i b;subst h;exact⟨b.den,rfl,xX b⟩
def Yr(P:Program)(b:BinOp)(t:TypeId)(x y:Option SV):Option SV:=match x,y with
 |some (.r (.one a)),some (.r (.one c))=>match Yp a with
  |some s=>match Yp c with
   |some u=>match P.underlying t with
    |some .bool=>(match b with
     | .eql=>(match RK (.eq s u) false with|some r=>some (.c r)|none=>none)
     | .neq=>(match RK (.eq s u) true with|some r=>some (.c r)|none=>none)
     |_=>none)
    |_=>none
   |none=>none
  |none=>none
 |_,_=>none
theorem aht{b:BinOp}{t t':TypeId}{x y:Operand}(ho:o.op= .binOp b t x y t')(h:Yr P b t (ev x) (ev y)=some v)(hm:b9 U (get H) w)(hl:ga f (get H))(ha:kA U f ev V o):bB P o V U H f w v H f:=by
 have hexec:execOp V o=(do pure (.value (<- (do eqGuard b t x y (V x) (V y);binOp b t (V x) (V y):Sem Value))):Sem Next):=by unfold execOp;rw[ho]
 unfold Yr at h;split at h
 ·rename_i a c hx hy;have hx:=(ha x (by simp[ho,Op.operands]) _ hx).1
  have hy:=(ha y (by simp[ho,Op.operands]) _ hy).1
  split at h
  ·rename_i s hs;split at h
   ·rename_i u hu;obtain⟨p,p1,p2⟩:=P9 hs U;obtain⟨q,q1,q2⟩:=P9 hu U;have ex:V x= .bool p:=hx.trans p1;have ey:V y= .bool q:=hy.trans q1;have hbm:(Bm.eq s u).den=(p==q):=by
     show decide (s.den=u.den)=_
     rw[p2,q2];cases p<;>cases q<;>rfl
    split at h
    ·rename_i hty;have heq:(Op.equal t (.bool p) (.bool q)).run P w= .ok (p==q) w:=by
      rw[uH];unfold Op.equalIn;rw[Sem.run_bind,run_underlying hty];rfl
     split at h
     ·split at h
      ·rename_i r hr;cases h;obtain⟨h1,h2⟩:=nw (f:=f) hr U;refine bB.same hm hl ?_ h2;rw[hexec,ex,ey,show(SV.val U (.c r))=r.val U from rfl,h1,hbm,Sem.run_bind]
       have e:(do eqGuard .eql t x y (.bool p) (.bool q);binOp .eql t (.bool p) (.bool q):Sem Value).run P w= .ok (.bool (p==q)) w:=by simp[eqGuard,binOp,heq]
       rw[e];rfl
      ·cases h
     ·split at h
      ·rename_i r hr;cases h;obtain⟨h1,h2⟩:=nw (f:=f) hr U;refine bB.same hm hl ?_ h2;rw[hexec,ex,ey,show(SV.val U (.c r))=r.val U from rfl,h1,hbm,Sem.run_bind]
       have e:(do eqGuard .neq t x y (.bool p) (.bool q);binOp .neq t (.bool p) (.bool q):Sem Value).run P w= .ok (.bool (!(p==q))) w:=by simp[eqGuard,binOp,heq]
       rw[e];rfl
      ·cases h
     ·cases h
    ·cases h
   ·cases h
  ·cases h
 ·cases h
def mm4(b:Builtin)(xs:List (Option SV)):Option SV:=match xs with
 | [some (.r (.one x1)),some (.r (.one x2)),some (.r (.one x3)),some (.r (.one x4))]=>match iu x1,iu x2,iu x3,iu x4 with
  |some (k,s),some (_,t),some (_,u),some (_,m)=>match b with
   | .min=>some (.c (.sym k (.mn (.mn (.mn s t) u) m)))
   | .max=>some (.c (.sym k (.mx (.mx (.mx s t) u) m)))
   |_=>none
  |_,_,_,_=>none
 |_=>none
theorem aBE{c:Call}{b:Builtin}(ho:o.op= .call c)(hc:c.callee= .builtin b)(h:mm4 b (c.args.toList.map ev)=some v)(hm:b9 U (get H) w)(hl:ga f (get H))(ha:kA U f ev V o):bB P o V U H f w v H f:=by
 obtain⟨cs,he⟩:=fO (V:=V) ho hc;unfold mm4 at h;split at h
 ·rename_i a1 a2 a3 a4 hxs;obtain⟨x1,x2,x3,x4,hx,h1,h2,h3,h4⟩:∃x1 x2 x3 x4,c.args.toList=[x1,x2,x3,x4]/\ev x1=some (.r (.one a1))/\ev x2=some (.r (.one a2))/\ev x3=some (.r (.one a3))/\ev x4=some (.r (.one a4)):=by
   simp only[List.map_eq_cons_iff,List.map_eq_nil_iff]at hxs;obtain⟨x1,_,h,h1,x2,_,rfl,h2,x3,_,rfl,h3,x4,_,rfl,h4,rfl⟩:=hxs;exact⟨x1,x2,x3,x4,h,h1,h2,h3,h4⟩
  have hin:∀z∈[x1,x2,x3,x4],z∈o.op.operands:=fun z hz=>by
   have:z∈c.args:=by rw[<-gt,hx];exact hz
   simp[ho,Op.operands,Call.operands,this]
  have h1:=(ha x1 (hin x1 (by simp)) _ h1).1
  have h2:=(ha x2 (hin x2 (by simp)) _ h2).1
  have h3:=(ha x3 (hin x3 (by simp)) _ h3).1
  have h4:=(ha x4 (hin x4 (by simp)) _ h4).1
  split at h
  ·rename_i k s _ t _ u _ m n1 n2 n3 n4;have e1:V x1= .int k s.den:=h1.trans (dE n1 U);have e2:=h2.trans (dE n2 U);have e3:=h3.trans (dE n3 U);have e4:=h4.trans (dE n4 U);split at h
   ·cases h;refine bB.same hm hl ?_ rfl;rw[he,hx]
    show(builtin .min c.argTypes o.type cs #[V x1,V x2,V x3,V x4]).run P w=_
    rw[e1,e2,e3,e4];simp only[SV.val,SR.val,SC.val,Tm.den,Tm.pd,aec];simp[builtin,Builtin.min_,Builtin.min2]
    repeat' split
    all_goals first|rfl|omega
   ·cases h;refine bB.same hm hl ?_ rfl;rw[he,hx]
    show(builtin .max c.argTypes o.type cs #[V x1,V x2,V x3,V x4]).run P w=_
    rw[e1,e2,e3,e4];simp only[SV.val,SR.val,SC.val,Tm.den,Tm.pd,aec];simp[builtin,Builtin.max_,Builtin.max2]
    repeat' split
    all_goals first|rfl|omega
   ·cases h
  ·cases h
 ·cases h
def Xh(P:Program)(H:bt)(t:TypeId)(x:Option SV):Option SV:=match pf P t with
 |some (s,true)=>match x with
  |some (.r (.one (.ptr n 0)))=>match get H n with
   |some (.row _ 1 _ [k] L _)=>bif oX (.lit (s:Nat)) (B_ L 1)then(match uL (fun j=>Dv [k] L (.lit (j:Nat)) 1 0) 0 s with
    |some l=>anQ true l
    |none=>none)else none
   |_=>none
  |_=>none
 |_=>none
theorem agf{t:TypeId}{x:Operand}(ho:o.op= .load t x)(h:Xh P H t (ev x)=some v)(hm:b9 U (get H) w)(hl:ga f (get H))(ha:kA U f ev V o):bB P o V U H f w v H f:=by
 unfold Xh at h;split at h
 ·rename_i s hs;split at h
  ·rename_i n hx;have hx:=ha x (by simp[ho,Op.operands]) _ hx
   split at h
   ·rename_i kc e k L z hn;cases hc:oX (.lit (s:Nat)) (B_ L 1)with
    |false=>rw[hc]at h;cases h
    |true=>
     rw[hc]at h;simp only[aP]at h;have hle:((s:Nat):Int)<=_:=gj hc;rw[oh,lL]at hle;have hb:=hm.ok n _ hn;split at h
     ·rename_i l hall;obtain⟨l1,l2⟩:=oP hall;have hcell:∀j c,l[j]?=some c->w.cell? ⟨(U n).b,(U n).sh+0+j,none⟩=some (c.val U)/\c.ltB f=true:=fun j c hj=>by
       have hjl:j<s:=by rw[<-l1];exact(av.1 hj).1
       have hg:=l2 j c hj;rw[bR]at hg;obtain⟨ty,hty,h2,h3⟩:=Bh hg U;refine⟨?_,h3 f⟩;obtain⟨_,ty',uu,k1,k2,k3⟩:=rY hb (j:=j) (by omega)
       rw[gn]at k1;rw[hty]at k1;cases k1;have hj2:(Tm.lit (j:Nat)).nat*1+0=j:=by show Int.toNat ((j:Nat):Int)*1+0=j;simp
       rw[h2 w (cu U z) uu (by rw[hj2];exact k2),<-k3]
       rfl
      obtain⟨r1,r2⟩:=pH (P:=P) (w:=w) (U:=U) (f:=f) hs h l1 ⟨(U n).b,(U n).sh+0,none⟩ rfl (fun j c hj=>(hcell j c hj).1) (fun c hc=>by
       obtain⟨j,hj⟩:=dM hc;exact(hcell j c hj).2)
      have e1:V x= .pointer (some ⟨(U n).b,(U n).sh+0,none⟩):=hx.1;refine bB.same hm hl ?_ r2;simp only[execOp,ho,e1,Instr.loadAt,Instr.sureAddr];simp only[ch]at r1 ⊢;simp[r1]
     ·cases h
   ·cases h
  ·cases h
 ·cases h
def Qb(L:Tm):Nat->List SC->Bool
 |_,[]=>true
 |j,c::r=>(match c with
  | .bq (.tru (.el L' (.lit x) 1 0))=>decide (x=(j:Nat))&&Tm.eqB L L'
  |_=>false)&&Qb L (j+1) r
theorem Qa{L:Tm}:∀ {l:List SC} {j i:Nat} {c:SC},Qb L j l=true->l[i]?=some c->c= .bq (.tru (.el L (.lit ((j+i:Nat):Int)) 1 0))
 | [],j,i,c,h,hi=>by simp at hi
 |d::r,j,i,c,h,hi=>by
  simp only[Qb,ah]at h;cases i with
  |zero=>
   simp only[bn,ad]at hi;subst hi;have h1:=h.1;split at h1
   ·simp only[ah,decide_eq_true_eq]at h1;rw[h1.1,Tm.eqB_eq h1.2];rfl
   ·cases h1
  |succ i=>
   rw[bk]at hi;have:=Qa h.2 hi
   rwa [show j+1+i=j+(i+1)by omega]at this
def Pc(P:Program)(t:TypeId)(x ix:Option SV):Option SV:=match ix with
 |some (.r (.one d))=>match iu d with
  |some (_,u)=>match x with
   |some (.r (.agg (.bq (.tru (.el L a 1 0))::r)))=>match P.underlying t with
    |some (.array len elem)=>match P.info? elem with
     |some e=>match pf P elem with
      |some (_,false)=>bif nn u&&(Hz (.lt u (.lit (len:Nat)))&&(Nat.beq e.size 1&&(Nat.beq (r.length+1) len&&Qb L 0 (.bq (.tru (.el L a 1 0))::r))))then some (.c (.bq (.tru (.el L u 1 0))))else none
      |_=>none
     |none=>none
    |_=>none
   |_=>none
  |none=>none
 |_=>none
theorem abK{t:TypeId}{x ix:Operand}(ho:o.op= .index t x ix)(h:Pc P t (ev x) (ev ix)=some v)(hm:b9 U (get H) w)(hl:ga f (get H))(ha:kA U f ev V o):bB P o V U H f w v H f:=by
 unfold Pc at h;split at h
 ·rename_i d hi;have hi:=ha ix (by simp[ho,Op.operands]) _ hi
  split at h
  ·rename_i k u hu;split at h
   ·rename_i L a r hx;have hx:=ha x (by simp[ho,Op.operands]) _ hx
    generalize hcs:(SC.bq (.tru (.el L a 1 0))::r)=cs at hx h;split at h
    ·rename_i len elem hul;split at h
     ·rename_i e he;split at h
      ·rename_i n hsz;cases hz:(nn u&&(Hz (.lt u (.lit (len:Nat)))&&(Nat.beq e.size 1&&(Nat.beq (r.length+1) len&&Qb L 0 cs))))with
       |false=>rw[hz]at h;cases h
       |true=>
        rw[hz]at h;simp only[aP,ad]at h;subst h;simp only[ah]at hz;obtain⟨z1,z2,z3,z4,z5⟩:=hz;have z1:=lj z1;have z2:u.den<((len:Nat):Int):=B8 z2;have z3:=af z3;have z4:=af z4;have hlen:cs.length=len:=by rw[<-hcs,cj,z4]
        have hj:u.den.toNat<cs.length:=by rw[hlen];omega
        have hcell:cs[u.den.toNat]?=some cs[u.den.toNat]:=aj hj;have hce:=Qa z5 hcell;have hpart:Ii P elem cs (u.den.toNat*e.size)=some (.c cs[u.den.toNat]):=by unfold Ii;rw[hsz,z3,ed,eY hj]
        obtain⟨h1,h2⟩:=wG (U:=U) (f:=f) hpart hx.2 w;have ei:V ix= .int k u.den:=hi.1.trans (dE hu U);have hval:SV.val U (.c cs[u.den.toNat])=SV.val U (.c (.bq (.tru (.el L u 1 0)))):=by
         rw[hce]
         show Value.bool (decide ((Tm.el L (.lit _) 1 0).den≠0))=Value.bool (decide ((Tm.el L u 1 0).den≠0))
         have:(Tm.el L (.lit ((0+u.den.toNat:Nat):Int)) 1 0).den=(Tm.el L u 1 0).den:=by
          show(L.pd.q.getD (Int.toNat ((0+u.den.toNat:Nat):Int)*1+0) (.i 0)).n=(L.pd.q.getD (u.pd.n.toNat*1+0) (.i 0)).n
          congr 2
          show _=Int.toNat u.den*1+0
          omega
         rw[this]
        have hz':0<=u.den/\u.den<(len:Int):=⟨z1,z2⟩;rw[hval]at h1;refine bB.same hm hl ?_ rfl;simp[execOp,ho,hx.1,ei,SV.val,SR.val,SC.val,Instr.index,asIntOf,run_underlying hul,hz',sizeOf,typeInfo,he,-List.map_toArray];rw[h1];rfl
      ·cases h
     ·cases h
    ·cases h
   ·cases h
  ·cases h
 ·cases h
def ahp(P:Program)(ts:List TypeId)(xs:List (Option SV))(H:bt):Option bt:=match ts with
 | [t]=>match xs with
  | [some (.r (.one (.osl n 1 lo hi)))]=>match P.underlying t with
   |some (.slice e)=>match o9 P e with
    |some [.int .i64 0]=>match get H n with
     |some y=>match gh 1 y with
      |some (kc,e',[.int .i64],L,z)=>match pz H n 1 lo hi with
       |some _=>some (put H n (.row kc 1 e' [.int .i64] (.spl L lo (.rep (.mi hi lo) (.lit 0))) z))
       |none=>none
      |_=>none
     |none=>none
    |_=>none
   |_=>none
  |_=>none
 |_=>none
theorem anJ{c:Call}(ho:o.op= .call c)(hc:c.callee= .builtin .clear)(h:ahp P c.argTypes.toList (c.args.toList.map ev) H=some H')(hm:b9 U (get H) w)(hl:ga f (get H))(ha:kA U f ev V o):bB P o V U H f w .undef H' f:=by
 obtain⟨cs,he⟩:=fO (V:=V) ho hc;have hA:∀x∈c.args.toList,∀s,ev x=some s->V x=s.val U/\s.ltB f=true:=fun x hx=>ha x (by simp only[ho,Op.operands,Call.operands,hc];simpa using hx)
 unfold ahp at h;split at h
 ·rename_i t hts;have hta:c.argTypes= #[t]:=by apply Array.ext';exact hts
  split at h
  ·rename_i n lo hi hxs;obtain⟨x,hargs,hx⟩:∃x,c.args.toList=[x]/\ev x=some (.r (.one (.osl n 1 lo hi))):=by
    simp only[List.map_eq_cons_iff,List.map_eq_nil_iff]at hxs;obtain⟨x,_,h,h1,rfl⟩:=hxs;exact⟨x,h,h1⟩
   rw[hargs]at hA;have hx:=hA x (by simp) _ hx
   split at h
   ·rename_i e hu;split at h
    ·rename_i hz;split at h
     ·rename_i yb hn;split at h
      ·rename_i kc e' L z hv;split at h
       ·rename_i r hr;simp only[ad]at h;subst h;obtain⟨zv,z1,z2,_⟩:=jz hz;have z2:zv.cells= #[Value.int .i64 0]:=z2 U;have O:=my (e:=r.1) (ks:=r.2.1) (L:=r.2.2.1) (z:=r.2.2.2) hr hm;have hLL:r.2.2.1=L:=by
         unfold pz at hr;rw[hn]at hr;simp only[hv]at hr;cases hq:(kc&&(Nat.blt 0 1&&(nn lo&&(oX lo hi&&oX hi (B_ L 1)))))with
         |false=>rw[hq]at hr;cases hr
         |true=>rw[hq]at hr;simp only[aP,ad]at hr;rw[<-hr]
        have o1:=O.olo;have o2:=O.ohi;have o3:=O.le;have hrep:(Tm.rep (.mi hi lo) (.lit 0)).pd.q=List.replicate (hi.nat-lo.nat) (PD.i 0):=by
         show List.replicate (hi.pd.n-lo.pd.n).toNat (PD.i 0)=_
         congr 1
         show(hi.den-lo.den).toNat=hi.den.toNat-lo.den.toNat
         have e1:(lo.nat:Int)=lo.den:=o1;have e2:(hi.nat:Int)=hi.den:=o2;have e3:lo.nat=lo.den.toNat:=rfl;have e4:hi.nat=hi.den.toNat:=rfl;omega
        obtain⟨w',k1,k2⟩:=acP (P:=P) (M':= .rep (.mi hi lo) (.lit 0)) (K:=hi.nat-lo.nat) (news:=List.replicate (hi.nat-lo.nat) (Value.int .i64 0)) (t:=t) (i:=default) (x:= .tuple #[]) (s:= .tuple #[]) (z2:=r.2.2.2) (e2:=r.1) (ks2:=r.2.1) (L2:=r.2.2.1) hm hl hn hv O (by rw[hLL]) (bD _) (by simp) (by rw[hrep];simp) (fun j u hj=>by
         have hjl:=(av.1 hj).1;rw[cR]at hjl;rw[dh,ab hjl]at hj;cases hj;refine⟨.int .i64,by rw[gn];rfl,?_⟩
         rw[hrep,ae,dh,ab hjl];rfl)
        refine⟨U,w',.inl ?_,k2,rfl⟩;rw[he,hargs,hta];have hval:V x=fA (U.row n) lo.nat hi.nat 1:=hx.1
        show(builtin .clear #[t] o.type cs #[V x]).run P w=_
        obtain⟨A,hA',cc,hAv⟩:∃A m cc,SC.val U (.osl n 1 lo hi)= .slice A m cc/\m=hi.nat-lo.nat:=by
         show ∃A m cc,fA (U.row n) lo.nat hi.nat 1= .slice A m cc/\_
         unfold Th.row;cases(U n).x.nl<;>exact⟨_,_,_,rfl,rfl⟩
        obtain⟨hAv,rfl⟩:=hAv;have hst:=k1 A _ cc hAv;have hval:V x= .slice A (hi.nat-lo.nat) cc:=hx.1.trans hAv;rw[hval];have hzc:(Builtin.zeroCells zv.cells (hi.nat-lo.nat)).toList=List.replicate (hi.nat-lo.nat) (Value.int .i64 0):=by
         rw[z2];simp[Builtin.zeroCells];apply cF;intro j;rw[aM,dh];rcases fJ j (hi.nat-lo.nat)with hj|hj
         ·rw[cI hj,ab hj,de,gn];rfl
         ·rw[bp (by simpa using hj),ak (by omega)]
          rfl
        cases A with
        |none=>
         have hw:w'=w:=by have:(Result.ok () w:Result Unit)= .ok () w':=hst;cases this;rfl
         subst hw;simp[builtin,Builtin.clear_,run_underlying hu,SV.val]
        |some a=>
         cases hk:hi.nat-lo.nat with
         |zero=>
          rw[hk]at hst;have hw:w'=w:=by have:(Result.ok () w:Result Unit)= .ok () w':=hst;cases this;rfl
          subst hw;simp[builtin,Builtin.clear_,run_underlying hu,SV.val]
         |succ m=>rw[hk]at hst hzc;simp[builtin,Builtin.clear_,run_underlying hu,SV.val,z1,hzc];rw[hst];rfl
       ·cases h
      ·cases h
     ·cases h
    ·cases h
   ·cases h
  ·cases h
 ·cases h
def af2(P:Program)(o:Oper)(ev:Operand->Option SV)(H:bt):Option SV:=match o.op with
 | .binOp b t x y _=>(match ahe P H b t (ev x) (ev y)with
  |some v=>some v
  |none=>Yr P b t (ev x) (ev y))
 | .load t x=>Xh P H t (ev x)
 | .index t x ix=>Pc P t (ev x) (ev ix)
 | .call c=>(match c.callee with
  | .builtin b=>mm4 b (c.args.toList.map ev)
  |_=>none)
 |_=>none
theorem amG(h:af2 P o ev H=some v)(hm:b9 U (get H) w)(hl:ga f (get H))(ha:kA U f ev V o):bB P o V U H f w v H f:=by
 unfold af2 at h;split at h
 ·rename_i b t x y t' ho;split at h
  ·rename_i u' hu;cases h;exact anw ho hu hm hl ha
  ·exact aht ho h hm hl ha
 ·rename_i t x ho;exact agf ho h hm hl ha
 ·rename_i t x ix ho;exact abK ho h hm hl ha
 ·rename_i c ho;split at h
  ·rename_i b hc;exact aBE ho hc h hm hl ha
  ·cases h
 ·cases h
end
end
section
variable [Sy][Fa][fN]
section
variable {P:Program}{o:Oper}{V:Operand->Value}{ev:Operand->Option SV}{U:Th}{H H':bt}{f f':Nat}{w:World}{v:SV}
def ay_:Tm->Bool
 | .rep _ _=>true
 |_=>false
def aqL(P:Program)(H:bt)(t:TypeId)(x y:Option SV):Option bt:=match pf P t with
 |some (s,_)=>match x with
  |some (.r (.one (.rp n u 1 0)))=>match Lk H n u 1 with
   |some (kc,e,[.lst tys],L,z)=>match y with
    |some (.r (.one (.osl q es (.lit 0) hi)))=>match get H q with
     |some (.row _ _ _ _ Lq _)=>bif (Nat.beq s 1&&ay_ Lq)&&(Nat.beq es tys.length&&!(Nat.beq n q))then some (put H n (.rowL kc e tys L z u q hi))else none
     |_=>none
    |_=>none
   |_=>none
  |_=>none
 |none=>none
theorem aqK{t:TypeId}{x y:Operand}(ho:o.op= .store t x y)(h:aqL P H t (ev x) (ev y)=some H')(hm:b9 U (get H) w)(hl:ga f (get H))(ha:kA U f ev V o):bB P o V U H f w .undef H' f:=by
 unfold aqL at h;split at h
 ·rename_i s b hs;split at h
  ·rename_i n u hx;split at h
   ·rename_i kc e tys L z hr;split at h
    ·rename_i q es hi hy;split at h
     ·rename_i k1 k2 k3 k4 Lq k5 hq;cases hc:((Nat.beq s 1&&ay_ Lq)&&(Nat.beq es tys.length&&!(Nat.beq n q)))with
      |false=>rw[hc]at h;cases h
      |true=>
       rw[hc]at h;simp only[aP,ad]at h;subst h;simp only[ah]at hc;obtain⟨⟨c1,_⟩,c2,c3⟩:=hc;have c1:=af c1;subst c1;have c2:=af c2;subst c2;have hx:=ha x (by simp[ho,Op.operands]) _ hx
       have hy:=ha y (by simp[ho,Op.operands]) _ hy
       have hqf:q<f:=by have:=hy.2;simpa[SV.ltB,SR.ltB,SC.ltB]using this
       obtain⟨y',hy',hv,⟨hb,hbz⟩,⟨hown,hzb⟩,hes,hlt,_⟩:=vT hr hm;rw[lL]at hlt;rcases hb with⟨_,g2,_⟩|⟨g1,arr,g2,g3,g4⟩
       ·rw[g2,dr]at hlt;omega
       have oy:gG U n y':=hown.2 g1;generalize hvv:SC.val U (.osl q tys.length (.lit 0) hi)=vv;have hvc:fA (U.row q) 0 hi.nat tys.length=vv:=hvv;have hsz:(U n).sh+L.pd.q.length<=arr.size:=by
        obtain⟨t,u,_,_,h⟩:=g3 (L.pd.q.length-1) (by omega)
        obtain⟨h4,_⟩:=cP.1 h;omega
       have hone:∀v∈[vv],v.oneCell'=true:=fun v hv=>by
        rw[ck]at hv;subst hv;rw[<-hvv];exact SC.one _
       have hfit':(U n).sh+u.nat+[vv].length<=arr.toList.length:=by simp;omega
       have hst:=run_storeCells_at P (U n).b ((U n).sh+u.nat) e [vv] 0 arr w g2 (by simp at hfit' ⊢;omega) hone
       obtain⟨w',hw',hst⟩:∃w',w.setRow (U n).b (ja arr.toList ((U n).sh+u.nat) [vv]).toArray=w'/\(storeCells ⟨(U n).b,(U n).sh+u.nat+0,none⟩ [vv]).run P w= .ok () w':=⟨_,rfl,hst⟩;have hw:∀b,b≠(U n).b->w'.heap[b]?=w.heap[b]? :=fun b hb=>by rw[<-hw'];exact setRow_other w _ b _ hb
       have hget:∀j,(ja arr.toList ((U n).sh+u.nat) [vv]).toArray[(U n).sh+j]?=if j=u.nat then some vv else arr[(U n).sh+j]? :=fun j=>by
        rw[eF,ly hfit',b8]
        by_cases hj:j=u.nat
        ·subst hj;rw[ak (by omega),ab (by simp),ab rfl,kp]
         rfl
        ·rw[ak hj];split
         ·rfl
         ·rw[ak (by simp;omega)]
       refine⟨U,w',.inr ⟨?_,rfl⟩,Dd hm hl hy' oy (fun b hb=>(hzb b).1 hb) ⟨⟨g1,(ja arr.toList ((U n).sh+u.nat) [vv]).toArray,?_,fun j hj hne=>?_,⟨hlt,?_⟩,fun hk=>?_⟩,fun b hb=>?_⟩ ?_ hw (by rw[<-hw'];simp[World.setRow]) (by rw[<-hw'];rfl) (by rw[<-hw'];rfl) (by rw[<-hw'];rfl),rfl⟩
       ·have e1:V x= .pointer (some (U.addr n (u.nat*1+0))):=hx.1;rw[ed,ch]at e1;have e2:V y=vv:=hy.1.trans hvv;have hst':(storeCells (U.addr n u.nat) [vv]).run P w= .ok () w':=hst;have hcl:vv.cells= #[vv]:=by
         have:=ko (U:=U) (.one (.osl q tys.length (.lit 0) hi));rw[show SR.val U (.one (.osl q tys.length (.lit 0) hi))=vv from hvv]at this
         rw[this]
         show(List.map (SC.val U) [_]).toArray=_
         rw[List.map_singleton,hvv]
        simp[execOp,ho,e1,e2,Instr.storeAt,Instr.sureAddr,storeVar,hcl,(iQ hs w).2,hst']
       ·rw[<-hw'];exact setRow_heap w _ _ _ _ _ g2
       ·obtain⟨t',uu,k1,k2,k3⟩:=g3 j hj;rw[gn]at k1;cases k1;refine⟨uu,k2.keep (fun b hb=>hw b ((hbz b hb).2.1 g1)) (fun _ h=>h),?_⟩
        rw[hget,ak hne];exact k3
       ·rw[hget,ab rfl,hvc]
       ·obtain⟨k1,k2,k3,m,k4,k5⟩:=g4 hk;refine⟨k1,?_,k3,m,k4,k5⟩;rw[iA,od hfit',fe,k2]
       ·obtain⟨q1,q2,q3⟩:=hbz b hb;refine⟨?_,q2,q3⟩;rw[<-hw'];simpa[World.setRow]using q1
       ·show(Nat.blt q f&&z.ltB f)=true
        rw[ah,bT];exact⟨hqf,JL hv (hl n y' hy').2⟩
     ·cases h
    ·cases h
   ·cases h
  ·cases h
 ·cases h
def agC(P:Program)(H:bt)(t:TypeId)(x ix:Option SV):Option SV:=match ix with
 |some (.r (.one c))=>match iu c with
  |some (_,u)=>match P.underlying t with
   |some (.slice elem)=>match P.info? elem with
    |some e=>match x with
     |some (.r (.one (.osl n 1 (.lit 0) hi')))=>match get H n with
      |some (.rowL kc e' tys L z t' q hi)=>bif kc&&(Tm.eqB u t'&&(Nat.beq e.size 1&&(nn u&&(Hz (.lt u hi')&&oX hi' (B_ L 1)))))then some (.c (.rp n u 1 0))else none
      |_=>none
     |_=>none
    |none=>none
   |_=>none
  |none=>none
 |_=>none
theorem am8{t:TypeId}{x ix:Operand}(ho:o.op= .indexAddr t x ix)(h:agC P H t (ev x) (ev ix)=some v)(hm:b9 U (get H) w)(hl:ga f (get H))(ha:kA U f ev V o):bB P o V U H f w v H f:=by
 unfold agC at h;split at h
 ·rename_i c hi;have hi:=(ha ix (by simp[ho,Op.operands]) _ hi).1
  split at h
  ·rename_i k u hn;have ei:V ix= .int k u.den:=hi.trans (dE hn U);split at h
   ·rename_i elem hu;split at h
    ·rename_i e he;split at h
     ·rename_i n hi' hx;have hx:=ha x (by simp[ho,Op.operands]) _ hx
      split at h
      ·rename_i kc e' tys L z t' q hi2 hg;cases hc:(kc&&(Tm.eqB u t'&&(Nat.beq e.size 1&&(nn u&&(Hz (.lt u hi')&&oX hi' (B_ L 1))))))with
       |false=>rw[hc]at h;cases h
       |true=>
        rw[hc]at h;cases h;simp only[ah]at hc;obtain⟨c0,_,c1,c2,c3,c4⟩:=hc;subst c0;have c1:=af c1;have z1:=lj c2;have z1':=jY z1;have z2:=B8 c3;have z3:=gj c4;rw[oh,lL]at z3;have z4:=jY (show 0<=hi'.den by omega)
        obtain⟨⟨h1,arr,h2,h3,h5,h4⟩,_⟩:=hm.ok n _ hg;obtain⟨k1,k2,k3,m,k4,k5⟩:=h4 rfl;have hval:SC.val U (.osl n 1 (.lit 0) hi')= .slice (some (U.addr n 0)) hi'.nat (U n).cap:=by
         show fA (U.row n) 0 hi'.nat 1=_
         simp only[Th.row,h1,cD,fA];rw[ak (by omega)]
         simp[Th.addr,Addr.add_mid]
        have ex:V x=_:=hx.1.trans hval;refine bB.same hm hl ?_ hx.2;rw[Wf];have z5:u.den.toNat=u.nat:=rfl;have z6:u.den<(hi'.nat:Int):=by omega
        simp[execOp,ho,ex,ei,Instr.indexAt,asIntOf,run_underlying hu,z1,z6,sizeOf,typeInfo,he,c1,iw,z5]
      ·cases h
     ·cases h
    ·cases h
   ·cases h
  ·cases h
 ·cases h
def aqH(P:Program)(H:bt)(t:TypeId)(x:Option SV):Option SV:=match pf P t with
 |some (s,agg)=>match x with
  |some (.r (.one (.rp n u 1 0)))=>match get H n with
   |some (.rowL kc e tys L z t' q hi)=>bif Nat.beq s 1&&(Tm.eqB u t'&&!agg)then some (.c (.osl q tys.length (.lit 0) hi))else none
   |_=>none
  |_=>none
 |none=>none
theorem aqG{t:TypeId}{x:Operand}(ho:o.op= .load t x)(h:aqH P H t (ev x)=some v)(hm:b9 U (get H) w)(hl:ga f (get H))(ha:kA U f ev V o):bB P o V U H f w v H f:=by
 unfold aqH at h;split at h
 ·rename_i s agg hs;split at h
  ·rename_i n u hx;have hx:=ha x (by simp[ho,Op.operands]) _ hx
   split at h
   ·rename_i kc e tys L z t' q hi hg;cases hc:(Nat.beq s 1&&(Tm.eqB u t'&&!agg))with
    |false=>rw[hc]at h;cases h
    |true=>
     rw[hc]at h;cases h;simp only[ah]at hc;obtain⟨c1,c2,c3⟩:=hc;have c1:=af c1;subst c1;have c2:=Tm.eqB_eq c2;subst c2;have c3:agg=false:=by simpa using c3
     subst c3;obtain⟨⟨h1,arr,h2,h3,⟨h5,h6⟩,h4⟩,_⟩:=hm.ok n _ hg;have hlq:=(hl n _ hg).2;have hlq:(Nat.blt q f&&z.ltB f)=true:=hlq;rw[ah]at hlq;obtain⟨r1,r2⟩:=pH (P:=P) (w:=w) (U:=U) (f:=f) (l:=[.osl q tys.length (.lit 0) hi]) (v:= .c (.osl q tys.length (.lit 0) hi)) hs rfl rfl ⟨(U n).b,(U n).sh+(u.nat*1+0),none⟩ rfl (fun j c hj=>by
      cases j with
      |zero=>
       simp only[bn,ad]at hj;subst hj
       show w.cell? ⟨(U n).b,(U n).sh+(u.nat*1+0)+0,none⟩=some (fA (U.row q) 0 hi.nat tys.length)
       rw[ed,ch,ch];unfold World.cell?;rw[h2];exact h6
      |succ j=>simp at hj) (fun c hc=>by
      rw[ck]at hc;subst hc;exact hlq.1)
     have e1:V x= .pointer (some (U.addr n (u.nat*1+0))):=hx.1;refine bB.same hm hl ?_ r2;unfold Th.addr at e1;rw[ed,ch]at e1 r1;simp[execOp,ho,e1,Instr.loadAt,Instr.sureAddr,r1]
   ·cases h
  ·cases h
 ·cases h
def P0(H:bt)(n f:Nat):Option (bt×Nat):=match get H n with
 |some (.rowL kc e tys L z t q hi)=>match u0 H 300 (.lst tys) (.osl q tys.length (.lit 0) hi)with
  |some (M,ns)=>bif rA n ns then none else some (put (ma H ns) n (.row kc 1 e [.lst tys] (.setD L t 1 0 M) ⟨some f,z.fr&&ig H ns⟩),f+1)
  |none=>none
 |_=>none
theorem acQ{n:Nat}(h:P0 H n f=some (H',f'))(hm:b9 U (get H) w)(hl:ga f (get H)):∃U',dA U (get H) f w U' (get H') f' w:=by
 unfold P0 at h;split at h
 ·rename_i kc e tys L z t q hi hg;split at h
  ·rename_i M ns hre;cases hmem:rA n ns with
   |true=>rw[hmem]at h;cases h
   |false=>
    rw[hmem]at h;simp only[cD,ad,aA]at h;obtain⟨rfl,rfl⟩:=h;have hnn:n∉ns:=fun hin=>by rw[zh hin]at hmem;cases hmem
    obtain⟨vt,e1,e2⟩:=m_ hm _ _ _ _ _ hre;obtain⟨⟨g1,arr,g2,g3,⟨g5,g6⟩,g4⟩,hbz⟩:=hm.ok n _ hg;have hnf:n<f:=(hl n _ hg).1;have oy:gG U n (.rowL kc e tys L z t q hi):=trivial;generalize hθ:hU U f ⟨0,0,0,⟨false,.no,fun b=>cu U z b\/Zn U H ns b⟩⟩=U'
    have hθl:∀k,k<f->U' k=U k:=fun k hk=>by rw[<-hθ];exact e9 hk
    have hθn:U' n=U n:=hθl n hnf;have hzo:∀b,cu U' ⟨some f,z.fr&&ig H ns⟩ b↔(cu U z b\/Zn U H ns b):=fun b=>by simp only[cu,<-hθ,bK]
    have hZp:∀b,Zn U H ns b->Zp U H [] ns b:=fun b hb=> .inr hb
    have hZ1:∀b,(cu U z b\/Zn U H ns b)->b≠(U n).b:=fun b hb=>by
     rcases hb with hb|hb
     ·exact(hbz b hb).2.1 g1
     ·exact((hZp b hb).far hm hg oy hnn).symm
    have hgn:∀k y,get (put (ma H ns) n (.row kc 1 e [.lst tys] (.setD L t 1 0 M) ⟨some f,z.fr&&ig H ns⟩)) k=some y->(k=n/\y= .row kc 1 e [.lst tys] (.setD L t 1 0 M) ⟨some f,z.fr&&ig H ns⟩)\/(k≠n/\get H k=some y/\(ownB y=true->k∉ns)):=fun k y hk=>by
     rw[ur]at hk;split at hk
     ·rename_i e';subst e';rw[mO hnn,hg]at hk;simp at hk;exact .inl ⟨rfl,hk.symm⟩
     ·rename_i e';obtain⟨h1,h2⟩:=mP hk;exact .inr ⟨fun e2=>e' e2.symm,h1,h2⟩
    have hothers:∀k y,k≠n->get (put (ma H ns) n (.row kc 1 e [.lst tys] (.setD L t 1 0 M) ⟨some f,z.fr&&ig H ns⟩)) k=some y->get H k=some y/\(ownB y=true->k∉ns):=fun k y hk h=>by
     rcases hgn k y h with⟨h1,_⟩|⟨_,h2⟩
     ·exact absurd h1 hk
     ·exact h2
    have hlst:(Tm.setD L t 1 0 M).pd.q=L.pd.q.set t.nat (.l M.pd.q):=by
     show L.pd.q.set (t.nat*1+0) _=_
     rw[ed,ch]
    refine⟨U',vG (n:=n) (y:= .row kc 1 e [.lst tys] (.setD L t 1 0 M) ⟨some f,z.fr&&ig H ns⟩) hm hl hθl (Nat.le_succ f) (by omega) (by simp[SB.ltB,RZ.ltB]) ⟨.inr ⟨by rw[hθn];exact g1,arr,by rw[hθn];exact g2,fun j hj=>?_,fun hk=>?_⟩,fun b hb=>?_⟩ (fun k y h=>by
     rcases hgn k y h with h1|⟨h1,h2,_⟩
     ·exact .inl h1
     ·exact .inr ⟨h1,h2⟩) (fun _=> .inl ⟨n,_,hg,oy,by rw[hθn]⟩) (fun _ k y b hk h hu=>?_) (fun b hb k y hk h hok=>?_) (fun b hb=> .inl ?_) (fun k y b hk h hu=>rfl) (fun b hb hno=>rfl) (bD _) rfl rfl rfl⟩
    ·rw[hlst,dJ]at hj;rw[hθn,hlst];refine⟨.lst tys,?_⟩
     by_cases hjt:j=t.nat
     ·subst hjt;refine⟨vt.v,by rw[gn];rfl,⟨vt,rfl,?_⟩,?_⟩
      ·rw[ae,dF,ab rfl,ab hj];exact e2.keep (fun _ _=>rfl) (fun b hb=>(hzo b).2 (.inr hb))
      ·rw[e1];exact g6
     ·obtain⟨u,k2,k3⟩:=g3 j hj hjt;refine⟨u,by rw[gn];rfl,?_,k3⟩
      rw[ae,dF,ak (fun e=>hjt e.symm),<-ae]
      exact k2.keep (fun _ _=>rfl) (fun b hb=>(hzo b).2 (.inl hb))
    ·obtain⟨k1,k2,k3,m,k4,k5⟩:=g4 hk;rw[hθn];exact⟨k1,k2,k3,m,by rw[hlst,dJ];exact k4,k5⟩
    ·have hb:=(hzo b).1 hb;rw[hθn];refine⟨?_,fun _=>hZ1 b hb,fun hfre=>?_⟩
     ·rcases hb with hb|hb
      ·exact(hbz b hb).1
      ·exact(hZp b hb).lt hm
     ·have hfre:(z.fr&&ig H ns)=true:=hfre;rw[ah]at hfre;rcases hb with hb|hb
      ·exact(hbz b hb).2.2 hfre.1
      ·exact(hZp b hb).fresh hm rfl hfre.2
    ·obtain⟨h1,_⟩:=hothers k y hk h;rw[hθn];exact(hm.inj n k _ y b hg h1 (fun e'=>hk e'.symm) oy hu).symm
    ·obtain⟨h1,h2⟩:=hothers k y hk h;rcases(hzo b).1 hb with hb|hb
     ·exact hm.inj k n y _ b h1 hg hk hok (.inr hb)
     ·exact(hZp b hb).far hm h1 hok (h2 hok.ownB)
    ·rcases(hzo b).1 hb with hb|⟨k,_,y,hy,hu⟩
     ·exact⟨n,_,hg,.inr hb⟩
     ·exact⟨k,y,hy,hu⟩
  ·cases h
 ·cases h
def nv:bt->bt->Nat->bt×Nat
 | [],H,f=>(H,f)
 |(n,_)::r,H,f=>match P0 H n f with
  |some (H',f')=>nv r H' f'
  |none=>nv r H f
theorem xR:∀ {K H:bt} {f:Nat} {U:Th} {w:World},b9 U (get H) w->ga f (get H)->∃U',dA U (get H) f w U' (get (nv K H f).1) (nv K H f).2 w
 | [],H,f,U,w,hm,hl=>⟨U,dA.refl hm hl⟩
 |(n,b)::r,H,f,U,w,hm,hl=>by
  simp only[nv];split
  ·rename_i H' f' h;obtain⟨θ1,s1⟩:=acQ h hm hl;obtain⟨θ2,s2⟩:=xR (K:=r) s1.m s1.lt;exact⟨θ2,s1.trans s2⟩
  ·exact xR hm hl
def j_(tys:List Ty):SB->Option (Tm×RZ)
 | .mapD tys' L z=>bif Ty.eqAll tys' tys then some (L,z)else none
 | .map [] _=>some (.nil,.no)
 |_=>none
theorem AS{n:Nat}{x:SB}{tys:List Ty}{L:Tm}{z:RZ}(h:ek U w n x)(hv:j_ tys x=some (L,z)):ek U w n (.mapD tys L z)/\gG U n x/\∀b,cu U z b↔Zb U n x b:=by
 cases x with
 |mapD tys' L' z'=>
  simp only[j_]at hv;cases hc:Ty.eqAll tys' tys with
  |false=>rw[hc]at hv;cases hv
  |true=>rw[hc]at hv;simp only[aP,ad,aA]at hv;obtain⟨rfl,rfl⟩:=hv;have:=Ty.eqAll_eq _ _ hc;subst this;exact⟨h,trivial,fun b=>Iff.rfl⟩
 |map es c=>
  cases es with
  |nil=>simp only[j_,ad,aA]at hv;obtain⟨rfl,rfl⟩:=hv;exact⟨⟨⟨[],c,h,trivial⟩,fun b hb=>hb.elim⟩,trivial,fun b=>Iff.rfl⟩
  |cons a r=>simp[j_]at hv
 |_=>simp[j_]at hv
theorem aBc{x:SB}{tys:List Ty}{L:Tm}{z:RZ}(hv:j_ tys x=some (L,z))(hx:x.ltB f=true):z.ltB f=true:=by
 cases x with
 |mapD tys' L' z'=>
  simp only[j_]at hv;cases hc:Ty.eqAll tys' tys with
  |false=>rw[hc]at hv;cases hv
  |true=>rw[hc]at hv;simp only[aP,ad,aA]at hv;obtain⟨rfl,rfl⟩:=hv;exact hx
 |map es c=>
  cases es with
  |nil=>simp only[j_,ad,aA]at hv;obtain⟨rfl,rfl⟩:=hv;rfl
  |cons a r=>simp[j_]at hv
 |_=>simp[j_]at hv
theorem G_{kd:IntKind}{x:Int}{Z:Nat->Prop}{tys:List Ty}:∀ {l:List PD} {es:List (Int×Value×Nat)} (i:Nat),nS w Z tys l es->∃r',Instr.findNow (.int kd) (.int .i64 x) (es.map fun e=>{key:= .int .i64 e.1,val:=e.2.1,born:=e.2.2:MapEntry}) i=some r'/\
  ((lV l x=none/\r'=none)\/∃b j u,lV l x=some b/\gV w Z (.lst tys) b u/\r'=some (j,u))
 | [],[],i,h=>⟨none,rfl,.inl ⟨rfl,rfl⟩⟩
 | [],_::_,i,h=>h.elim
 | [_],[],i,h=>h.elim
 | [_],_::_,i,h=>h.elim
 |_::_::_,[],i,h=>h.elim
 |a::b::r,e::es,i,h=>by
  obtain⟨ha,hb,hr⟩:=h;subst ha;have hmf:lV (.i e.1::b::r) x=if e.1=x then some b else lV r x:=rfl
  rw[hmf];simp only[cL,Instr.findNow,Instr.sameNow,gN]
  by_cases hx:e.1=x
  ·rw[ab hx];subst hx;exact⟨some (i,e.2.1),by simp,.inr ⟨b,i,e.2.1,rfl,hb,rfl⟩⟩
  ·rw[ak hx];obtain⟨r',h1,h2⟩:=G_ (i+1) hr;refine⟨r',?_,h2⟩;have:(x==e.1)=false:=by simp;exact fun e=>hx e.symm
   rw[this];exact h1
def Ed(P:Program)(H:bt)(t:TypeId)(m ix:Option SV)(ok:Bool)(f:Nat):Option (SV×bt×Nat):=match ix with
 |some (.r (.one c))=>match iu c with
  |some (.i64,u)=>match P.underlying t with
   |some (.map key elem)=>match P.info? elem with
    |some e=>match e.zero with
     |some zv=>match xT zv with
      |some .nils=>match oM P 10 elem with
       |some [.lst tys]=>match m with
        |some (.r (.one (.map n)))=>match get H n with
         |some y=>match j_ tys y with
          |some (L,z)=>bif wT P key&&!ok then(match ask (.tru (.mf L u 0))with
           |some false=>some (.c .nils,H,f)
           |some true=>some (.c (.dat f .root),(f,.frz z.fr tys (.mf L u 1))::H,f+1)
           |none=>none)else none
          |none=>none
         |none=>none
        |_=>none
       |_=>none
      |_=>none
     |none=>none
    |none=>none
   |_=>none
  |_=>none
 |_=>none
theorem agd{t:TypeId}{m ix:Operand}{ok:Bool}(ho:o.op= .lookup t m ix ok)(h:Ed P H t (ev m) (ev ix) ok f=some (v,H',f'))(hm:b9 U (get H) w)(hl:ga f (get H))(ha:kA U f ev V o):bB P o V U H f w v H' f':=by
 unfold Ed at h;split at h
 ·rename_i c hix;have hix:=(ha ix (by simp[ho,Op.operands]) _ hix).1
  split at h
  ·rename_i u hn;have ei:V ix= .int .i64 u.den:=hix.trans (dE hn U);split at h
   ·rename_i key elem hu;split at h
    ·rename_i e he;split at h
     ·rename_i zv hzv;split at h
      ·rename_i hz';have hzr:(zeroValue elem).run P w= .ok (.slice none 0 0) w:=by
        have:=uI hz' U;have this:Value.slice none 0 0=zv:=this;rw[this];simp[zeroValue,typeInfo,he,hzv]
       split at h
       ·rename_i tys hty;split at h
        ·rename_i n hmm;have hmm:=(ha m (by simp[ho,Op.operands]) _ hmm).1
         have hmm:V m= .map (some (U n).b):=hmm;split at h
         ·rename_i y hg;split at h
          ·rename_i L z hv;cases hk:(wT P key&&!ok)with
           |false=>rw[hk]at h;cases h
           |true=>
            rw[hk]at h;simp only[aP]at h;rw[ah]at hk;obtain⟨hk,hok⟩:=hk;have hok:ok=false:=by simpa using hok
            subst hok;obtain⟨⟨⟨es,clock,b1,b2⟩,bz⟩,hown,hzb⟩:=AS (hm.ok n y hg) hv;obtain⟨kd,hkd,hck⟩:=Ee (P:=P) hk (k:= .i64) (x:=u.den) (es.map fun e=>({key:= .int .i64 e.1,val:=e.2.1,born:=e.2.2}:MapEntry)).toArray.isEmpty w
            obtain⟨r',g1,g2⟩:=G_ (kd:=kd) (x:=u.den) 0 b2;have hobj:(getObj (U n).b).run P w= .ok (.map (es.map fun e=>({key:= .int .i64 e.1,val:=e.2.1,born:=e.2.2}:MapEntry)).toArray clock) w:=by simp[getObj,Sem.run,b1]
            have hden:(Tm.mf L u 0).den=if(lV L.pd.q u.den).isSome then 1 else 0:=rfl
            split at h
            ·rename_i hask;cases h;have hask:=k_ hask;have hnone:lV L.pd.q u.den=none:=by
              have hask:decide ((Tm.mf L u 0).den≠0)=false:=hask;rw[hden]at hask;cases hmf:lV L.pd.q u.den with
              |none=>rfl
              |some b=>rw[hmf]at hask;simp at hask
             rcases g2 with⟨_,rfl⟩|⟨b,j,v,e1,_⟩
             ·refine bB.same hm hl ?_ rfl;simp[execOp,ho,hmm,ei,Instr.lookup,run_underlying hu,hobj,Instr.findKey,run_underlying hkd,g1,-List.map_toArray,-List.isEmpty_toArray];rw[hck];simp[hzr,SV.val,SR.val,SC.val]
             ·rw[hnone]at e1;cases e1
            ·rename_i hask;cases h;have hask:=k_ hask;rcases g2 with⟨e1,_⟩|⟨b,j,vv,e1,e2,rfl⟩
             ·have hask:decide ((Tm.mf L u 0).den≠0)=true:=hask;rw[hden,e1]at hask;simp at hask
             ·obtain⟨vt,v1,v2⟩:=e2;have hpd:(Tm.mf L u 1).pd=b:=by
               show PD.l ((lV L.pd.q u.den).getD (.l [])).q=b
               rw[e1];exact(ae9 v2).symm
              have hfb:∀b,Zb (hU U f ⟨0,0,0,⟨false,vt,cu U z⟩⟩) f (.frz z.fr tys (.mf L u 1)) b↔cu U z b:=fun b=>by simp only[Zb,bK]
              have st:=Zh hm hl ⟨0,0,0,⟨false,vt,cu U z⟩⟩ (.frz z.fr tys (.mf L u 1)) (fun h=>h) ⟨by rw[bK,hpd];exact v2,fun b hb=>by rw[bK]at hb;exact⟨(bz b hb).1,(bz b hb).2.2⟩⟩ rfl
               (fun b hb k y' hy' ho'=>by
                have hb:=(hfb b).1 hb
                by_cases hkn:k=n
                ·subst hkn;exact((bz b hb).2.1).symm
                ·exact hm.inj k n y' y b hy' hg hkn ho' (.inr ((hzb b).1 hb))) (fun b hb=> .inl ⟨n,y,hg,.inr ((hzb b).1 ((hfb b).1 hb))⟩)
              refine⟨_,w,.inl ?_,st,by simp[SV.ltB,SR.ltB,SC.ltB]⟩
              have hvv:SV.val (hU U f ⟨0,0,0,⟨false,vt,cu U z⟩⟩) (.c (.dat f .root))=vv:=by
               show xY ((hU U f ⟨0,0,0,⟨false,vt,cu U z⟩⟩) f).x.t.v=_
               rw[bK]
               show xY vt.v=_
               rw[yF v2,v1]
              rw[hvv];simp[execOp,ho,hmm,ei,Instr.lookup,run_underlying hu,hobj,Instr.findKey,run_underlying hkd,g1,-List.map_toArray,-List.isEmpty_toArray];rw[hck];simp
            ·cases h
          ·cases h
         ·cases h
        ·cases h
       ·cases h
      ·cases h
     ·cases h
    ·cases h
   ·cases h
  ·cases h
 ·cases h
theorem Xg{t:TypeId}{m ix:Option SV}{ok:Bool}(h:Ed P H t m ix ok f=some (v,H',f'))(hff:f'=f):H'=H:=by
 unfold Ed at h;split at h
 ·split at h
  ·split at h
   ·split at h
    ·split at h
     ·split at h
      ·split at h
       ·split at h
        ·split at h
         ·split at h
          ·generalize hc:(wT P _&&_)=bb at h;cases bb with
           |false=>cases h
           |true=>
            simp only[aP]at h;split at h
            ·cases h;rfl
            ·simp only[ad,aA]at h;omega
            ·cases h
          ·cases h
         ·cases h
        ·cases h
       ·cases h
      ·cases h
     ·cases h
    ·cases h
   ·cases h
  ·cases h
 ·cases h
def BZ(P:Program)(H:bt)(t:TypeId)(m k x:Option SV)(f:Nat):Option (bt×Nat):=match m with
 |some (.r (.one (.map n)))=>match k with
  |some (.r (.one kc))=>match iu kc with
   |some (.i64,u)=>match x with
    |some (.r (.one c))=>match P.underlying t with
     |some (.map key elem)=>match oM P 10 elem with
      |some [.lst tys]=>match get H n with
       |some y=>match j_ tys y with
        |some (L,z)=>match u0 H 300 (.lst tys) c with
         |some (M,ns)=>bif wT P key&&(!(rA n ns)&&(match ask (.tru (.mf L u 0))with
          |some false=>true
          |_=>false))then some (put (ma H ns) n (.mapD tys (.snocD (.snoc L u) M) ⟨some f,z.fr&&ig H ns⟩),f+1)else none
         |none=>none
        |none=>none
       |none=>none
      |_=>none
     |_=>none
    |_=>none
   |_=>none
  |_=>none
 |_=>none
theorem nS.snoc{Z:Nat->Prop}{tys:List Ty}{k:Int}{d:PD}{u:Value}{c:Nat}(hd:gV w Z (.lst tys) d u):∀ {l:List PD} {es:List (Int×Value×Nat)},nS w Z tys l es->nS w Z tys (l++[.i k,d]) (es++[(k,u,c)])
 | [],[],_=>⟨rfl,hd,trivial⟩
 | [],_::_,h=>h.elim
 | [_],[],h=>h.elim
 | [_],_::_,h=>h.elim
 |_::_::_,[],h=>h.elim
 |a::b::r,e::es,h=>⟨h.1,h.2.1,nS.snoc hd h.2.2⟩
theorem Rx{t:TypeId}{m k x:Operand}(ho:o.op= .mapUpdate t m k x)(h:BZ P H t (ev m) (ev k) (ev x) f=some (H',f'))(hm:b9 U (get H) w)(hl:ga f (get H))(ha:kA U f ev V o):bB P o V U H f w .undef H' f':=by
 unfold BZ at h;split at h
 ·rename_i n hmm;have hmm:=(ha m (by simp[ho,Op.operands]) _ hmm).1
  have hmm:V m= .map (some (U n).b):=hmm;split at h
  ·rename_i kc hk;have hk:=(ha k (by simp[ho,Op.operands]) _ hk).1
   split at h
   ·rename_i u hnum;have hk:V k= .int .i64 u.den:=hk.trans (dE hnum U);split at h
    ·rename_i c hx;have hx:=ha x (by simp[ho,Op.operands]) _ hx
     have hxv:V x=c.val U:=hx.1;split at h
     ·rename_i key elem hu;split at h
      ·rename_i tys hty;split at h
       ·rename_i y hg;split at h
        ·rename_i L z hv;split at h
         ·rename_i M ns hre;generalize hcd:(wT P key&&(!(rA n ns)&&(match ask (.tru (.mf L u 0))with
           |some false=>true
           |_=>false)))=cd at h
          cases cd with
          |false=>cases h
          |true=>
           simp only[aP,ad,aA]at h;obtain⟨rfl,rfl⟩:=h;simp only[ah]at hcd;obtain⟨hko,hmem,hask⟩:=hcd;have hmem:rA n ns=false:=by simpa using hmem
           have hnone:lV L.pd.q u.den=none:=by
            cases hq:ask (.tru (.mf L u 0))with
            |none=>rw[hq]at hask;cases hask
            |some d=>
             rw[hq]at hask;cases d with
             |true=>cases hask
             |false=>
              have hask:=k_ hq;have hask:decide ((Tm.mf L u 0).den≠0)=false:=hask;have hden:(Tm.mf L u 0).den=if(lV L.pd.q u.den).isSome then 1 else 0:=rfl
              rw[hden]at hask;cases hmf:lV L.pd.q u.den with
              |none=>rfl
              |some b=>rw[hmf]at hask;simp at hask
           have hnn:n∉ns:=fun hin=>by rw[zh hin]at hmem;cases hmem
           obtain⟨vt,e1,e2⟩:=m_ hm _ _ _ _ _ hre;obtain⟨⟨⟨es,clock,b1,b2⟩,bz⟩,hown,hzb⟩:=AS (hm.ok n y hg) hv;obtain⟨kd,hkd,hck⟩:=Ee (P:=P) hko (k:= .i64) (x:=u.den) false w;obtain⟨r',g1,g2⟩:=G_ (kd:=kd) (x:=u.den) 0 b2;rcases g2 with⟨_,rfl⟩|⟨b,j,e',e3,_⟩
           ·have hnf:n<f:=(hl n _ hg).1;have hlt:=(hm.ok n y hg).lt hown;have hes:((es.map fun e=>({key:= .int .i64 e.1,val:=e.2.1,born:=e.2.2}:MapEntry)).toArray.push {key:= .int .i64 u.den,val:=c.val U,born:=clock})=((es++[(u.den,c.val U,clock)]).map fun(e:Int×Value×Nat)=>({key:= .int .i64 e.1,val:=e.2.1,born:=e.2.2}:MapEntry)).toArray:=by
             apply Array.ext';simp
            obtain⟨w',hw'⟩:∃w':World,w'={w with heap:=w.heap.setIfInBounds (U n).b (.map ((es++[(u.den,c.val U,clock)]).map fun(e:Int×Value×Nat)=>({key:= .int .i64 e.1,val:=e.2.1,born:=e.2.2}:MapEntry)).toArray (clock+1))}:=⟨_,rfl⟩
            have hw:∀b,b≠(U n).b->w'.heap[b]?=w.heap[b]? :=fun b hb=>by
             rw[hw']
             show(w.heap.setIfInBounds (U n).b _)[b]?=_
             rw[fU (fun e=>hb e.symm)]
            have hself:w'.heap[(U n).b]?=some (.map ((es++[(u.den,c.val U,clock)]).map fun(e:Int×Value×Nat)=>({key:= .int .i64 e.1,val:=e.2.1,born:=e.2.2}:MapEntry)).toArray (clock+1)):=by
             rw[hw']
             show(w.heap.setIfInBounds (U n).b _)[(U n).b]?=_
             rw[eI hlt]
            have hwsz:w'.heap.size=w.heap.size:=by rw[hw'];simp
            generalize hθ:hU U f ⟨0,0,0,⟨false,.no,fun b=>cu U z b\/Zn U H ns b⟩⟩=U'
            have hθl:∀k,k<f->U' k=U k:=fun k hk=>by rw[<-hθ];exact e9 hk
            have hθn:U' n=U n:=hθl n hnf;have hzo:∀b,cu U' ⟨some f,z.fr&&ig H ns⟩ b↔(cu U z b\/Zn U H ns b):=fun b=>by simp only[cu,<-hθ,bK]
            have hZp:∀b,Zn U H ns b->Zp U H [] ns b:=fun b hb=> .inr hb
            have hZ1:∀b,(cu U z b\/Zn U H ns b)->b≠(U n).b:=fun b hb=>by
             rcases hb with hb|hb
             ·exact(bz b hb).2.1
             ·exact((hZp b hb).far hm hg hown hnn).symm
            have hZk:∀b,(cu U z b\/Zn U H ns b)->w'.heap[b]?=w.heap[b]? :=fun b hb=>hw b (hZ1 b hb)
            have hgn:∀k y,get (put (ma H ns) n (.mapD tys (.snocD (.snoc L u) M) ⟨some f,z.fr&&ig H ns⟩)) k=some y->(k=n/\y= .mapD tys (.snocD (.snoc L u) M) ⟨some f,z.fr&&ig H ns⟩)\/(k≠n/\get H k=some y/\(ownB y=true->k∉ns)):=fun k y hk=>by
             rw[ur]at hk;split at hk
             ·rename_i e';subst e';rw[mO hnn,hg]at hk;simp at hk;exact .inl ⟨rfl,hk.symm⟩
             ·rename_i e';obtain⟨h1,h2⟩:=mP hk;exact .inr ⟨fun e2=>e' e2.symm,h1,h2⟩
            have hothers:∀k y,k≠n->get (put (ma H ns) n (.mapD tys (.snocD (.snoc L u) M) ⟨some f,z.fr&&ig H ns⟩)) k=some y->get H k=some y/\(ownB y=true->k∉ns):=fun k y hk h=>by
             rcases hgn k y h with⟨h1,_⟩|⟨_,h2⟩
             ·exact absurd h1 hk
             ·exact h2
            have hlst:(Tm.snocD (.snoc L u) M).pd.q=L.pd.q++[.i u.den,.l M.pd.q]:=by
             show(L.pd.q++[PD.i u.den])++[.l M.pd.q]=_
             rw[dg];rfl
            refine⟨U',w',.inr ⟨?_,rfl⟩,vG (n:=n) (y:= .mapD tys (.snocD (.snoc L u) M) ⟨some f,z.fr&&ig H ns⟩) hm hl hθl (Nat.le_succ f) (by omega) (by simp[SB.ltB,RZ.ltB]) ⟨⟨es++[(u.den,c.val U,clock)],clock+1,by rw[hθn];exact hself,?_⟩,fun b hb=>?_⟩ (fun k y h=>by
             rcases hgn k y h with h1|⟨h1,h2,_⟩
             ·exact .inl h1
             ·exact .inr ⟨h1,h2⟩) (fun _=> .inl ⟨n,y,hg,hown,by rw[hθn]⟩) (fun _ k y b hk h hu=>?_) (fun b hb k y hk h hok=>?_) (fun b hb=> .inl ?_) (fun k y b hk h hu=>?_) (fun b hb hno=>hw b fun e'=>hno n y hg hown e'.symm) (kr hwsz.symm) (by rw[hw']) (by rw[hw']) (by rw[hw']),rfl⟩
            ·have ho1:=D_ (P:=P) b1 (fun a b c=>by simp)
             have ho2:=fun ob'=>Le (P:=P) (ob':=ob') b1 (fun a b c=>by simp)
             rw[hw',<-hes];simp[execOp,ho,hmm,hk,hxv,Instr.mapUpdate,run_underlying hu,ho1,Instr.findKey,run_underlying hkd,g1,hck,ho2,-List.map_toArray,-List.push_toArray]
            ·rw[hlst];refine nS.snoc (w:=w') ⟨vt,e1,?_⟩ (b2.keep (fun b hb=>hZk b (.inl hb)) (fun b hb=>(hzo b).2 (.inl hb)))
             exact e2.keep (fun b hb=>hZk b (.inr hb)) (fun b hb=>(hzo b).2 (.inr hb))
            ·have hb:=(hzo b).1 hb;rw[hθn];refine⟨?_,hZ1 b hb,fun hfre=>?_⟩
             ·rw[hwsz];rcases hb with hb|hb
              ·exact(bz b hb).1
              ·exact(hZp b hb).lt hm
             ·have hfre:(z.fr&&ig H ns)=true:=hfre;rw[ah]at hfre;rcases hb with hb|hb
              ·exact(bz b hb).2.2 hfre.1
              ·exact(hZp b hb).fresh hm rfl hfre.2
            ·obtain⟨h1,_⟩:=hothers k y hk h;rw[hθn];exact(hm.inj n k _ y b hg h1 (fun e'=>hk e'.symm) hown hu).symm
            ·obtain⟨h1,h2⟩:=hothers k y hk h;rcases(hzo b).1 hb with hb|hb
             ·exact hm.inj k n y _ b h1 hg hk hok (.inr ((hzb b).1 hb))
             ·exact(hZp b hb).far hm h1 hok (h2 hok.ownB)
            ·rcases(hzo b).1 hb with hb|⟨k,_,y,hy,hu⟩
             ·exact⟨n,_,hg,.inr ((hzb b).1 hb)⟩
             ·exact⟨k,y,hy,hu⟩
            ·obtain⟨h1,_⟩:=hothers k y hk h;exact hw b (hm.inj n k _ y b hg h1 (fun e'=>hk e'.symm) hown hu).symm
           ·rw[hnone]at e3;cases e3
         ·cases h
        ·cases h
       ·cases h
      ·cases h
     ·cases h
    ·cases h
   ·cases h
  ·cases h
 ·cases h
def OV(P:Program)(o:Oper)(ev:Operand->Option SV)(H:bt)(f:Nat):Option (SV×bt×Nat):=match o.op with
 | .store t x y=>(match aqL P H t (ev x) (ev y)with
  |some H'=>some (.undef,H',f)
  |none=>none)
 | .indexAddr t x ix=>(match agC P H t (ev x) (ev ix)with
  |some v=>some (v,H,f)
  |none=>none)
 | .load t x=>(match aqH P H t (ev x)with
  |some v=>some (v,H,f)
  |none=>none)
 | .lookup t m ix ok=>Ed P H t (ev m) (ev ix) ok f
 | .mapUpdate t m k x=>(match BZ P H t (ev m) (ev k) (ev x) f with
  |some (H',f')=>some (.undef,H',f')
  |none=>none)
 |_=>none
theorem amO(h:OV P o ev H f=some (v,H',f'))(hm:b9 U (get H) w)(hl:ga f (get H))(ha:kA U f ev V o):bB P o V U H f w v H' f':=by
 unfold OV at h;split at h
 ·rename_i t x y ho;split at h
  ·rename_i H2 hu;cases h;exact aqK ho hu hm hl ha
  ·cases h
 ·rename_i t x ix ho;split at h
  ·rename_i v2 hu;cases h;exact am8 ho hu hm hl ha
  ·cases h
 ·rename_i t x ho;split at h
  ·rename_i v2 hu;cases h;exact aqG ho hu hm hl ha
  ·cases h
 ·rename_i t m ix ok ho;exact agd ho h hm hl ha
 ·rename_i t m k x ho;split at h
  ·rename_i H2 f2 hu;cases h;exact Rx ho hu hm hl ha
  ·cases h
 ·cases h
end
end
section
variable [Sy][Fa][fN]
def gU(o:Option SV)(H:bt)(f:Nat):Option (SV×bt×Nat):=match o with
 |some v=>some (v,H,f)
 |none=>none
def aa4(P:Program)(o:Oper)(ev:Operand->Option SV)(H:bt)(f:Nat):Option (SV×bt×Nat):=
 match o.op with
 | .move x=>gU (ev x) H f
 | .assign x=>gU (ev x) H f
 | .nilCheck x=>gU (aBx (ev x)) H f
 | .load t x=>gU (abj P H t (ev x)) H f
 | .store t x y=>(match aey P H t (ev x) (ev y)with|some H'=>some (.undef,H',f)|none=>none)
 | .fieldAddr s x fld=>gU (CI P s (ev x) fld) H f
 | .indexAddr t x ix=>gU (Cj P t (ev x) (ev ix)) H f
 | .field s x fld=>gU (ag6 P s (ev x) fld) H f
 | .index t x ix=>gU (agA P t (ev x) (ev ix)) H f
 | .extract x i=>gU (PP (ev x) i) H f
 | .alloc t=>(match o9 P t with|some l=>some (.c (.ptr f 0),(f,.cells 0 t l)::H,f+1)|none=>none)
 | .box t x=>(match ev x with|some (.r u)=>some (.c (.ptr f 0),(f,.cells 0 t (ff u))::H,f+1)|_=>none)
 | .build t parts=>(match wF ev parts.toList with|some ps=>(match ahr P t ps with|some l=>some (.r (.agg l),H,f)|none=>none)|none=>none)
 | .buildSlice t 0 parts=>(match parts.toList with| []=>xL P t f H|_=>none)
 | .buildSlice t len parts=>(match wF ev parts.toList with|some ps=>xW P t len ps f H|none=>none)
 | .makeSlice t x y=>B0 P t (ev x) (ev y) f H
 | .slice t x lo hi none=>(match aeG P t (ev x) (lo.map ev) (hi.map ev) f H with|some (v,f')=>some (v,H,f')|none=>none)
 | .makeFunc (.func g) first caps=>(match first.toList with| []=>(match Vm ev caps.toList with|some l=>some (.c (.fn g l),H,f)|none=>none)|_=>none)
 | .makeMap t none=>some (.c (.map f),(f,.map [] 0)::H,f+1)
 | .lookup t m ix ok=>gU (Xf P H t (ev m) (ev ix) ok) H f
 | .mapUpdate t m k x=>(match BY P H t (ev m) (ev k) (ev x)with|some H'=>some (.undef,H',f)|none=>none)
 | .range t m=>ae_ P H t (ev m) f
 | .next it false=>gU (aql H (ev it)) H f
 | .binOp b t x y t'=>gU (ahd P b t (ev x) (ev y)) H f
 | .call c=>(match c.callee with
  | .builtin .len=>(match aBJ P c.argTypes.toList (c.args.toList.map ev)with|some v=>some (v,H,f)|none=>(match ajo P .len c.argTypes o.type (c.args.toList.map ev)with|some v=>some (v,H,f)|none=>none))
  | .builtin .append=>Yt P c.argTypes.toList (c.args.toList.map ev) f H
  | .builtin .copy=>(match arW P c.argTypes.toList (c.args.toList.map ev) H with|some (v,H')=>some (v,H',f)|none=>none)
  | .builtin b=>gU (ajo P b c.argTypes o.type (c.args.toList.map ev)) H f
  |_=>none)
 |_=>none
def arm:Op->Bool
 | .call _=>true
 |_=>false
def awS(P:Program)(t:TypeId):Bool:=match P.underlying t with
 |some (.slice e)=>match oM P 50 e with
  |some ks=> !(m8 ks)
  |none=>false
 |_=>false
def JV(P:Program)(o:Oper)(ev:Operand->Option SV):Bool:=Fa.sy&&(match o.op with
 | .call c=>(match c.callee with
  | .builtin .append=>(match c.argTypes.toList with
   |t::_=>awS P t
   | []=>false)
  |_=>false)
 | .makeSlice _ x _=>(match ev x with
  |some (.r (.one (.int _ 0)))=>true
  |_=>false)
 |_=>false)
def opS(P:Program)(o:Oper)(ev:Operand->Option SV)(H:bt)(f:Nat):Option (SV×bt×Nat):=match(bif JV P o ev then none else aa4 P o ev H f)with
 |some r=>some r
 |none=>match(bif arm o.op then none else afK P o ev)with
  |some v=>some (v,H,f)
  |none=>match ao5 P o ev with
   |some v=>some (v,H,f)
   |none=>match ZT P o ev H f with
    |some r=>some r
    |none=>match OV P o ev H f with
     |some r=>some r
     |none=>match PV P o ev H f with
     |some r=>some r
     |none=>match af2 P o ev H with
      |some v=>some (v,H,f)
      |none=>match o.op with
       | .call c=>(match c.callee with
        | .builtin .clear=>(match ahp P c.argTypes.toList (c.args.toList.map ev) H with
         |some H'=>some (.undef,H',f)
         |none=>none)
        |_=>none)
       |_=>none
section
variable {P:Program}{o:Oper}{V:Operand->Value}{ev:Operand->Option SV}{U:Th}{H H':bt}{f f':Nat}{w:World}{v:SV}
theorem aqf(h:aa4 P o ev H f=some (v,H',f'))(hm:b9 U (get H) w)(hl:ga f (get H))(ha:kA U f ev V o):bB P o V U H f w v H' f':=by
 unfold aa4 at h;split at h
 ·rename_i x ho
  try unfold gU at h
  split at h
  ·rename_i u hu;cases h;exact ajz (.inl ho) hu hm hl ha
  ·cases h
 ·rename_i x ho
  try unfold gU at h
  split at h
  ·rename_i u hu;cases h;exact ajz (.inr ho) hu hm hl ha
  ·cases h
 ·rename_i x ho
  try unfold gU at h
  split at h
  ·rename_i u hu;cases h;exact aBw ho hu hm hl ha
  ·cases h
 ·rename_i t x ho
  try unfold gU at h
  split at h
  ·rename_i u hu;cases h;exact avS ho hu hm hl ha
  ·cases h
 ·rename_i t x y ho
  try unfold gU at h
  split at h
  ·rename_i u hu;cases h;exact ao8 ho hu hm hl ha
  ·cases h
 ·rename_i s x fld ho
  try unfold gU at h
  split at h
  ·rename_i u hu;cases h;exact Ya ho hu hm hl ha
  ·cases h
 ·rename_i t x ix ho
  try unfold gU at h
  split at h
  ·rename_i u hu;cases h;exact XO ho hu hm hl ha
  ·cases h
 ·rename_i s x fld ho
  try unfold gU at h
  split at h
  ·rename_i u hu;cases h;exact arE ho hu hm hl ha
  ·cases h
 ·rename_i t x ix ho
  try unfold gU at h
  split at h
  ·rename_i u hu;cases h;exact aro ho hu hm hl ha
  ·cases h
 ·rename_i x i ho
  try unfold gU at h
  split at h
  ·rename_i u hu;cases h;exact ahb ho hu hm hl ha
  ·cases h
 ·rename_i t ho;split at h
  ·rename_i l hl';cases h;exact ar9 ho hl' hm hl
  ·cases h
 ·rename_i t x ho
  try unfold gU at h
  split at h
  ·rename_i u hu;cases h;exact aCi ho hu hm hl ha
  ·cases h
 ·rename_i t parts ho;split at h
  ·rename_i ps hp;split at h
   ·rename_i l hb;cases h;exact ar4 ho hp hb hm hl ha
   ·cases h
  ·cases h
 ·rename_i t parts ho;split at h
  ·rename_i hp;exact RI ho hp h hm hl
  ·cases h
 ·rename_i t len parts _ ho;split at h
  ·rename_i ps hp;exact RJ ho hp h hm hl ha
  ·cases h
 ·rename_i t x y ho;exact Xb ho h hm hl ha
 ·rename_i t x lo hi ho;split at h
  ·rename_i u g hu;cases h;exact apd ho hu hm hl ha
  ·cases h
 ·rename_i g first caps ho
  split at h
  ·rename_i hf;split at h
   ·rename_i l hc;cases h;have:first = #[]:=by apply Array.ext';exact hf
    subst this;exact abb ho hc hm hl ha
   ·cases h
  ·cases h
 ·rename_i t ho;cases h;exact af7 ho hm hl
 ·rename_i t m ix ok ho
  try unfold gU at h
  split at h
  ·rename_i u hu;cases h;exact amM ho hu hm hl ha
  ·cases h
 ·rename_i t m k x ho
  try unfold gU at h
  split at h
  ·rename_i u hu;cases h;exact Xa ho hu hm hl ha
  ·cases h
 ·rename_i t m ho;exact apC ho h hm hl ha
 ·rename_i it ho
  try unfold gU at h
  split at h
  ·rename_i u hu;cases h;exact avJ ho hu hm hl ha
  ·cases h
 ·rename_i b t x y t' ho
  try unfold gU at h
  split at h
  ·rename_i u hu;cases h;exact arK ho hu hm hl ha
  ·cases h
 ·rename_i c ho;split at h
  ·rename_i hc
   try unfold gU at h
   split at h
   ·rename_i u hu;cases h;exact aBI ho hc hu hm hl ha
   ·split at h
    ·rename_i u hu;cases h;exact aaP ho hc hu hm hl ha
    ·cases h
  ·rename_i hc;exact anR ho hc h hm hl ha
  ·rename_i hc;split at h
   ·rename_i u g hu;cases h;exact awV ho hc hu hm hl ha
   ·cases h
  ·rename_i b _ _ _ hc
   try unfold gU at h
   split at h
   ·rename_i u hu;cases h;exact aaP ho hc hu hm hl ha
   ·cases h
  ·cases h
 ·cases h
theorem Oi(h:opS P o ev H f=some (v,H',f'))(hm:b9 U (get H) w)(hl:ga f (get H))(ha:kA U f ev V o):bB P o V U H f w v H' f':=by
 unfold opS at h;split at h
 ·rename_i r hr;cases h;cases hsk:JV P o ev with
  |true=>rw[hsk]at hr;cases hr
  |false=>rw[hsk]at hr;exact aqf hr hm hl ha
 ·split at h
  ·rename_i u hu;cases h;cases hc:arm o.op with
   |true=>rw[hc]at hu;cases hu
   |false=>rw[hc]at hu;exact amu hu hm hl ha
  ·split at h
   ·rename_i u hu;cases h;exact ao4 hu hm hl ha
   ·split at h
    ·rename_i r hr;cases h;exact apu hr hm hl ha
    ·split at h
     ·rename_i r hr;cases h;exact amO hr hm hl ha
     split at h
     ·rename_i r hr;cases h;exact anD hr hm hl ha
     ·split at h
      ·rename_i u hu;cases h;exact amG hu hm hl ha
      ·split at h
       ·rename_i c ho;split at h
        ·rename_i hc;split at h
         ·rename_i H2 hr;cases h;exact anJ ho hc hr hm hl ha
         ·cases h
        ·cases h
       ·cases h
abbrev gA:=Nat->List SV->bt->Nat->Option (SV×bt×Nat)
structure jK(P:Program)(F:gA):Prop where
 enter:∀g args H f r,F g args H f=some r->∀xs w,(callFunc g xs).run P w= .ok (.enter g xs) w
 run:∀g args H f v H' f',F g args H f=some (v,H',f')->∀U w,b9 U (get H) w->ga f (get H)->(∀s∈args,s.ltB f=true)->
  Calls P g (args.map (SV.val U)).toArray w fun e w'=>∃U',e= .returned (v.val U')/\dA U (get H) f w U' (get H') f' w'/\v.ltB f'=true
def acC(ev:Operand->Option SV):List Operand->Option (List SV)
 | []=>some []
 |x::r=>match ev x with
  |some s=>match acC ev r with
   |some l=>some (s::l)
   |none=>none
  |none=>none
theorem anv:∀ {xs:List Operand} {l:List SV},acC ev xs=some l->(∀x∈xs,∀s,ev x=some s->V x=s.val U/\s.ltB f=true)->xs.map V=l.map (SV.val U)/\∀s∈l,s.ltB f=true:=by
 intro xs
 induction xs with
 |nil=>intro l h _;simp only[acC,ad]at h;subst h;simp
 |cons x r ih=>
  intro l h ha;simp only[acC]at h;split at h
  ·rename_i s hs;split at h
   ·rename_i l' hl';cases h;obtain⟨h1,h2⟩:=ih hl' fun y hy=>ha y (aU _ hy)
    have hx:=ha x (bN ..) s hs;refine⟨by rw[cL,cL,h1,hx.1],fun u hu=>?_⟩
    rcases aS.1 hu with rfl|hu
    ·exact hx.2
    ·exact h2 u hu
   ·cases h
  ·cases h
def HJ(P:Program)(F:gA)(o:Oper)(ev:Operand->Option SV)(H:bt)(f:Nat):Option (SV×bt×Nat):=match o.op with
 | .call c=>(match c.callee with
  | .value x=>(match ev x with
   |some (.r (.one (.fn g caps)))=>(match acC ev c.args.toList with
    |some args=>F g (args++caps.map fun p=>SV.c (.ptr p.1 p.2)) H f
    |none=>none)
   |_=>none)
  |_=>opS P o ev H f)
 |_=>opS P o ev H f
def aJb(P:Program)(o:Oper)(a:Act)(U:Th)(H:bt)(f:Nat)(w:World)(v:SV)(H':bt)(f':Nat):Prop:=
 ∀K Q,(∀U' w',dA U (get H) f w U' (get H') f' w'->v.ltB f'=true->K (a.put o.dst (v.val U')) w')->o.wp P a w K Q
theorem D8{a:Act}(h:bB P o a.eval U H f w v H' f'):aJb P o a U H f w v H' f':=fun K Q hk=>by
 obtain⟨U',w',hr,hs,hv⟩:=h;unfold Oper.wp;rcases hr with hr|⟨hr,rfl⟩
 ·rw[hr];exact hk U' w' hs hv
 ·rw[hr];exact hk U' w' hs hv
theorem Zj{F:gA}(hF:jK P F){a:Act}(h:HJ P F o ev H f=some (v,H',f'))(hm:b9 U (get H) w)(hl:ga f (get H))(ha:kA U f ev a.eval o):aJb P o a U H f w v H' f':=by
 unfold HJ at h;split at h
 ·rename_i c ho;split at h
  ·rename_i x hc;split at h
   ·rename_i g caps hx;split at h
    ·rename_i args hargs;have hA:∀y∈c.args.toList,∀s,ev y=some s->a.eval y=s.val U/\s.ltB f=true:=fun y hy=>ha y (by simp only[ho,Op.operands,Call.operands,hc];simp;right;simpa using hy)
     obtain⟨e1,e2⟩:=anv (V:=a.eval) hargs hA;have hx':=ha x (by simp[ho,Op.operands,Call.operands,hc]) _ hx
     have hcaps:∀s∈args++caps.map (fun p=>SV.c (.ptr p.1 p.2)),s.ltB f=true:=fun s hs=>by
      rcases cw.1 hs with hs|hs
      ·exact e2 s hs
      ·obtain⟨p,hp,rfl⟩:=eH.1 hs;have:=hx'.2;simp only[SV.ltB,SR.ltB,SC.ltB,be]at this ⊢;exact this p hp
     intro K Q hk;have hcall:=hF.run g _ H f v H' f' h U w hm hl hcaps;have hrun:(execOp a.eval o).run P w= .ok (.enter g ((args++caps.map fun p=>SV.c (.ptr p.1 p.2)).map (SV.val U)).toArray) w:=by
      have hv:a.eval x= .func (.func g) #[] (caps.map fun p=> .pointer (some (U.addr p.1 p.2))).toArray:=hx'.1
      have hm1:c.args.map a.eval=(args.map (SV.val U)).toArray:=by apply Array.ext';rw[Array.toList_map,e1]
      have hsum: #[]++(args.map (SV.val U)).toArray++(caps.map fun p=>Value.pointer (some (U.addr p.1 p.2))).toArray=((args++caps.map fun p=>SV.c (.ptr p.1 p.2)).map (SV.val U)).toArray:=by apply Array.ext';simp[SV.val,SR.val,SC.val]
      have:execOp a.eval o=(do let d<-resolve a.eval c o.type;invoke d.target d.args):=by unfold execOp;rw[ho]
      rw[this];simp only[resolve,hc,hv,hm1,Deferred.ofValue,Sem.run_bind,Sem.run_pure,Result.andThen_ok,invoke];rw[hsum];exact hF.enter g _ H f _ h _ w
     unfold Oper.wp;rw[hrun,Oper.upon_enter];refine hcall.mono ?_;rintro e w' ⟨U',rfl,hs,hv⟩;exact hk U' w' hs hv
    ·cases h
   ·cases h
  ·exact D8 (Oi h hm hl ha)
 ·exact D8 (Oi h hm hl ha)
end
end
section
variable [Sy][Fa][fN]
def RF(T:List SV):Operand->Option SV
 | .tmp t=>match T[t]? with
  |some .unk=>none
  |x=>x
 | .const v=>HB v
 | .func g=>some (.c (.fn g []))
 | .global _=>none
def vh(T:List SV)(dst:Option Tmp)(v:SV):List SV:=match dst with
 |some d=>T.set d v
 |none=>T
def xo(ops:Array Oper)(T:List SV)(o:Oper):Option Bool:=match o.guard with
 |none=>some true
 |some (j,want)=>match ops.toList[j]? with
  |some q=>match q.dst with
   |some d=>match T[d]? with
    |some (.r (.one (.bool b)))=>some (b==want)
    |some (.r (.one (.bq q)))=>(match ask q with
     |some b=>some (b==want)
     |none=>none)
    |some (.tup [])=>some false
    |_=>none
   |none=>none
  |none=>none
structure uV(U:Th)(f:Nat)(T:List SV)(a:Act):Prop where
 size:a.tmps.size=T.length
 tmp:∀ (t:Nat) (s:SV),T[t]?=some s->s.known=true->a.tmps[t]?=some (s.val U)
 lt:∀s∈T,s.ltB f=true
 defers:a.defers=[]
section
variable {P:Program}{F:gA}{o:Oper}{ops:Array Oper}{U U':Th}{H H':bt}{f f':Nat}{w:World}{v:SV}{T T':List SV}{a:Act}
theorem uV.get(h:uV U f T a){t:Nat}{s:SV}(hs:T[t]?=some s)(hk:s.known=true):a.tmps[t]?=some (s.val U)/\s.ltB f=true:=
 ⟨h.tmp t s hs hk,h.lt s (bS hs)⟩
theorem awO{t:Nat}{s:SV}(h:RF T (.tmp t)=some s):T[t]?=some s/\s.known=true:=by
 simp only[RF]at h;split at h
 ·cases h
 ·rename_i x hx;refine⟨h,?_⟩;cases s with
  |unk=>exact absurd h hx
  |_=>rfl
theorem arI{T:List SV}{a:Act}{U:Th}{f:Nat}{l:List Operand}(h:∀t s,Operand.tmp t∈l->T[t]?=some s->s.known=true->a.tmps[t]?=some (s.val U)/\s.ltB f=true):∀x∈l,∀s,RF T x=some s->a.eval x=s.val U/\s.ltB f=true:=by
 intro x hx s hs;cases x with
 |tmp t=>
  obtain⟨e1,e2⟩:=awO hs;obtain⟨h1,h2⟩:=h t s hx e1 e2;refine⟨?_,h2⟩
  show a.tmps.getD t Go.undef=_
  rw[da,h1];rfl
 |const u=>exact⟨(FB hs U).symm,Kv hs f⟩
 |func g=>cases hs;exact⟨rfl,rfl⟩
 |global g=>cases hs
theorem uV.agr(h:uV U f T a):kA U f (RF T) a.eval o:=by
 have:=arI (T:=T) (a:=a) (U:=U) (f:=f) (l:=o.op.operands.toList) fun t s _ hs hk=>h.get hs hk
 exact fun x hx=>this x (by simpa using hx)
theorem uV.ext(h:uV U f T a)(he:∀n,n<f->U' n=U n)(hf:f<=f'):uV U' f' T a:=
 ⟨h.size,fun t s hs hk=>by rw[h.tmp t s hs hk,SV.val_ext (h.lt s (bS hs)) he],fun s hs=>SV.ltB_le (h.lt s hs) hf,h.defers⟩
theorem uV.put(h:uV U f T a)(hv:v.ltB f=true):uV U f (vh T o.dst v) (a.put o.dst (v.val U)):=by
 cases hd:o.dst with
 |none=>exact h
 |some d=>
  refine⟨?_,fun t s hs hk=>?_,fun s hs=>?_,h.defers⟩
  ·show(a.tmps.setIfInBounds d (v.val U)).size=(T.set d v).length
   rw[Array.size_setIfInBounds,dJ,h.size]
  ·show(a.tmps.setIfInBounds d (v.val U))[t]?=_
   have hs':(T.set d v)[t]?=some s:=hs;rw[dF]at hs';rw[Array.getElem?_setIfInBounds];split at hs'
   ·rename_i e;split at hs'
    ·rename_i hlt;rw[ab e,ab (by rw[h.size];exact hlt)]
     cases hs';rfl
    ·cases hs'
   ·rename_i e;rw[ak e];exact h.tmp t s hs' hk
  ·rcases ij hs with h1|rfl
   ·exact h.lt s h1
   ·exact hv
theorem Po{b:Bool}{tmps:Array Value}(h:xo ops T o=some b)(ht:∀g want q d s,o.guard=some (g,want)->ops[g]?=some q->q.dst=some d->T[d]?=some s->s.known=true->tmps[d]?=some (s.val U)):Region.wanted o (yielded ops tmps)=b:=by
 unfold xo at h;unfold Region.wanted;split at h
 ·rename_i hg;rw[hg];simpa using h
 ·rename_i g want hg;rw[hg];split at h
  ·rename_i q hq;rw[b8]at hq;split at h
   ·rename_i d hd;split at h
    ·rename_i b' hs;have:=ht g want q d _ hg hq hd hs rfl;simp only[ad]at h;simp only[yielded,hq,Option.bind_some,hd,this]
     show(some b'==some want)=b
     rw[<-h];rfl
    ·rename_i q' hs;have:=ht g want q d _ hg hq hd hs rfl;split at h
     ·rename_i b' hb';simp only[ad]at h;have e:q'.den=b':=k_ hb';simp only[yielded,hq,Option.bind_some,hd,this]
      show(some q'.den==some want)=b
      rw[<-h,e];rfl
     ·cases h
    ·rename_i hs;have:=ht g want q d _ hg hq hd hs rfl;simp only[ad]at h;simp only[yielded,hq,Option.bind_some,hd,this]
     show((none:Option Bool)==some want)=b
     rw[<-h];rfl
    ·cases h
   ·cases h
  ·cases h
def FN(P:Program)(F:gA)(ops:Array Oper):List Oper->List SV->bt->Nat->Option (List SV×bt×Nat)
 | [],T,H,f=>some (T,H,f)
 |o::r,T,H,f=>match xo ops T o with
  |some true=>match HJ P F o (RF T) H f with
   |some (v,H',f')=>FN P F ops r (vh T o.dst v) H' f'
   |none=>none
  |some false=>FN P F ops r (vh T o.dst .undef) H f
  |none=>none
theorem alZ(hF:jK P F){Q:Exit->Act->World->Prop}:∀ {l:List Oper} {T:List SV} {H:bt} {f:Nat} {a:Act} {U:Th} {w:World},FN P F ops l T H f=some (T',H',f')->uV U f T a->b9 U (get H) w->ga f (get H)->
  (∀a' U' w',uV U' f' T' a'->dA U (get H) f w U' (get H') f' w'->Q .normal a' w')->wpList P ops Q l a w:=by
 intro l
 induction l with
 |nil=>intro T H f a U w h ht hm hl hq;simp only[FN,ad,aA]at h;obtain⟨rfl,rfl,rfl⟩:=h;exact hq a U w ht (dA.refl hm hl)
 |cons o r ih=>
  intro T H f a U w h ht hm hl hq;simp only[FN]at h;unfold wpList;split at h
  ·rename_i hg;rw[Po hg (tmps:=a.tmps) (U:=U) fun _ _ _ d s _ _ _ hs hk=>(ht.get hs hk).1]
   split at h
   ·rename_i v H1 f1 hs;rw[ab rfl];refine .inl (Zj hF hs hm hl ht.agr _ _ fun θ1 w1 h1 hv=>?_)
    exact ih h ((ht.ext h1.ext h1.le).put hv) h1.m h1.lt fun a' U' w' ht' h2=>hq a' U' w' ht' (h1.trans h2)
   ·cases h
  ·rename_i hg;rw[Po hg (tmps:=a.tmps) (U:=U) fun _ _ _ d s _ _ _ hs hk=>(ht.get hs hk).1]
   rw[ak (by simp)]
   exact ih h (ht.put (v:= .undef) rfl) hm hl hq
  ·cases h
end
def SC.menB(n:Nat):SC->Bool
 | .ptr m _| .slice m _ _ _| .map m| .dat m _| .ep m _ _ _ _| .rp m _ _ _| .osl m _ _ _=>Nat.beq m n
 | .fn _ caps=>caps.any fun p=>Nat.beq p.1 n
 |_=>false
def SR.menB(n:Nat):SR->Bool
 | .one c=>c.menB n
 | .agg l=>l.any (SC.menB n)
def SV.menB(n:Nat):SV->Bool
 | .r x=>x.menB n
 | .tup l=>l.any (SR.menB n)
 | .unk=>false
def SB.menB(n:Nat):SB->Bool
 | .cells _ _ cs=>cs.any (SC.menB n)
 | .map es _=>es.any fun e=>e.2.1.menB n
 | .iter m _ _=>Nat.beq m n
 | .row _ _ _ _ _ z=>match z.k with
  |none=>false
  |some k=>Nat.beq k n
 | .frz _ _ _=>false
 | .rowL _ _ _ _ z _ q _=>Nat.beq q n||(match z.k with
  |none=>false
  |some k=>Nat.beq k n)
 | .mapD _ _ z=>match z.k with
  |none=>false
  |some k=>Nat.beq k n
theorem nN{m n:Nat}(h:Nat.beq m n=false):m≠n:=fun e=>by rw[lz e]at h;cases h
theorem SC.val_upd{c:SC}{n:Nat}{U:Th}{L:VP}(h:c.menB n=false):c.val (hU U n L)=c.val U:=by
 cases c with
 |ptr m o=>simp only[SC.val,Th.addr,cQ (nN h)]
 |slice m o l d=>simp only[SC.val,Th.addr,cQ (nN h)]
 |map m=>simp only[SC.val,cQ (nN h)]
 |dat m p=>simp only[SC.val,cQ (nN h)]
 |ep m p t es o=>simp only[SC.val,cQ (nN h)]
 |rp m t es o=>simp only[SC.val,Th.addr,cQ (nN h)]
 |osl m es a b=>simp only[SC.val,Th.row,Th.addr,cQ (nN h)]
 |fn g caps=>simp only[SC.menB,d6]at h;simp only[SC.val];rw[cg (g:=fun p=>Value.pointer (some (U.addr p.1 p.2))) fun p hp=>by simp only[Th.addr,cQ (show p.1≠n by simpa using h p hp)]]
 |_=>rfl
theorem avN{l:List SC}{n:Nat}{U:Th}{L:VP}(h:l.any (SC.menB n)=false):l.map (SC.val (hU U n L))=l.map (SC.val U):=
 cg fun c hc=>SC.val_upd (by simpa using(d6.1 h) c hc)
theorem SR.val_upd{x:SR}{n:Nat}{U:Th}{L:VP}(h:x.menB n=false):x.val (hU U n L)=x.val U:=by
 cases x with
 |one c=>exact SC.val_upd h
 |agg l=>simp only[SR.val,avN h]
theorem SV.val_upd{s:SV}{n:Nat}{U:Th}{L:VP}(h:s.menB n=false):s.val (hU U n L)=s.val U:=by
 cases s with
 |r x=>exact SR.val_upd h
 |tup l=>simp only[SV.val];rw[cg fun x hx=>SR.val_upd (by simpa using(d6.1 h) x hx)]
 |unk=>rfl
theorem SC.men_lt{c:SC}{f n:Nat}(h:c.ltB f=true)(hn:f<=n):c.menB n=false:=by
 have hne:∀m,Nat.blt m f=true->Nat.beq m n=false:=fun m hm=>jk (by rw[bT]at hm;omega)
 cases c with
 |ptr m o=>exact hne m h
 |slice m o l d=>exact hne m h
 |map m=>exact hne m h
 |dat m p=>exact hne m h
 |ep m p t es o=>exact hne m h
 |rp m t es o=>exact hne m h
 |osl m es a b=>exact hne m h
 |fn g caps=>exact d6.2 fun p hp=>by rw[hne p.1 (be.1 h p hp)];exact Bool.false_ne_true
 |_=>rfl
theorem SR.men_lt{x:SR}{f n:Nat}(h:x.ltB f=true)(hn:f<=n):x.menB n=false:=by
 cases x with
 |one c=>exact SC.men_lt h hn
 |agg l=>exact d6.2 fun c hc=>by simpa using SC.men_lt (be.1 h c hc) hn
theorem SV.men_lt{s:SV}{f n:Nat}(h:s.ltB f=true)(hn:f<=n):s.menB n=false:=by
 cases s with
 |r x=>exact SR.men_lt h hn
 |tup l=>exact d6.2 fun c hc=>by simpa using SR.men_lt (be.1 h c hc) hn
 |unk=>rfl
theorem SB.men_lt{x:SB}{f n:Nat}(h:x.ltB f=true)(hn:f<=n):x.menB n=false:=by
 cases x with
 |cells es e cs=>exact d6.2 fun c hc=>by simpa using SC.men_lt (be.1 h c hc) hn
 |map es c=>exact d6.2 fun e he=>by simpa using SC.men_lt (be.1 h e he) hn
 |iter m s l=>exact jk (by simp only[SB.ltB,bT]at h;omega)
 |row _ _ _ _ _ z=>
  have h:z.ltB f=true:=h;unfold RZ.ltB at h
  show(match z.k with|none=>false|some k=>Nat.beq k n)=false
  split
  ·rfl
  ·rename_i k hk;rw[hk]at h;simp only[bT]at h;exact jk (by omega)
 |frz _ _ _=>rfl
 |rowL kc e tys L z t q hi=>
  have h:(Nat.blt q f&&z.ltB f)=true:=h;rw[ah,bT]at h;have h2:=h.2;unfold RZ.ltB at h2
  show(Nat.beq q n||(match z.k with|none=>false|some k=>Nat.beq k n))=false
  rw[jk (show q≠n by omega),jF]
  split
  ·rfl
  ·rename_i k hk;rw[hk]at h2;simp only[bT]at h2;exact jk (by omega)
 |mapD tys L z=>
  have h:z.ltB f=true:=h;unfold RZ.ltB at h
  show(match z.k with|none=>false|some k=>Nat.beq k n)=false
  split
  ·rfl
  ·rename_i k hk;rw[hk]at h;simp only[bT]at h;exact jk (by omega)
theorem cu.upd_{U:Th}{z:RZ}{m b:Nat}{L:VP}(hx:(match z.k with|none=>false|some k=>Nat.beq k m)=false):cu (hU U m L) z b=cu U z b:=by
 unfold cu;split
 ·rfl
 ·rename_i k hk;rw[hk]at hx;rw[cQ (nN hx)]
theorem Zb.upd_{U:Th}{n m:Nat}{x:SB}{L:VP}{b:Nat}(hn:n≠m)(hx:x.menB m=false):Zb (hU U m L) n x b=Zb U n x b:=by
 cases x with
 |row kc es e ks C z=>exact cu.upd_ hx
 |rowL kc e tys C z t q hi=>exact cu.upd_ (Bool.or_eq_false_iff.1 hx).2
 |mapD tys C z=>exact cu.upd_ hx
 |frz fr tys C=>simp only[Zb,cQ hn]
 |_=>rfl
theorem fc.upd_{U:Th}{n m:Nat}{x:SB}{L:VP}{b:Nat}(hn:n≠m)(hx:x.menB m=false):fc (hU U m L) n x b=fc U n x b:=by have h1:hU U m L n=U n:=cQ hn;simp only[fc,gG.ext h1,Zb.upd_ hn hx,h1]
theorem ek.upd_{U:Th}{w w':World}{n m:Nat}{x:SB}{L:VP}(h:ek U w n x)(hn:n≠m)(hx:x.menB m=false)(hb:∀b,fc U n x b->w'.heap[b]?=w.heap[b]?)(hs:w.heap.size<=w'.heap.size):ek (hU U m L) w' n x:=by
 cases x with
 |cells es e cs=>
  obtain⟨h0,arr,h1,h2,h3⟩:=h;refine⟨by rw[cQ hn];exact h0,arr,by rw[cQ hn,hb _ (.inl ⟨trivial,rfl⟩),h1],fun j c hj=>?_,by rw[cQ hn];exact h3⟩
  rw[cQ hn,h2 j c hj,SC.val_upd (by simpa using(d6.1 hx) c (bS hj))]
 |map es c=>
  have h':w.heap[(U n).b]?=_:=h
  show w'.heap[(hU U m L n).b]?=_
  rw[cQ hn,hb _ (.inl ⟨trivial,rfl⟩),h'];refine congrArg some (congrArg (fun l=>Obj.map (List.toArray l) c) ?_)
  refine cg fun e hm=>?_
  rw[SC.val_upd (by simpa using(d6.1 hx) e hm)]
 |iter k s l=>
  obtain⟨h0,h'⟩:=h;refine⟨by rw[cQ hn];exact h0,?_⟩
  rw[cQ hn,hb _ (.inl ⟨trivial,rfl⟩),h',cQ (nN hx)]
 |row kc es e ks C z=>
  obtain⟨h,hz⟩:=h;have hze:∀b,cu (hU U m L) z b=cu U z b:=fun b=>cu.upd_ hx
  refine⟨?_,fun b hb'=>?_⟩
  ·rcases h with⟨h1,h2⟩|⟨h1,arr,h2,h3,h4⟩
   ·exact .inl ⟨by rw[cQ hn];exact h1,h2⟩
   ·refine .inr ⟨by rw[cQ hn];exact h1,arr,?_,fun j hj=>?_,?_⟩
    ·rw[cQ hn,hb _ (.inl ⟨h1,rfl⟩),h2]
    ·obtain⟨t,u,k1,k2,k3⟩:=h3 j hj;exact⟨t,u,k1,k2.keep (fun b hz'=>hb b (.inr hz')) fun b hz'=>by rw[hze];exact hz',by rw[cQ hn];exact k3⟩
    ·rw[cQ hn];exact h4
  ·rw[hze]at hb';obtain⟨g1,g2,g3⟩:=hz b hb';exact⟨dm g1 hs,by rw[cQ hn];exact g2,g3⟩
 |rowL kc e tys C z t q hi=>
  obtain⟨⟨h1,arr,h2,h3,h5,h4⟩,hz⟩:=h;obtain⟨hx1,hx2⟩:=Bool.or_eq_false_iff.1 hx;have hze:∀b,cu (hU U m L) z b=cu U z b:=fun b=>cu.upd_ hx2
  refine⟨⟨by rw[cQ hn];exact h1,arr,by rw[cQ hn,hb _ (.inl ⟨trivial,rfl⟩),h2],fun j hj hne=>?_,?_,by rw[cQ hn];exact h4⟩,fun b hb'=>?_⟩
  ·obtain⟨u,k2,k3⟩:=h3 j hj hne;exact⟨u,k2.keep (fun b hz'=>hb b (.inr hz')) fun b hz'=>by rw[hze];exact hz',by rw[cQ hn];exact k3⟩
  ·have e1:(hU U m L).row q=U.row q:=by simp only[Th.row,Th.addr,cQ (nN hx1)]
   rw[cQ hn,e1];exact h5
  ·rw[hze]at hb';obtain⟨g1,g2,g3⟩:=hz b hb';exact⟨dm g1 hs,by rw[cQ hn];exact g2,g3⟩
 |mapD tys C z=>
  obtain⟨⟨es,c,h2,h3⟩,hz⟩:=h;have hze:∀b,cu (hU U m L) z b=cu U z b:=fun b=>cu.upd_ hx
  refine⟨⟨es,c,by rw[cQ hn,hb _ (.inl ⟨trivial,rfl⟩),h2],?_⟩,fun b hb'=>?_⟩
  ·exact h3.keep (fun b hz'=>hb b (.inr hz')) fun b hz'=>by rw[hze];exact hz'
  ·rw[hze]at hb';obtain⟨g1,g2,g3⟩:=hz b hb';exact⟨dm g1 hs,by rw[cQ hn];exact g2,g3⟩
 |frz fr tys C=>
  obtain⟨h1,h2⟩:=h;refine⟨?_,?_⟩
  ·rw[cQ hn];exact h1.keep (fun b hz=>hb b (.inr hz)) fun b hz=>hz
  ·rw[cQ hn];exact fun b hz=>⟨dm (h2 b hz).1 hs,(h2 b hz).2⟩
def aw2:SB->Bool
 | .cells _ _ _=>true
 | .row _ _ _ _ _ z=>z.k.isNone
 |_=>false
theorem aky{x:SB}(h:aw2 x=true){U:Th}{n b:Nat}:¬Zb U n x b:=fun u=>by
 cases x with
 |cells es e cs=>exact u
 |row kc es e ks C z=>
  have u:cu U z b:=u;unfold cu at u;have h:z.k.isNone=true:=h;cases hk:z.k with
  |none=>rw[hk]at u;exact u
  |some k=>rw[hk]at h;cases h
 |_=>cases h
theorem avj{θ0 U U':Th}{G0 G G':C3}{f0 f nm:Nat}{w0 w w':World}{x0:SB}(h:dA θ0 G0 f0 w0 U G f w)(hs:dA U (get []) f w U' (get [(f,x0)]) (f+1) w')(h0:f0<=nm)(hf:nm<f)(hno:G nm=none)(hmen:∀n x,G n=some x->x.menB nm=false)
  (hx1:x0.ltB f=true) (hx2:x0.menB nm=false) (hx3:aw2 x0=true) (hG:∀n,G' n=if n=nm then some x0 else G n):dA θ0 G0 f0 w0 (hU U nm (U' f)) G' f w':=by
 have hG1:∀n x,G' n=some x->n≠nm->G n=some x:=fun n x hx hn=>by rw[hG,ak hn]at hx;exact hx
 have hG2:∀x,G' nm=some x->x=x0:=fun x hx=>by rw[hG,ab rfl]at hx;injection hx with hx;exact hx.symm
 have hold:∀b,b<w.heap.size->w'.heap[b]?=w.heap[b]? :=fun b hb=>hs.fr b hb fun n x hx=>by cases hx
 have hsz:w.heap.size<=w'.heap.size:=hs.sz;have hu:∀m,m≠nm->hU U nm (U' f) m=U m:=fun m hm=>cQ hm
 have hgf:get [(f,x0)] f=some x0:=by rw[di,ab rfl]
 have ownf:gG (hU U nm (U' f)) nm x0->gG U' f x0:=fun o=>by
  cases x0 with
  |frz fr tys L=>exact o
  |row kc es e ks L z=>have o:(hU U nm (U' f) nm).x.nl=false:=o;rw[bK]at o;exact o
  |_=>trivial
 have hnew:gG U' f x0->w.heap.size<=(U' f).b:=fun o=>by
  rcases hs.nb f x0 hgf o with⟨k,y,hk,_⟩|hge
  ·cases hk
  ·exact hge
 have nbo:YU U G w.heap.size (hU U nm (U' f)) G':=fun n x hx o=>by
  by_cases hn:n=nm
  ·subst hn;have:=hG2 x hx;subst this;rw[bK];exact .inr (hnew (ownf o))
  ·rw[gG.ext (hu n hn)]at o;rw[hu n hn];exact .inl ⟨n,x,hG1 n x hx hn,o,rfl⟩
 have hfar:Far (hU U nm (U' f)) G' w':=h.m.far.next (fun b hb _=>hold b hb) hsz hs.os hs.tape hs.output nbo
 have hval:∀c:SC,c.ltB f=true->c.menB nm=false->c.val (hU U nm (U' f))=c.val U':=fun c h1 h2=>by
  rw[SC.val_upd h2,SC.val_ext h1 hs.ext]
 refine⟨⟨fun n x hx=>?_,fun n m x y b hx hy hne o u=>?_,hfar⟩,fun n x hx=>?_,h.le,fun n hn=>?_,fun b hb hno'=>?_,dB h.sz hsz,hs.os.trans h.os,hs.tape.trans h.tape,hs.output.trans h.output,fun n x hx o=>?_,fun n x b hx o=>?_⟩
 ·by_cases hn:n=nm
  ·subst hn;have:=hG2 x hx;subst this;have hb:=hs.m.ok f x hgf;cases x with
   |cells es e cs=>
    obtain⟨b0,arr,b1,b2,b3⟩:=hb;refine⟨by rw[bK];exact b0,arr,by rw[bK];exact b1,fun j c hj=>?_,by rw[bK];exact b3⟩
    rw[bK,b2 j c hj,hval c (be.1 hx1 c (bS hj)) (by simpa using(d6.1 hx2) c (bS hj))]
   |row kc es e ks L z=>
    obtain⟨hb,_⟩:=hb;have hz:z.k=none:=by
     have h:z.k.isNone=true:=hx3;cases hk:z.k with
     |none=>rfl
     |some k=>rw[hk]at h;cases h
    have hz1:∀ (θ2:Th) b,cu θ2 z b->False:=fun θ2 b hb=>by unfold cu at hb;rw[hz]at hb;exact hb
    refine⟨?_,fun b hb'=>(hz1 _ b hb').elim⟩
    rcases hb with⟨g1,g2⟩|⟨g1,arr,g2,g3,g4⟩
    ·exact .inl ⟨by rw[bK];exact g1,g2⟩
    ·refine .inr ⟨by rw[bK];exact g1,arr,by rw[bK];exact g2,fun j hj=>?_,by rw[bK];exact g4⟩
     obtain⟨t,u,q1,q2,q3⟩:=g3 j hj;exact⟨t,u,q1,q2.keep (fun _ _=>rfl) (fun b hb'=>(hz1 _ b hb').elim),by rw[bK];exact q3⟩
   |_=>cases hx3
  ·have hx':=hG1 n x hx hn;exact(h.m.ok n x hx').upd_ hn (hmen n x hx') (fun b hu'=>hold _ ((h.m.ok n x hx').uses_lt hu')) hsz
 ·by_cases hn:n=nm
  ·subst hn;have hm:=fun e=>hne (Eq.symm e)
   rw[fc.upd_ hm (hmen m y (hG1 m y hy hm))]at u;have:=hG2 x hx;subst this;have h1:=hnew (ownf o);rw[bK];have:=(h.m.ok m y (hG1 m y hy hm)).uses_lt u;omega
  ·rw[gG.ext (hu n hn)]at o;rw[hu n hn]
   by_cases hm:m=nm
   ·subst hm;have:=hG2 y hy;subst this;rcases u with⟨oy,rfl⟩|u
    ·have h1:=hnew (ownf oy);rw[bK];have:=(h.m.ok n x (hG1 n x hx hn)).lt o;omega
    ·exact(aky hx3 u).elim
   ·rw[fc.upd_ hm (hmen m y (hG1 m y hy hm))]at u;exact h.m.inj n m x y b (hG1 n x hx hn) (hG1 m y hy hm) hne o u
 ·by_cases hn:n=nm
  ·subst hn;have:=hG2 x hx;subst this;exact⟨hf,hx1⟩
  ·exact h.lt n x (hG1 n x hx hn)
 ·rw[cQ (by omega)]
  exact h.ext n hn
 ·rw[hold b (dm hb h.sz)];exact h.fr b hb hno'
 ·by_cases hn:n=nm
  ·subst hn;have:=hG2 x hx;subst this;have h1:=hnew (ownf o);rw[bK];exact .inr (dB h.sz h1)
  ·rw[gG.ext (hu n hn)]at o;rw[hu n hn];exact h.nb n x (hG1 n x hx hn) o
 ·by_cases hn:n=nm
  ·subst hn;have:=hG2 x hx;subst this;exact(aky hx3 o).elim
  ·rw[Zb.upd_ hn (hmen n x (hG1 n x hx hn))]at o;exact h.nz n x b (hG1 n x hx hn) o
theorem ek.at_{U:Th}{w:World}{n m:Nat}{x:SB}(he:U m=U n)(h:ek U w n x):ek U w m x:=by cases x<;>(simp only[ek,ZOk,he]at h ⊢;exact h)
theorem gG.at_{U:Th}{n m:Nat}{x:SB}(he:U m=U n):gG U m x=gG U n x:=by cases x<;>simp only[gG,he]
theorem Zb.at_{U:Th}{n m:Nat}{x:SB}{b:Nat}(he:U m=U n):Zb U m x b=Zb U n x b:=by cases x<;>simp only[Zb,he]
theorem Zi{θ0 U':Th}{G0 G2 G':C3}{f0 f nm:Nat}{w0 w':World}{x0:SB}(h:dA θ0 G0 f0 w0 U' G2 (f+1) w')(h0:f0<=nm)(hf:nm<f)(hff:f0<=f)(hx:G2 f=some x0)(hx1:x0.ltB f=true)(hx2:x0.menB nm=false)
  (hG2:∀n x,G2 n=some x->n≠f->n<f/\n≠nm/\x.ltB f=true/\x.menB nm=false) (hG:∀n x,G' n=some x->(n=nm/\x=x0)\/(n≠nm/\n≠f/\G2 n=some x)):dA θ0 G0 f0 w0 (hU U' nm (U' f)) G' f w':=by
 have e0:hU U' nm (U' f) nm=hU U' nm (U' f) f:=by rw[bK,cQ (by omega)]
 have own0:gG (hU U' nm (U' f)) nm x0=gG U' f x0:=by rw[gG.at_ e0,gG.ext (cQ (by omega))]
 have zb0:∀b,Zb (hU U' nm (U' f)) nm x0 b=Zb U' f x0 b:=fun b=>by rw[Zb.at_ e0,Zb.upd_ (by omega) hx2]
 have uses0:∀b,fc (hU U' nm (U' f)) nm x0 b->fc U' f x0 b:=fun b u=>by
  rcases u with⟨o,e⟩|u
  ·rw[own0]at o;rw[bK]at e;exact .inl ⟨o,e⟩
  ·rw[zb0]at u;exact .inr u
 have old:∀n x,G' n=some x->∃k,G2 k=some x/\(hU U' nm (U' f) n)=U' k/\(gG (hU U' nm (U' f)) n x->gG U' k x)/\(∀b,Zb (hU U' nm (U' f)) n x b->Zb U' k x b)/\(∀b,fc (hU U' nm (U' f)) n x b->fc U' k x b)/\(n=nm/\k=f\/n≠nm/\n≠f/\k=n):=fun n x hn=>by
  rcases hG n x hn with⟨rfl,rfl⟩|⟨h1,h2,h3⟩
  ·exact⟨f,hx,bK ..,fun o=>by rw[own0]at o;exact o,fun b z=>by rw[zb0]at z;exact z,uses0,.inl ⟨rfl,rfl⟩⟩
  ·obtain⟨_,_,g3,g4⟩:=hG2 n x h3 h2;have e:hU U' nm (U' f) n=U' n:=cQ h1;exact⟨n,h3,e,fun o=>by rw[gG.ext e]at o;exact o,fun b z=>by rw[Zb.upd_ h1 g4]at z;exact z,fun b u=>by rw[fc.upd_ h1 g4]at u;exact u,.inr ⟨h1,h2,rfl⟩⟩
 refine⟨⟨fun n x hn=>?_,fun n m x y b hn hm hne o u=>?_,⟨fun n x hn o=>?_,h.m.far.bel,h.m.far.sz,fun n x hn o=>?_,h.m.far.fs⟩⟩,fun n x hn=>?_,hff,fun n hn=>?_,h.fr,h.sz,h.os,h.tape,h.output,fun n x hn o=>?_,fun n x b hn z=>?_⟩
 ·rcases hG n x hn with⟨rfl,rfl⟩|⟨h1,h2,h3⟩
  ·exact((h.m.ok f x hx).upd_ (by omega) hx2 (fun _ _=>rfl) (bD _)).at_ e0
  ·obtain⟨_,_,g3,g4⟩:=hG2 n x h3 h2;exact(h.m.ok n x h3).upd_ h1 g4 (fun _ _=>rfl) (bD _)
 ·obtain⟨k,k1,k2,k3,_,_,k6⟩:=old n x hn;obtain⟨j,j1,_,_,_,j5,j6⟩:=old m y hm;rw[k2];refine h.m.inj k j x y b k1 j1 (fun e=>?_) (k3 o) (j5 b u)
  rcases k6 with⟨a1,a2⟩|⟨a1,a2,a3⟩<;>rcases j6 with⟨b1,b2⟩|⟨b1,b2,b3⟩<;>omega
 ·obtain⟨k,k1,k2,k3,_⟩:=old n x hn;rw[k2];exact h.m.far.nm k x k1 (k3 o)
 ·obtain⟨k,k1,k2,k3,_⟩:=old n x hn;rw[k2];exact h.m.far.fo k x k1 (k3 o)
 ·rcases hG n x hn with⟨rfl,rfl⟩|⟨h1,h2,h3⟩
  ·exact⟨hf,hx1⟩
  ·obtain⟨g1,_,g3,_⟩:=hG2 n x h3 h2;exact⟨g1,g3⟩
 ·rw[cQ (by omega)]
  exact h.ext n hn
 ·obtain⟨k,k1,k2,k3,_⟩:=old n x hn;rw[k2];exact h.nb k x k1 (k3 o)
 ·obtain⟨k,k1,k2,_,k4,_⟩:=old n x hn;exact h.nz k x b k1 (k4 b z)
end
section
variable [Sy][Fa][fN]
def lW(acc:List Nat):List Edge->Nat
 | []=>0
 |e::r=>bif Region.binds .any e then(lW acc r|||2^e.on)|||acc.getD e.on 0 else lW acc r
def pC:List Oper->List Nat->List Nat
 | [],acc=>acc
 |o::r,acc=>pC r (acc++[lW acc o.after.toList])
theorem af6{acc:List Nat}{j:Nat}:∀ {es:List Edge},(lW acc es).testBit j=true->∃e∈es,Region.binds .any e=true/\(j=e.on\/(acc.getD e.on 0).testBit j=true):=by
 intro es
 induction es with
 |nil=>intro h;simp[lW]at h
 |cons e r ih=>
  intro h;simp only[lW]at h;cases hb:Region.binds .any e with
  |false=>rw[hb]at h;obtain⟨e',he,h'⟩:=ih h;exact⟨e',aU _ he,h'⟩
  |true=>
   rw[hb]at h;simp only[aP,Nat.testBit_or,eQ]at h;rcases h with(h|h)|h
   ·obtain⟨e',he,h'⟩:=ih h;exact⟨e',aU _ he,h'⟩
   ·rw[Nat.testBit_two_pow]at h;exact⟨e,bN ..,hb,.inl (of_decide_eq_true h).symm⟩
   ·exact⟨e,bN ..,hb,.inr h⟩
theorem T9:∀ (l:List Oper) (acc:List Nat),∃ms,pC l acc=acc++ms/\ms.length=l.length
 | [],acc=>⟨[],by simp[pC],rfl⟩
 |o::r,acc=>by
  obtain⟨ms,h1,h2⟩:=T9 r (acc++[lW acc o.after.toList]);exact⟨lW acc o.after.toList::ms,by simp[pC,h1],by simp[h2]⟩
theorem T_:∀ (l:List Oper) (acc:List Nat) (k:Nat) (o:Oper),l[k]?=some o->∀j,((pC l acc).getD (acc.length+k) 0).testBit j=true->
  ∃e∈o.after,Region.binds .any e=true/\(j=e.on\/(e.on<acc.length+k/\((pC l acc).getD e.on 0).testBit j=true))
 | [],acc,k,o,h,j,hj=>by simp at h
 |p::r,acc,0,o,h,j,hj=>by
  simp only[bn,ad]at h;subst h;obtain⟨ms,h1,h2⟩:=T9 r (acc++[lW acc p.after.toList]);have hm:pC (p::r) acc=acc++(lW acc p.after.toList::ms):=by simp[pC,h1]
  rw[hm]at hj ⊢;have:(acc++(lW acc p.after.toList::ms)).getD (acc.length+0) 0=lW acc p.after.toList:=by simp[List.getD]
  rw[this]at hj;obtain⟨e,he,hb,hj'⟩:=af6 hj;refine⟨e,by simpa using he,hb,?_⟩
  rcases hj' with hj'|hj'
  ·exact .inl hj'
  ·right
   by_cases hl:e.on<acc.length
   ·refine⟨by omega,?_⟩
    rw[ae]at hj' ⊢
    rwa [bl hl]
   ·rw[ae,bp (by omega)]at hj'
    simp at hj'
 |p::r,acc,k+1,o,h,j,hj=>by
  have h':r[k]?=some o:=by simpa using h
  have:=T_ r (acc++[lW acc p.after.toList]) k o h' j (by
   have e:(acc++[lW acc p.after.toList]).length+k=acc.length+(k+1):=by simp;omega
   rw[e];exact hj)
  obtain⟨e,he,hb,hj'⟩:=this;refine⟨e,he,hb,?_⟩;rcases hj' with hj'|⟨h1,h2⟩
  ·exact .inl hj'
  ·exact .inr ⟨by simp at h1;omega,h2⟩
def sA{α:Type}(p:Nat->α->Bool):Nat->List α->Bool
 |_,[]=>true
 |i,x::r=>p i x&&sA p (i+1) r
theorem gz{α:Type}{p:Nat->α->Bool}:∀ {l:List α} {k:Nat},sA p k l=true->∀i x,l[i]?=some x->p (k+i) x=true:=by
 intro l
 induction l with
 |nil=>intro k h i x hx;simp at hx
 |cons y r ih=>
  intro k h i x hx;simp only[sA,ah]at h;cases i with
  |zero=>simp only[bn,ad]at hx;subst hx;exact h.1
  |succ i=>
   have:=ih h.2 i x (by simpa using hx)
   rwa [show k+1+i=k+(i+1)by omega]at this
structure Al where
 j:Nat
 nm:Nat
 v:SV
 x:SB
def aCe(P:Program)(t:TypeId):Bool:=match P.underlying t with
 |some (.slice e)=>match oM P 50 e with
  |some ks=>m8 ks
  |none=>false
 |_=>false
def aFJ(P:Program):Op->Bool
 | .alloc _=>true
 | .makeSlice t _ _=>Fa.sy&&aCe P t
 | .buildSlice .. =>Fa.sy
 |_=>false
def nAl(P:Program):List Oper->Nat
 | []=>0
 |o::r=>bif aFJ P o.op&&o.guard.isNone then nAl P r+1 else nAl P r
def Lp(F nm:Nat):SC->Option SC
 | .ptr n o=>bif Nat.beq n F then some (.ptr nm o)else none
 | .slice n o l d=>bif Nat.beq n F then some (.slice nm o l d)else none
 | .osl n es lo hi=>bif Nat.beq n F then some (.osl nm es lo hi)else none
 |_=>none
def aCo(P:Program)(o:Oper)(ev:Operand->Option SV)(F nm:Nat):Option (SV×SB):=match opS P o ev [] F with
 |some (.r (.one c),[(n,x)],f')=>match Lp F nm c with
  |some c'=>bif Nat.beq n F&&(Nat.beq f' (F+1)&&(x.ltB F&&(!(x.menB nm)&&aw2 x)))then some (.c c',x)else none
  |none=>none
 |_=>none
def apB(F nm:Nat):SC->Option SC
 | .dat n p=>bif Nat.beq n F then some (.dat nm p)else(bif Nat.blt n F&&!(Nat.beq n nm)then some (.dat n p)else none)
 |c=>bif c.ltB F&&!(c.menB nm)then some c else none
def Dy(F nm:Nat):List SC->Option (List SC)
 | []=>some []
 |c::r=>match apB F nm c with
  |some c'=>(match Dy F nm r with
   |some l=>some (c'::l)
   |none=>none)
  |none=>none
def ai7(F nm:Nat):SR->Option SR
 | .one c=>(match apB F nm c with
  |some c'=>some (.one c')
  |none=>none)
 | .agg l=>(match Dy F nm l with
  |some l'=>some (.agg l')
  |none=>none)
def arl:Op->Bool
 | .load _ _=>true
 |_=>false
def aCp(P:Program)(o:Oper)(ev:Operand->Option SV)(H:bt)(F nm:Nat):Option (SV×SB):=match opS P o ev H F with
 |some (.r q,(n,x)::_,f')=>match ai7 F nm q with
  |some q'=>bif Nat.beq n F&&(Nat.beq f' (F+1)&&(x.ltB F&&!(x.menB nm)))then some (.r q',x)else none
  |none=>none
 |_=>none
def ar_(P:Program)(o:Oper)(ev:Operand->Option SV)(H:bt)(F nm:Nat):Option (SV×SB):=bif arl o.op then aCp P o ev H F nm else aCo P o ev F nm
def nLd:List Oper->Nat
 | []=>0
 |o::r=>bif arl o.op&&o.guard.isNone then nLd r+1 else nLd r
def ahC(P:Program):List Oper->Nat->Nat->Option (List Al)
 | [],_,_=>some []
 |o::r,j,nm=>match o.op with
  | .alloc t=>match o.guard with
   |none=>match o9 P t with
    |some zs=>match ahC P r (j+1) (nm+1)with
     |some l=>some (⟨j,nm,.c (.ptr nm 0),.cells 0 t zs⟩::l)
     |none=>none
    |none=>none
   |some _=>none
  |_=>ahC P r (j+1) nm
def P1(ops:List Oper):Nat->Nat->List Al->Bool
 |_,_,[]=>true
 |j0,nm,a::r=>Nat.ble j0 a.j&&(Nat.beq a.nm nm&&((match ops[a.j]? with
  |some o=>o.guard.isNone
  |none=>false)&&P1 ops (a.j+1) (nm+1) r))
structure aBb(ops:List Oper)(j0 nm0:Nat)(als:List Al):Prop where
 op:∀a∈als,j0<=a.j/\∃o,ops[a.j]?=some o/\o.guard=none
 nm:∀a∈als,nm0<=a.nm/\a.nm<nm0+als.length
 inj:∀a∈als,∀b∈als,a.nm=b.nm->a=b
 injj:∀a∈als,∀b∈als,a.j=b.j->a=b
theorem anK{ops:List Oper}:∀ {als:List Al} {j nm:Nat},P1 ops j nm als=true->aBb ops j nm als:=by
 intro als
 induction als with
 |nil=>intro j nm h;exact⟨by simp,by simp,by simp,by simp⟩
 |cons c l ih=>
  intro j nm h;simp only[P1,ah]at h;obtain⟨h1,h2,h3,h4⟩:=h;have h1:=bY h1;have h2:=af h2;have g:=ih h4;have hop:∃o,ops[c.j]?=some o/\o.guard=none:=by
   split at h3
   ·rename_i o ho;exact⟨o,ho,by simpa using h3⟩
   ·cases h3
  refine⟨fun a ha=>?_,fun a ha=>?_,fun a ha b hb he=>?_,fun a ha b hb he=>?_⟩
  ·rcases aS.1 ha with rfl|ha
   ·exact⟨h1,hop⟩
   ·obtain⟨q1,q2⟩:=g.op a ha;exact⟨by omega,q2⟩
  ·rcases aS.1 ha with rfl|ha
   ·simp[h2]
   ·have:=g.nm a ha;simp only[cj];omega
  ·rcases aS.1 ha with h1|h1
   ·rcases aS.1 hb with h5|h5
    ·rw[h1,h5]
    ·have:=g.nm b h5;rw[h1]at he;omega
   ·rcases aS.1 hb with h5|h5
    ·have:=g.nm a h1;rw[h5]at he;omega
    ·exact g.inj a h1 b h5 he
  ·rcases aS.1 ha with h1|h1
   ·rcases aS.1 hb with h5|h5
    ·rw[h1,h5]
    ·have:=(g.op b h5).1;rw[h1]at he;omega
   ·rcases aS.1 hb with h5|h5
    ·have:=(g.op a h1).1;rw[h5]at he;omega
    ·exact g.injj a h1 b h5 he
def Vb(a:Al):Nat×SB:=(a.nm,a.x)
def iE(als:List Al)(p:Al->Bool):bt:=(als.filter p).map Vb
theorem jl(A B:bt)(n:Nat):get (A++B) n=match get A n with
  |some x=>some x
  |none=>get B n:=by
 induction A with
 |nil=>rfl
 |cons e r ih=>
  obtain⟨m,x⟩:=e;rw[aZ,di,di];split
  ·rfl
  ·exact ih
theorem EO{A:bt}{n:Nat}{x:SB}(h:get A n=some x):(n,x)∈A:=by
 induction A with
 |nil=>cases h
 |cons e r ih=>
  obtain⟨m,y⟩:=e;rw[di]at h;split at h
  ·rename_i he;subst he;cases h;exact bN ..
  ·exact aU _ (ih h)
theorem xK{als:List Al}{p:Al->Bool}{n:Nat}{x:SB}(h:get (iE als p) n=some x):∃a∈als,p a=true/\a.nm=n/\x=a.x:=by have:=EO h;unfold iE at this;obtain⟨a,ha,he⟩:=eH.1 this;rw[jw]at ha;simp only[Vb,aA]at he;exact⟨a,ha.1,ha.2,he.1,he.2.symm⟩
theorem aza{A:bt}{n:Nat}(h:∀e∈A,e.1≠n):get A n=none:=by
 cases hg:get A n with
 |none=>rfl
 |some x=>exact absurd rfl (h _ (EO hg))
theorem ack{A:bt}{n:Nat}{x:SB}(h:(n,x)∈A):∃y,get A n=some y:=by
 induction A with
 |nil=>cases h
 |cons e r ih=>
  obtain⟨m,y⟩:=e;rw[di];split
  ·exact⟨y,rfl⟩
  ·rename_i hne;rcases aS.1 h with he|he
   ·cases he;exact absurd rfl hne
   ·exact ih he
theorem arP{als:List Al}{p:Al->Bool}(hi:∀a∈als,∀b∈als,a.nm=b.nm->a=b){a:Al}(ha:a∈als)(hp:p a=true):get (iE als p) a.nm=some a.x:=by have hm:(a.nm,a.x)∈iE als p:=eH.2 ⟨a,jw.2 ⟨ha,hp⟩,rfl⟩;obtain⟨y,hy⟩:=ack hm;obtain⟨b,hb,_,hn,rfl⟩:=xK hy;rw[hy,hi b hb a ha hn]
theorem arO{als:List Al}{p:Al->Bool}{n:Nat}(h:∀a∈als,p a=true->a.nm≠n):get (iE als p) n=none:=by
 cases hg:get (iE als p) n with
 |none=>rfl
 |some x=>obtain⟨a,ha,hp,hn,_⟩:=xK hg;exact absurd hn (h a ha hp)
inductive Kd where
 |rd|ef|al
def Xk:Op->Kd
 | .alloc _=> .al
 | .store .. | .box .. | .buildSlice .. | .makeSlice .. | .makeMap .. | .mapUpdate .. | .range .. | .next .. => .ef
 | .call c=>match c.callee with
  | .builtin .append=> .ef
  | .builtin .copy=> .ef
  | .builtin .clear=> .ef
  | .builtin _=> .rd
  |_=> .ef
 |_=> .rd
structure C6 where
 want:Bool
 kd:Kd
 v:SV
 pos:Nat
 T:List SV
structure Pt where
 E:bt
 f:Nat
 mg:List Nat
structure DS where
 T:List SV
 cur:Pt
 pts:List Pt
 recs:List C6
def BX(n:Nat):List Nat->Bool
 | []=>false
 |m::r=>Nat.beq m n||BX n r
theorem wL{n:Nat}{l:List Nat}:BX n l=true↔n∈l:=by
 induction l with
 |nil=>simp[BX]
 |cons m r ih=>
  simp only[BX,eQ,ih,aS];constructor
  ·rintro(h|h)
   ·exact .inl (af h).symm
   ·exact .inr h
  ·rintro(h|h)
   ·exact .inl (lz h.symm)
   ·exact .inr h
def PT(m:Nat)(mg:List Nat)(a:Al):Bool:=m.testBit a.j&&!(BX a.nm mg)
def xE(i:Nat):List Al->Option Al
 | []=>none
 |a::r=>bif Nat.beq a.j i then some a else xE i r
theorem IF{i:Nat}{l:List Al}{a:Al}(h:xE i l=some a):a∈l/\a.j=i:=by
 induction l with
 |nil=>cases h
 |cons b r ih=>
  simp only[xE]at h;cases hb:Nat.beq b.j i with
  |true=>rw[hb]at h;simp only[aP,ad]at h;subst h;exact⟨bN ..,af hb⟩
  |false=>rw[hb]at h;obtain⟨h1,h2⟩:=ih h;exact⟨aU _ h1,h2⟩
theorem IG{i:Nat}{l:List Al}(h:xE i l=none):∀b∈l,b.j≠i:=by
 induction l with
 |nil=>intro b hb;cases hb
 |cons c r ih=>
  simp only[xE]at h;cases hb:Nat.beq c.j i with
  |true=>rw[hb]at h;cases h
  |false=>
   rw[hb]at h;intro b hm;rcases aS.1 hm with rfl|hm
   ·exact fun e=>by rw[lz e]at hb;cases hb
   ·exact ih h b hm
def ph1(P:Program)(F:gA)(ops:Array Oper)(als:List Al)(ms:List Nat):Nat->List Oper->DS->Option DS
 |_,[],s=>some s
 |i,o::r,s=>match xo ops s.T o with
  |none=>none
  |some false=>ph1 P F ops als ms (i+1) r ⟨vh s.T o.dst .undef,s.cur,s.pts,s.recs++[⟨false,.rd,.undef,s.pts.length,s.T⟩]⟩
  |some true=>match xE i als with
   |some a=>ph1 P F ops als ms (i+1) r ⟨vh s.T o.dst a.v,s.cur,s.pts,s.recs++[⟨true,.al,a.v,s.pts.length,s.T⟩]⟩
   |none=>match Xk o.op with
    | .al=>none
    | .ef=>match HJ P F o (RF s.T) (iE als (PT (ms.getD i 0) s.cur.mg)++s.cur.E) s.cur.f with
     |some (v,E',f')=>ph1 P F ops als ms (i+1) r ⟨vh s.T o.dst v,⟨E',f',s.cur.mg++(iE als (PT (ms.getD i 0) s.cur.mg)).map (·.1)⟩,s.pts++[s.cur],s.recs++[⟨true,.ef,v,s.pts.length,s.T⟩]⟩
     |none=>none
    | .rd=>match opS P o (RF s.T) (iE als (PT (ms.getD i 0) s.cur.mg)++s.cur.E) s.cur.f with
     |some (v,_,f')=>bif Nat.beq f' s.cur.f then ph1 P F ops als ms (i+1) r ⟨vh s.T o.dst v,s.cur,s.pts,s.recs++[⟨true,.rd,v,s.pts.length,s.T⟩]⟩
      else(match HJ P F o (RF s.T) (iE als (PT (ms.getD i 0) s.cur.mg)++s.cur.E) s.cur.f with
       |some (v,E',f')=>ph1 P F ops als ms (i+1) r ⟨vh s.T o.dst v,⟨E',f',s.cur.mg++(iE als (PT (ms.getD i 0) s.cur.mg)).map (·.1)⟩,s.pts++[s.cur],s.recs++[⟨true,.ef,v,s.pts.length,s.T⟩]⟩
       |none=>none)
     |none=>none
def Qe(P:Program)(F:gA)(ops:Array Oper)(ld:Bool):Nat->List Oper->Nat->List SV->bt->Nat->Option (List Al)
 |_,[],_,_,_,_=>some []
 |i,o::r,nm,T,H,f=>match xo ops T o with
  |none=>none
  |some false=>Qe P F ops ld (i+1) r nm (vh T o.dst .undef) H f
  |some true=>bif aFJ P o.op&&o.guard.isNone then(match aCo P o (RF T) f nm with
    |some (v,x)=>match Qe P F ops ld (i+1) r (nm+1) (vh T o.dst v) ((nm,x)::H) f with
     |some l=>some (⟨i,nm,v,x⟩::l)
     |none=>none
    |none=>none)
   else(match(bif ld&&(arl o.op&&o.guard.isNone)then aCp P o (RF T) H f nm else none)with
    |some (v,x)=>(match Qe P F ops ld (i+1) r (nm+1) (vh T o.dst v) ((nm,x)::H) f with
     |some l=>some (⟨i,nm,v,x⟩::l)
     |none=>none)
    |none=>(match HJ P F o (RF T) H f with
     |some (v,H',f')=>Qe P F ops ld (i+1) r nm (vh T o.dst v) H' f'
     |none=>none))
def aFZ(P:Program)(F:gA)(ops:Array Oper)(ld:Bool)(T:List SV)(H:bt)(f:Nat):Option (List Al):=
 bif Fa.sy then(bif ld then(match Qe P F ops true 0 ops.toList f T H (f+nAl P ops.toList+nLd ops.toList)with
   |some l=>Qe P F ops true 0 ops.toList f T H (f+l.length)
   |none=>none)
  else Qe P F ops false 0 ops.toList f T H (f+nAl P ops.toList))else ahC P ops.toList 0 f
def qY(P:Program)(F:gA)(ops:Array Oper)(als:List Al)(ms:List Nat)(pts:List Pt)(T:List SV)(i:Nat)(o:Oper)(r:C6):Prop:=
 xo ops T o=some r.want/\(r.want=false->r.v= .undef/\r.kd= .rd)/\(r.want=true->match r.kd with
  | .al=>∃a∈als,a.j=i/\r.v=a.v
  | .ef=>(∀b∈als,b.j≠i)/\∃p p',pts[r.pos]?=some p/\pts[r.pos+1]?=some p'/\HJ P F o (RF T) (iE als (PT (ms.getD i 0) p.mg)++p.E) p.f=some (r.v,p'.E,p'.f)/\p'.mg=p.mg++(iE als (PT (ms.getD i 0) p.mg)).map (·.1)
  | .rd=>(Xk o.op= .rd/\∀b∈als,b.j≠i)/\∃p H',pts[r.pos]?=some p/\opS P o (RF T) (iE als (PT (ms.getD i 0) p.mg)++p.E) p.f=some (r.v,H',p.f))
def AQ(T0 T:List SV)(l:List Oper)(recs:List C6)(n0 k:Nat):Prop:=
 T.length=T0.length/\∀t u,T[t]?=some u->(∃q o r,q<k/\l[q]?=some o/\o.dst=some t/\recs[n0+q]?=some r/\u=r.v)\/(T0[t]?=some u/\∀q o,q<k->l[q]?=some o->o.dst≠some t)
theorem qY.more{P:Program}{F:gA}{ops:Array Oper}{als:List Al}{ms:List Nat}{pts qs:List Pt}{T:List SV}{i:Nat}{o:Oper}{r:C6}(h:qY P F ops als ms pts T i o r):qY P F ops als ms (pts++qs) T i o r:=by
 have hp:∀ {k p},pts[k]?=some p->(pts++qs)[k]?=some p:=fun{k p} h=>by
  obtain⟨hl,_⟩:=av.1 h;rw[bl hl,h]
 refine⟨h.1,h.2.1,fun hw=>?_⟩
 have:=h.2.2 hw;cases hk:r.kd with
 |al=>rw[hk]at this;exact this
 |ef=>rw[hk]at this;obtain⟨h0,p,p',h1,h2,h3⟩:=this;exact⟨h0,p,p',hp h1,hp h2,h3⟩
 |rd=>rw[hk]at this;obtain⟨h0,p,H',h1,h2⟩:=this;exact⟨h0,p,H',hp h1,h2⟩
theorem ZI{T0 T:List SV}{o:Oper}{r:C6}{l:List Oper}{recs:List C6}{n0:Nat}(hr:recs[n0]?=some r)(hT:T.length=T0.length->True)(k:Nat)(T1:List SV)
  (h:AQ (vh T0 o.dst r.v) T1 l recs (n0+1) k):AQ T0 T1 (o::l) recs n0 (k+1):=by
 obtain⟨h1,h2⟩:=h;have hlen:(vh T0 o.dst r.v).length=T0.length:=by cases hd:o.dst<;>simp[vh]
 refine⟨h1.trans hlen,fun t u hu=>?_⟩
 rcases h2 t u hu with⟨q,o',r',hq,ho,hd,hr',hv⟩|⟨h3,h4⟩
 ·exact .inl ⟨q+1,o',r',by omega,by simpa using ho,hd,by rw[show n0+(q+1)=n0+1+q by omega];exact hr',hv⟩
 ·cases hd:o.dst with
  |none=>
   rw[hd]at h3;refine .inr ⟨h3,fun q o' hq ho=>?_⟩
   cases q with
   |zero=>simp only[bn,ad]at ho;subst ho;rw[hd];simp
   |succ q=>exact h4 q o' (by omega) (by simpa using ho)
  |some d=>
   rw[hd]at h3;simp only[vh]at h3
   by_cases hdt:d=t
   ·subst hdt
    left
    have hl:d<T0.length:=by obtain⟨hl,_⟩:=av.1 h3;simpa using hl
    rw[ej hl]at h3;exact⟨0,o,r,by omega,by simp,hd,by simpa using hr,by injection h3 with h3;exact h3.symm⟩
   ·rw[iB hdt]at h3;refine .inr ⟨h3,fun q o' hq ho=>?_⟩
    cases q with
    |zero=>simp only[bn,ad]at ho;subst ho;rw[hd];simpa using hdt
    |succ q=>exact h4 q o' (by omega) (by simpa using ho)
theorem aBs{P:Program}{F:gA}{ops:Array Oper}{als:List Al}{ms:List Nat}:∀ {l:List Oper} {i:Nat} {s s':DS},ph1 P F ops als ms i l s=some s'->
  (∃rs,s'.recs=s.recs++rs/\rs.length=l.length)/\(∃ps,s'.pts++[s'.cur]=s.pts++[s.cur]++ps)/\AQ s.T s'.T l s'.recs s.recs.length l.length/\
  ∀k o,l[k]?=some o->∃r,s'.recs[s.recs.length+k]?=some r/\qY P F ops als ms (s'.pts++[s'.cur]) r.T (i+k) o r/\AQ s.T r.T l s'.recs s.recs.length k:=by
 intro l
 induction l with
 |nil=>intro i s s' h;simp only[ph1,ad]at h;subst h;exact⟨⟨[],by simp,rfl⟩,⟨[],by simp⟩,⟨rfl,fun t u hu=> .inr ⟨hu,fun q o hq=>absurd hq (by simp)⟩⟩,fun k o ho=>by simp at ho⟩
 |cons o l ih=>
  intro i s s' h;have go:∀ (r:C6) (cur:Pt) (pts:List Pt),ph1 P F ops als ms (i+1) l ⟨vh s.T o.dst r.v,cur,pts,s.recs++[r]⟩=some s'->(∃ps,pts++[cur]=s.pts++[s.cur]++ps)->qY P F ops als ms (pts++[cur]) r.T i o r->r.T=s.T->
    (∃rs,s'.recs=s.recs++rs/\rs.length=(o::l).length)/\(∃ps,s'.pts++[s'.cur]=s.pts++[s.cur]++ps)/\AQ s.T s'.T (o::l) s'.recs s.recs.length (o::l).length/\
    ∀k o',(o::l)[k]?=some o'->∃r,s'.recs[s.recs.length+k]?=some r/\qY P F ops als ms (s'.pts++[s'.cur]) r.T (i+k) o' r/\AQ s.T r.T (o::l) s'.recs s.recs.length k:=fun r cur pts hh hps hrf hrT=>by
   obtain⟨⟨rs,r1,r2⟩,⟨qs,q1⟩,t1,fs⟩:=ih hh;obtain⟨ps,p1⟩:=hps;simp only at r1 q1 t1 fs;have hr:s'.recs[s.recs.length]?=some r:=by rw[r1];simp
   have hlen:(s.recs++[r]).length=s.recs.length+1:=by simp
   rw[hlen]at t1 fs;refine⟨⟨r::rs,by rw[r1];simp,by simp[r2]⟩,⟨ps++qs,by rw[q1,p1];simp⟩,?_,fun k o' ho'=>?_⟩
   ·exact ZI (T:=s'.T) hr (fun _=>trivial) l.length s'.T t1
   ·cases k with
    |zero=>
     simp only[bn,ad]at ho';subst ho';refine⟨r,by simpa using hr,?_,⟨by rw[hrT],fun t u hu=> .inr ⟨by rw[<-hrT];exact hu,fun q o hq=>absurd hq (by omega)⟩⟩⟩
     rw[q1];exact hrf.more
    |succ k=>
     obtain⟨r',h1,h2,h3⟩:=fs k o' (by simpa using ho')
     refine⟨r',by rw[show s.recs.length+(k+1)=s.recs.length+1+k by omega];exact h1,by rw[show i+(k+1)=i+1+k by omega];exact h2,ZI (T:=r'.T) hr (fun _=>trivial) k r'.T h3⟩
  have here:(s.pts++[s.cur])[s.pts.length]?=some s.cur:=by simp
  have eff:∀v E' f',(∀b∈als,b.j≠i)->xo ops s.T o=some true->HJ P F o (RF s.T) (iE als (PT (ms.getD i 0) s.cur.mg)++s.cur.E) s.cur.f=some (v,E',f')->ph1 P F ops als ms (i+1) l ⟨vh s.T o.dst v,⟨E',f',s.cur.mg++(iE als (PT (ms.getD i 0) s.cur.mg)).map (·.1)⟩,s.pts++[s.cur],s.recs++[⟨true,.ef,v,s.pts.length,s.T⟩]⟩=some s'->
    (∃rs,s'.recs=s.recs++rs/\rs.length=(o::l).length)/\(∃ps,s'.pts++[s'.cur]=s.pts++[s.cur]++ps)/\AQ s.T s'.T (o::l) s'.recs s.recs.length (o::l).length/\
    ∀k o',(o::l)[k]?=some o'->∃r,s'.recs[s.recs.length+k]?=some r/\qY P F ops als ms (s'.pts++[s'.cur]) r.T (i+k) o' r/\AQ s.T r.T (o::l) s'.recs s.recs.length k:=fun v E' f' hk hg hs h=>
   go ⟨true,.ef,v,s.pts.length,s.T⟩ _ _ h ⟨[_],rfl⟩ ⟨hg,fun e=>(by cases e),fun _=>⟨hk,s.cur,_,(by
      show(s.pts++[s.cur]++[_])[s.pts.length]?=some s.cur
      rw[bl (by simp)];exact here),(by
      show(s.pts++[s.cur]++[_])[s.pts.length+1]?=some _
      rw[bA (by simp)];simp;rfl),hs,rfl⟩⟩ rfl
  simp only[ph1]at h;split at h
  ·cases h
  ·rename_i hg;exact go ⟨false,.rd,.undef,s.pts.length,s.T⟩ s.cur s.pts h ⟨[],by simp⟩ ⟨hg,fun _=>⟨rfl,rfl⟩,fun e=>by cases e⟩ rfl
  ·rename_i hg;split at h
   ·rename_i a ha;obtain⟨a1,a2⟩:=IF ha;exact go ⟨true,.al,a.v,s.pts.length,s.T⟩ s.cur s.pts h ⟨[],by simp⟩ ⟨hg,fun e=>(by cases e),fun _=>⟨a,a1,a2,rfl⟩⟩ rfl
   ·rename_i hno;have hno:=IG hno;split at h
    ·cases h
    ·rename_i hk;split at h
     ·rename_i v E' f' hs;exact eff v E' f' hno hg hs h
     ·cases h
    ·rename_i hk;split at h
     ·rename_i v H' f' hs;cases hf:Nat.beq f' s.cur.f with
      |false=>
       rw[hf]at h;simp only[cD]at h;split at h
       ·rename_i v2 E2 f2 hs2;exact eff v2 E2 f2 hno hg hs2 h
       ·cases h
      |true=>rw[hf]at h;have hf:=af hf;subst hf;exact go ⟨true,.rd,v,s.pts.length,s.T⟩ s.cur s.pts h ⟨[],by simp⟩ ⟨hg,fun e=>(by cases e),fun _=>⟨⟨hk,hno⟩,s.cur,H',here,hs⟩⟩ rfl
     ·cases h
end
section
variable [Sy][Fa][fN]
def SC.eqB:SC->SC->Bool
 | .int k x,.int k' y=>decide (k=k')&&decide (x=y)
 | .bool a,.bool b=>a==b
 | .nilp,.nilp=>true
 | .ptr n o,.ptr m p=>Nat.beq n m&&Nat.beq o p
 | .nils,.nils=>true
 | .slice n o l d,.slice m p k e=>Nat.beq n m&&Nat.beq o p&&Nat.beq l k&&Nat.beq d e
 | .nilm,.nilm=>true
 | .map n,.map m=>Nat.beq n m
 | .nilFn,.nilFn=>true
 | .nilIf,.nilIf=>true
 | .fn f l,.fn g k=>Nat.beq f g&&decide (l=k)
 | .sym k a,.sym k' b=>decide (k=k')&&Tm.eqB a b
 | .opq i,.opq j=>Nat.beq i j
 | .optr p o,.optr q r=>Nat.beq p q&&Nat.beq o r
 | .bq a,.bq b=>Bm.eqB a b
 | .dat n p,.dat m q=>Nat.beq n m&&Pa.eqB p q
 | .ep n p t e o,.ep m q u g r=>Nat.beq n m&&(Pa.eqB p q&&(Tm.eqB t u&&(Nat.beq e g&&Nat.beq o r)))
 | .rp n t e o,.rp m u g r=>Nat.beq n m&&(Tm.eqB t u&&(Nat.beq e g&&Nat.beq o r))
 | .osl n e a b,.osl m g c d=>Nat.beq n m&&(Nat.beq e g&&(Tm.eqB a c&&Tm.eqB b d))
 |_,_=>false
theorem SC.eqB_eq{a b:SC}(h:SC.eqB a b=true):a=b:=by
 unfold SC.eqB at h;split at h
 case h_12=>simp only[ah,decide_eq_true_eq]at h;rw[h.1,Tm.eqB_eq h.2]
 case h_15=>rw[Bm.eqB_eq h]
 case h_16=>simp only[ah]at h;rw[af h.1,Pa.eqB_eq h.2]
 case h_17=>simp only[ah]at h;rw[af h.1,Pa.eqB_eq h.2.1,Tm.eqB_eq h.2.2.1,af h.2.2.2.1,af h.2.2.2.2]
 case h_18=>simp only[ah]at h;rw[af h.1,Tm.eqB_eq h.2.1,af h.2.2.1,af h.2.2.2]
 case h_19=>simp only[ah]at h;rw[af h.1,af h.2.1,Tm.eqB_eq h.2.2.1,Tm.eqB_eq h.2.2.2]
 all_goals simp only[ah,decide_eq_true_eq,beq_iff_eq,Nat.beq_eq,reduceCtorEq]at h
 all_goals simp_all
def eqAll:List SC->List SC->Bool
 | [],[]=>true
 |a::r,b::s=>SC.eqB a b&&eqAll r s
 |_,_=>false
theorem eqAll_eq:∀ {a b:List SC},eqAll a b=true->a=b
 | [],[],_=>rfl
 | [],_::_,h=>by cases h
 |_::_,[],h=>by cases h
 |a::r,b::s,h=>by
  simp only[eqAll,ah]at h;rw[SC.eqB_eq h.1,eqAll_eq h.2]
def SV.eqB:SV->SV->Bool
 | .r (.one a),.r (.one b)=>SC.eqB a b
 | .r (.agg a),.r (.agg b)=>eqAll a b
 | .tup [],.tup []=>true
 | .unk,.unk=>true
 |_,_=>false
theorem SV.eqB_eq{a b:SV}(h:SV.eqB a b=true):a=b:=by
 unfold SV.eqB at h;split at h
 ·rw[SC.eqB_eq h]
 ·rw[eqAll_eq h]
 ·rfl
 ·rfl
 ·cases h
def ait:SB->SB->Bool
 | .cells es e cs,.cells es' e' cs'=>Nat.beq es es'&&(Nat.beq e e'&&eqAll cs cs')
 | .row kc es e ks L z,.row kc' es' e' ks' L' z'=>(kc==kc')&&(Nat.beq es es'&&(Nat.beq e e'&&(Ty.eqAll ks ks'&&(Tm.eqB L L'&&RZ.eqB z z'))))
 | .frz a ks L,.frz a' ks' L'=>(a==a')&&(Ty.eqAll ks ks'&&Tm.eqB L L')
 |_,_=>false
theorem aoL{a b:SB}(h:ait a b=true):a=b:=by
 unfold ait at h;split at h
 ·simp only[ah]at h;rw[af h.1,af h.2.1,eqAll_eq h.2.2]
 ·simp only[ah]at h;obtain⟨h1,h2,h3,h4,h5,h6⟩:=h;rw[eq_of_beq h1,af h2,af h3,Ty.eqAll_eq _ _ h4,Tm.eqB_eq h5,RZ.eqB_eq h6]
 ·simp only[ah]at h;rw[eq_of_beq h.1,Ty.eqAll_eq _ _ h.2.1,Tm.eqB_eq h.2.2]
 ·cases h
def sj(r:C6):Bool:=r.want&&(match r.kd with| .ef=>true|_=>false)
def awd(r:C6):Bool:=r.want&&(match r.kd with| .rd=>true|_=>false)
def Yl(ops:Array Oper)(l:List Oper)(ms:List Nat):Bool:=
 sA (fun i o=>o.after.toList.all fun e=> !(Region.binds .any e)||Nat.blt e.on i) 0 l&&
 (sA (fun i o=>match o.dst with
  |none=>true
  |some d=>sA (fun j q=>match q.dst with
   |some d'=>Nat.beq i j|| !(Nat.beq d d')
   |none=>true) 0 l) 0 l&&
 sA (fun i o=>(o.looksAt ops).all fun t=>sA (fun j q=>match q.dst with
   |some d=> !(Nat.beq d t)||((ms.getD i 0).testBit j||(ms.getD j 0).testBit i)
   |none=>true) 0 l) 0 l)
def avF(ms:List Nat)(recs:List C6)(i k:Nat):Bool:=sA (fun j q=> !(sj q)||bif Nat.blt q.pos k then !((ms.getD j 0).testBit i)else !((ms.getD i 0).testBit j)) 0 recs
theorem ajv{ms:List Nat}{recs:List C6}{i k:Nat}(hpos:∀ (j:Nat) (q:C6),recs[j]?=some q->sj q=true->(q.pos<k->(ms.getD j 0).testBit i=false)/\(k<=q.pos->(ms.getD i 0).testBit j=false)):avF ms recs i k=true:=by
 unfold avF;have gen:∀ (l:List C6) (n:Nat),(∀j q,l[j]?=some q->recs[n+j]?=some q)->sA (fun j q=> !(sj q)||bif Nat.blt q.pos k then !((ms.getD j 0).testBit i)else !((ms.getD i 0).testBit j)) n l=true:=by
  intro l
  induction l with
  |nil=>intro n _;rfl
  |cons q l ih=>
   intro n hsub;simp only[sA,ah];refine⟨?_,ih (n+1) fun j q' hq'=>by rw[show n+1+j=n+(j+1)by omega];exact hsub (j+1) q' (by simpa using hq')⟩
   cases he:sj q with
   |false=>rfl
   |true=>
    have:=hpos n q (by simpa using hsub 0 q (by simp)) he
    cases hlt:Nat.blt q.pos k with
    |true=>rw[bT]at hlt;rw[this.1 hlt];rfl
    |false=>
     have hge:k<=q.pos:=by
      have:¬q.pos<k:=fun e=>by rw[<-bT,hlt]at e;cases e
      omega
     rw[this.2 hge];rfl
 exact gen recs 0 fun j q hq=>by simpa using hq
def ahq(P:Program)(l:List Oper)(als:List Al)(ms:List Nat)(s:DS):Bool:=
 sA (fun i r=> !(sj r)||sA (fun j q=> !(sj q)||(Nat.beq i j||bif Nat.blt q.pos r.pos then(ms.getD i 0).testBit j else !(Nat.beq q.pos r.pos))) 0 s.recs) 0 s.recs&&
 (sA (fun k _=>s.recs.any fun r=>sj r&&Nat.beq r.pos k) 0 s.pts&&
 (sA (fun i r=> !(awd r)||sA (fun k pt=>Nat.beq k r.pos||(!(avF ms s.recs i k)||
   (match l[i]? with
    |some o=>(match opS P o (RF r.T) (iE als (PT (ms.getD i 0) pt.mg)++pt.E) pt.f with
     |some (v,_,f')=>Nat.beq f' pt.f&&SV.eqB v r.v
     |none=>false)
    |none=>false))) 0 (s.pts++[s.cur])) 0 s.recs&&
 (sA (fun i r=>als.all fun a=>Nat.beq a.j i||(!(r.v.menB a.nm)||(ms.getD i 0).testBit a.j)) 0 s.recs&&
 (sA (fun _ pt=>als.all fun a=>BX a.nm pt.mg||((get pt.E a.nm).isNone&&pt.E.all fun e=> !(e.2.menB a.nm))) 0 (s.pts++[s.cur])&&
 (sA (fun i r=>(match xE i als with
   |some a=>(match l[i]? with
    |some o=>sA (fun k pt=> !(avF ms s.recs i k)||(match ar_ P o (RF r.T) (iE als (PT (ms.getD i 0) pt.mg)++pt.E) pt.f a.nm with
     |some (v,x)=>SV.eqB v a.v&&ait x a.x
     |none=>false)) 0 (s.pts++[s.cur])
    |none=>false)
   |none=>true)) 0 s.recs&&
 als.all fun b=>als.all fun a=> !(b.x.menB a.nm)||(ms.getD b.j 0).testBit a.j)))))
def aku(P:Program)(F:gA)(ops:Array Oper)(ld:Bool)(T:List SV)(H:bt)(f:Nat):Option (List SV×bt×Nat):=
 match aFZ P F ops ld T H f with
 |none=>none
 |some als=>match ph1 P F ops als (pC ops.toList []) 0 ops.toList ⟨T,⟨H,f+als.length,[]⟩,[],[]⟩with
  |none=>none
  |some s=>bif P1 ops.toList 0 f als&&(Yl ops ops.toList (pC ops.toList [])&&ahq P ops.toList als (pC ops.toList []) s)then some (s.T,iE als (fun a=> !(BX a.nm s.cur.mg))++s.cur.E,s.cur.f)else none
def akv(P:Program)(F:gA)(ops:Array Oper)(T:List SV)(H:bt)(f:Nat):Option (List SV×bt×Nat):=match aku P F ops false T H f with
 |some r=>some r
 |none=>bif Fa.sy then aku P F ops true T H f else none
structure jx(P:Program)(F:gA)(ops:Array Oper)(T0:List SV)(H0:bt)(f0:Nat)(als:List Al)(ms:List Nat)(s:DS):Prop where
 als_ok:aBb ops.toList 0 f0 als
 bit:∀ (i:Nat) (o:Oper),ops[i]?=some o->∀j,(ms.getD i 0).testBit j=true->∃e∈o.after,Region.binds .any e=true/\(j=e.on\/(e.on<i/\(ms.getD e.on 0).testBit j=true))
 edge:∀ (i:Nat) (o:Oper),ops[i]?=some o->∀e∈o.after,Region.binds .any e=true->e.on<i
 dst:∀ (i j:Nat) (o q:Oper) (d:Nat),ops[i]?=some o->ops[j]?=some q->o.dst=some d->q.dst=some d->i=j
 look:∀ (i:Nat) (o:Oper),ops[i]?=some o->∀t∈o.looksAt ops,∀ (j:Nat) (q:Oper),ops[j]?=some q->q.dst=some t->(ms.getD i 0).testBit j=true\/(ms.getD j 0).testBit i=true
 p0:(s.pts++[s.cur])[0]?=some ⟨H0,f0+als.length,[]⟩
 fact:∀ (i:Nat) (o:Oper),ops[i]?=some o->∃ (r:C6),s.recs[i]?=some r/\qY P F ops als ms (s.pts++[s.cur]) r.T i o r/\AQ T0 r.T ops.toList s.recs 0 i
 fin:AQ T0 s.T ops.toList s.recs 0 ops.size
 rlen:s.recs.length=ops.size
 efs:∀ (i j:Nat) (r q:C6),s.recs[i]?=some r->s.recs[j]?=some q->sj r=true->sj q=true->i≠j->(q.pos<r.pos/\(ms.getD i 0).testBit j=true)\/r.pos<q.pos
 efx:∀ (k:Nat),k<s.pts.length->∃ (i:Nat) (r:C6),s.recs[i]?=some r/\sj r=true/\r.pos=k
 rds:∀ (i:Nat) (o:Oper) (r:C6) (k:Nat) (pt:Pt),ops[i]?=some o->s.recs[i]?=some r->awd r=true->(s.pts++[s.cur])[k]?=some pt->k≠r.pos->(∀ (j:Nat) (q:C6),s.recs[j]?=some q->sj q=true->(q.pos<k->(ms.getD j 0).testBit i=false)/\(k<=q.pos->(ms.getD i 0).testBit j=false))->
  ∃H',opS P o (RF r.T) (iE als (PT (ms.getD i 0) pt.mg)++pt.E) pt.f=some (r.v,H',pt.f)
 men:∀ (i:Nat) (r:C6),s.recs[i]?=some r->∀a∈als,a.j≠i->r.v.menB a.nm=true->(ms.getD i 0).testBit a.j=true
 pt:∀ (k:Nat) (p:Pt),(s.pts++[s.cur])[k]?=some p->∀a∈als,a.nm∉p.mg->get p.E a.nm=none/\∀n x,get p.E n=some x->x.menB a.nm=false
 alo:∀ (a:Al) (o:Oper) (r:C6),a∈als->ops[a.j]?=some o->s.recs[a.j]?=some r->∀ (k:Nat) (p:Pt),(s.pts++[s.cur])[k]?=some p->(∀ (j:Nat) (q:C6),s.recs[j]?=some q->sj q=true->(q.pos<k->(ms.getD j 0).testBit a.j=false)/\(k<=q.pos->(ms.getD a.j 0).testBit j=false))->ar_ P o (RF r.T) (iE als (PT (ms.getD a.j 0) p.mg)++p.E) p.f a.nm=some (a.v,a.x)
 alm:∀b∈als,∀a∈als,b.x.menB a.nm=true->(ms.getD b.j 0).testBit a.j=true
theorem acj{P:Program}{F:gA}{ops:Array Oper}{ld:Bool}{T T':List SV}{H H':bt}{f f':Nat}(h:aku P F ops ld T H f=some (T',H',f')):
  ∃als s,jx P F ops T H f als (pC ops.toList []) s/\T'=s.T/\H'=iE als (fun a=> !(BX a.nm s.cur.mg))++s.cur.E/\f'=s.cur.f:=by
 unfold aku at h;split at h
 ·cases h
 ·rename_i als hals;split at h
  ·cases h
  ·rename_i s hs;cases hc:(P1 ops.toList 0 f als&&(Yl ops ops.toList (pC ops.toList [])&&ahq P ops.toList als (pC ops.toList []) s))with
   |false=>rw[hc]at h;cases h
   |true=>
    rw[hc]at h;simp only[aP,ad,aA]at h;obtain⟨rfl,rfl,rfl⟩:=h;refine⟨als,s,?_,rfl,rfl,rfl⟩;obtain⟨⟨rs,r1,r2⟩,⟨ps,q1⟩,t1,fs⟩:=aBs hs;simp only[bg,dr,bR]at r1 q1 t1 fs;simp only[ah,Yl,ahq]at hc;obtain⟨c0,⟨c1,c2,c3⟩,c4,c5,c6,c7,c8,c9,c10⟩:=hc;have aok:=anK c0;have tol:∀ {i:Nat} {o:Oper},ops[i]?=some o->ops.toList[i]?=some o:=fun{i o} h=>by rw[b8];exact h
    refine⟨aok,fun i o ho j hj=>?_,fun i o ho e he hb=>?_,fun i j o q d ho hq h1 h2=>?_,fun i o ho t ht j q hq hd=>?_,by rw[q1];rfl,fun i o ho=>by simpa using fs i o (tol ho),by simpa using t1,by rw[r1,r2];simp,fun i j r q hr hq h1 h2 hne=>?_,fun k hk=>?_,fun i o r k pt ho hr h1 hpt hne hpos=>?_,fun i r hr a ha hne hm=>?_,fun k p hp a ha hmg=>?_,fun a o r ha ho hr k p hp hpos=>?_,fun b hb a ha hm=>?_⟩
    ·have:=T_ ops.toList [] i o (tol ho) j (by simpa using hj)
     simpa using this
    ·have:=gz c1 i o (tol ho);simp only[bR]at this;have:=be.1 this e (by simpa using he)
     rw[hb]at this;simpa using this
    ·have:=gz c2 i o (tol ho);simp only[bR,h1]at this;have:=gz this j q (tol hq);simp only[bR,h2,eQ,Nat.beq_eq]at this;rcases this with h|h
     ·exact h
     ·simp at h
    ·have:=gz c3 i o (tol ho);simp only[bR]at this;have:=be.1 this t ht;have:=gz this j q (tol hq);simp only[bR,hd,eQ]at this;rcases this with h|h
     ·simp at h
     ·exact h
    ·have:=gz c4 i r hr;simp only[bR,h1,jE,jF]at this;have:=gz this j q hq;simp only[bR,h2,jE,jF,eQ,Nat.beq_eq]at this;rcases this with h|h
     ·exact absurd h hne
     ·cases hlt:Nat.blt q.pos r.pos with
      |true=>rw[hlt]at h;rw[bT]at hlt;exact .inl ⟨hlt,h⟩
      |false=>
       rw[hlt]at h;simp only[cD]at h;have hne':q.pos≠r.pos:=by
        cases hb:Nat.beq q.pos r.pos with
        |true=>rw[hb]at h;cases h
        |false=>exact nN hb
       right
       have:¬q.pos<r.pos:=fun e=>by rw[<-bT,hlt]at e;cases e
       omega
    ·obtain⟨p,hp⟩:∃p,s.pts[k]?=some p:=⟨_,aj hk⟩;have:=gz c5 k p hp;simp only[bR]at this;obtain⟨r,hr,h⟩:=List.any_eq_true.1 this;obtain⟨i,hi⟩:=dM hr;rw[ah]at h;exact⟨i,r,hi,h.1,af h.2⟩
    ·have:=gz c6 i r hr;simp only[bR,h1,jE,jF]at this;have:=gz this k pt hpt;simp only[bR,eQ,Nat.beq_eq]at this;rcases this with h|h|h
     ·exact absurd h hne
     ·exfalso
      rw[ajv hpos]at h;cases h
     ·rw[tol ho]at h;simp only at h;split at h
      ·rename_i v H1 f1 hv;rw[ah]at h;have e1:=af h.1;have e2:=SV.eqB_eq h.2;subst e1;subst e2;exact⟨H1,hv⟩
      ·cases h
    ·have:=gz c7 i r hr;simp only[bR]at this;have:=be.1 this a ha;simp only[eQ,Nat.beq_eq,hm,jE,aw,false_or]at this;rcases this with h|h
     ·exact absurd h hne
     ·exact h
    ·have:=gz c8 k p hp;have:=be.1 this a ha;simp only[eQ,wL,ah]at this;rcases this with h|⟨h1,h2⟩
     ·exact absurd h hmg
     ·refine⟨by simpa using h1,fun n x hx=>?_⟩
      have:=be.1 h2 _ (EO hx);simpa using this
    ·have h1:=gz c9 a.j r hr;simp only[bR]at h1;cases hfa:xE a.j als with
     |none=>exact absurd rfl (IG hfa a ha)
     |some a'=>
      obtain⟨q1,q2⟩:=IF hfa;have:=aok.injj a' q1 a ha q2;subst this;rw[hfa,tol ho]at h1;simp only at h1;have h2:=gz h1 k p hp;rw[bR,ajv hpos,jE,jF]at h2;split at h2
      ·rename_i v x hv;rw[ah]at h2;rw[hv,SV.eqB_eq h2.1,aoL h2.2]
      ·cases h2
    ·have:=be.1 (be.1 c10 b hb) a ha;rw[hm]at this;simpa using this
theorem awJ{P:Program}{F:gA}{ops:Array Oper}{T T':List SV}{H H':bt}{f f':Nat}(h:akv P F ops T H f=some (T',H',f')):
  ∃als s,jx P F ops T H f als (pC ops.toList []) s/\T'=s.T/\H'=iE als (fun a=> !(BX a.nm s.cur.mg))++s.cur.E/\f'=s.cur.f:=by
 unfold akv at h;split at h
 ·rename_i r hr;simp only[ad]at h;subst h;exact acj hr
 ·cases hs:Fa.sy with
  |true=>rw[hs]at h;exact acj h
  |false=>rw[hs]at h;cases h
end
end Go.Proofs.YtlchkibailfldaaGreat.Ex
