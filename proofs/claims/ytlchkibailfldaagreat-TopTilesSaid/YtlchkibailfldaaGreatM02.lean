/-
  Part 2 of the proof that TopTiles returns true at every call and leaves what it was given as it was; no condition beyond the row's own.
-/
import Derived.Maps.AppendAt
import Derived.Test.YtlchkibailfldaaGreatM01
set_option linter.unusedVariables false
set_option linter.unusedSimpArgs false
set_option linter.unusedSectionVars false
namespace Go.Proofs.YtlchkibailfldaaGreat.Ex
open Go Go.RowKit
section
variable [Sy][Fa][fN]
def iu:SC->Option (IntKind×Tm)
 | .int k x=>some (k,.lit x)
 | .sym k t=>some (k,t)
 |_=>none
theorem dE{c:SC}{k:IntKind}{t:Tm}(h:iu c=some (k,t))(U:Th):c.val U= .int k t.den:=by
 cases c<;>simp only[iu,ad,aA,reduceCtorEq]at h
 ·obtain⟨rfl,rfl⟩:=h;rfl
 ·obtain⟨rfl,rfl⟩:=h;rfl
def RK(b:Bm)(neg:Bool):Option SC:=match ask b with
 |some d=>some (.bool (bif neg then !d else d))
 |none=>some (.bq (bif neg then Rw b else b))
def V3(b:BinOp)(k:IntKind)(x y:Tm):Option SC:=match b with
 | .add=>some (.sym k (.add k x y))
 | .sub=>some (.sym k (.sub k x y))
 | .mul=>some (.sym k (.mul k x y))
 | .quo=>(match ask (.eq y (.lit 0))with|some false=>some (.sym k (.quo k x y))|_=>none)
 | .rem=>(match ask (.eq y (.lit 0))with|some false=>some (.sym k (.rem k x y))|_=>none)
 | .eql=>RK (.eq x y) false
 | .neq=>RK (.eq x y) true
 | .lss=>RK (.lt x y) false
 | .leq=>RK (.le x y) false
 | .gtr=>RK (.lt y x) false
 | .geq=>RK (.le y x) false
 |_=>none
def ao7(b:BinOp)(x y:Option SV):Option SV:=match x,y with
 |some (.r (.one a)),some (.r (.one c))=>match iu a with
  |some (k,s)=>match iu c with
   |some (k',t)=>match decide (k=k')with
    |true=>match V3 b k s t with
     |some r=>some (.c r)
     |none=>none
    |false=>none
   |none=>none
  |none=>none
 |_,_=>none
def rA(n:Nat):List Nat->Bool
 | []=>false
 |m::r=>Nat.beq m n||rA n r
theorem Ov{n:Nat}:∀ {l:List Nat},rA n l=true->n∈l
 | [],h=>by cases h
 |m::r,h=>by
  simp only[rA,eQ]at h;rcases h with h|h
  ·rw[af h];exact bN ..
  ·exact aU _ (Ov h)
def ao6(P:Program)(ts:List TypeId)(xs:List (Option SV)):Option SV:=match ts,xs with
 | [t],[some (.r (.one (.opq i)))]=>match P.underlying t with
  |some (.slice _)=>bif rA i Fa.S then some (.c (.sym .i64 (.len i)))else none
  |_=>none
 |_,_=>none
def ayX(b:Builtin)(xs:List (Option SV)):Option SV:=match xs with
 | [some (.r (.one x)),some (.r (.one y))]=>match iu x with
  |some (k,s)=>match iu y with
   |some (_,t)=>match b with
    | .min=>some (.c (.sym k (.mn s t)))
    | .max=>some (.c (.sym k (.mx s t)))
    |_=>none
   |none=>none
  |none=>none
 |_=>none
def X9(p:Nat):List (Nat×List SC)->Option (List SC)
 | []=>none
 |(q,cs)::r=>bif Nat.beq q p then some cs else X9 p r
theorem PM{p:Nat}{cs:List SC}:∀ {l:List (Nat×List SC)},X9 p l=some cs->(p,cs)∈l
 | [],h=>by cases h
 |(q,d)::r,h=>by
  simp only[X9]at h;cases hc:Nat.beq q p with
  |true=>rw[hc]at h;simp only[aP,ad]at h;subst h;rw[af hc];exact bN ..
  |false=>rw[hc]at h;exact aU _ (PM h)
def X_(i k:Nat)(t:Tm):List (Nat×Nat×Tm×Nat)->Option Nat
 | []=>none
 |(j,l,u,p)::r=>bif Nat.beq j i&&(Nat.beq l k&&Tm.eqB u t)then some p else X_ i k t r
theorem PN{i k:Nat}{t:Tm}{p:Nat}:∀ {l:List (Nat×Nat×Tm×Nat)},X_ i k t l=some p->(i,k,t,p)∈l
 | [],h=>by cases h
 |(j,l,u,q)::r,h=>by
  simp only[X_]at h;cases hc:(Nat.beq j i&&(Nat.beq l k&&Tm.eqB u t))with
  |true=>rw[hc]at h;simp only[aP,ad]at h;subst h;simp only[ah]at hc;rw[af hc.1,af hc.2.1,Tm.eqB_eq hc.2.2];exact bN ..
  |false=>rw[hc]at h;exact aU _ (PN h)
def WV(P:Program)(t:TypeId)(x:Option SV):Option SV:=match x with
 |some (.r (.one (.optr p o)))=>match X9 p Fa.LD with
  |some cs=>match pf P t with
   |some (s,true)=>match nT s (cs.drop o)with
    |some l=>bif l.all SC.flat then some (.r (.agg l))else none
    |none=>none
   |some (_,false)=>match cs.drop o with
    |c::_=>bif c.flat then some (.c c)else none
    | []=>none
   |none=>none
  |none=>none
 |_=>none
def Ol(P:Program)(t:TypeId)(x ix:Option SV):Option SV:=match P.underlying t with
 |some (.slice elem)=>match x with
  |some (.r (.one (.opq i)))=>match ix with
   |some (.r (.one c))=>match iu c with
    |some (_,u)=>match P.info? elem with
     |some e=>match X_ i e.size u Fa.IX with
      |some p=>match ask (.le (.lit 0) u)with
       |some true=>match ask (.lt u (.len i))with
        |some true=>some (.c (.optr p 0))
        |_=>none
       |_=>none
      |none=>none
     |none=>none
    |none=>none
   |_=>none
  |_=>none
 |_=>none
def Om(P:Program)(s:TypeId)(x:Option SV)(fld:Nat):Option SV:=match x with
 |some (.r (.one (.optr p off)))=>match P.underlying s with
  |some (.struct fields)=>match fields.toList[fld]? with
   |some fd=>match P.info? fd.type with
    |some i=>bif Nat.beq i.size 0 then none else some (.c (.optr p (off+fd.offset)))
    |none=>none
   |none=>none
  |_=>none
 |_=>none
def ao5(P:Program)(o:Oper)(ev:Operand->Option SV):Option SV:=match o.op with
 | .binOp b t x y t'=>ao7 b (ev x) (ev y)
 | .load t x=>WV P t (ev x)
 | .indexAddr t x ix=>Ol P t (ev x) (ev ix)
 | .fieldAddr s x fld=>Om P s (ev x) fld
 | .nilCheck x=>(match ev x with
  |some (.r (.one (.optr p o)))=>some (.c (.optr p o))
  |_=>none)
 | .unOp .neg t x=>(match ev x with
  |some (.r (.one a))=>(match iu a with
   |some (k,s)=>some (.c (.sym k (.sub k (.lit 0) s)))
   |none=>none)
  |_=>none)
 | .call c=>(match c.callee with
  | .builtin .len=>ao6 P c.argTypes.toList (c.args.toList.map ev)
  | .builtin b=>ayX b (c.args.toList.map ev)
  |_=>none)
 |_=>none
section
variable {P:Program}{o:Oper}{V:Operand->Value}{ev:Operand->Option SV}{U:Th}{H H':bt}{f f':Nat}{w:World}{v:SV}
theorem nw{b:Bm}{neg:Bool}{c:SC}(h:RK b neg=some c)(U:Th):c.val U= .bool (bif neg then !b.den else b.den)/\c.ltB f=true:=by
 unfold RK at h;split at h
 ·rename_i d hd;cases h;rw[k_ hd];exact⟨rfl,rfl⟩
 ·cases h;refine⟨?_,rfl⟩;cases neg with
  |false=>rfl
  |true=>show Value.bool (Rw b).den=_;rw[On];rfl
theorem aex{b:BinOp}{k:IntKind}{x y:Tm}{c:SC}(h:V3 b k x y=some c)(t:TypeId)(w:World)(U:Th)(f:Nat):(binOp b t (.int k x.den) (.int k y.den)).run P w= .ok (c.val U) w/\c.ltB f=true:=by
 unfold V3 at h;split at h
 ·cases h;exact⟨by simp[binOp,Op.intArith,SC.val,Tm.den,Tm.pd],rfl⟩
 ·cases h;exact⟨by simp[binOp,Op.intArith,SC.val,Tm.den,Tm.pd],rfl⟩
 ·cases h;exact⟨by simp[binOp,Op.intArith,SC.val,Tm.den,Tm.pd],rfl⟩
 ·split at h
  ·rename_i hq;have hn:¬y.den=0:=fun e=>by
    have h1:=k_ hq;rw[show(Bm.eq y (.lit 0)).den=true from decide_eq_true e]at h1
    cases h1
   cases h;refine⟨?_,rfl⟩;simp only[binOp,Op.intDiv,ak hn];simp[SC.val,Tm.den,Tm.pd]
  ·cases h
 ·split at h
  ·rename_i hq;have hn:¬y.den=0:=fun e=>by
    have h1:=k_ hq;rw[show(Bm.eq y (.lit 0)).den=true from decide_eq_true e]at h1
    cases h1
   cases h;refine⟨?_,rfl⟩;simp only[binOp,Op.intDiv,ak hn];simp[SC.val,Tm.den,Tm.pd]
  ·cases h
 ·obtain⟨h1,h2⟩:=nw (f:=f) h U;exact⟨by rw[h1];simp[binOp,Op.intCmp,Bm.den,Tm.den]<;>(rw[jy];first|(simp;done)|exact Iff.rfl|(constructor <;>intro h<;>first|exact of_decide_eq_true h|exact decide_eq_true h)),h2⟩
 ·obtain⟨h1,h2⟩:=nw (f:=f) h U;exact⟨by rw[h1];simp[binOp,Op.intCmp,Bm.den,Tm.den,bne]<;>(rw[jy];simp)<;>exact decide_eq_true_iff.symm,h2⟩
 ·obtain⟨h1,h2⟩:=nw (f:=f) h U;exact⟨by rw[h1];simp[binOp,Op.intCmp,Bm.den,Tm.den]<;>(rw[jy];first|(simp;done)|exact Iff.rfl|(constructor <;>intro h<;>first|exact of_decide_eq_true h|exact decide_eq_true h)),h2⟩
 ·obtain⟨h1,h2⟩:=nw (f:=f) h U;exact⟨by rw[h1];simp[binOp,Op.intCmp,Bm.den,Tm.den]<;>(rw[jy];first|(simp;done)|exact Iff.rfl|(constructor <;>intro h<;>first|exact of_decide_eq_true h|exact decide_eq_true h)),h2⟩
 ·obtain⟨h1,h2⟩:=nw (f:=f) h U;exact⟨by rw[h1];simp[binOp,Op.intCmp,Bm.den,Tm.den]<;>(rw[jy];first|(simp;done)|exact Iff.rfl|(constructor <;>intro h<;>first|exact of_decide_eq_true h|exact decide_eq_true h)),h2⟩
 ·obtain⟨h1,h2⟩:=nw (f:=f) h U;exact⟨by rw[h1];simp[binOp,Op.intCmp,Bm.den,Tm.den]<;>(rw[jy];first|(simp;done)|exact Iff.rfl|(constructor <;>intro h<;>first|exact of_decide_eq_true h|exact decide_eq_true h)),h2⟩
 ·cases h
theorem akq{c:SC}(h:c.flat=true)(f:Nat):c.ltB f=true:=by cases c<;>first|rfl|(cases h)
theorem afY{t:TypeId}{x:Operand}(ho:o.op= .load t x)(h:WV P t (ev x)=some v)(hm:b9 U (get H) w)(hl:ga f (get H))(ha:kA U f ev V o):bB P o V U H f w v H f:=by
 unfold WV at h;split at h
 ·rename_i p off hx;have hx:=(ha x (by simp[ho,Op.operands]) _ hx).1
  split at h
  ·rename_i cs hf;obtain⟨hb,hc⟩:=fN.hLD _ (PM hf);have cell:∀j c,cs[j]?=some c->c.flat=true->w.cell? ⟨(Sy.pt p).block,(Sy.pt p).off+j,none⟩=some (c.val U):=fun j c hj hfl=>by
    rw[aea hfl U fun _=>⟨0,0,0,xd⟩]
    exact(hm.far.bel.cell (p:=⟨(Sy.pt p).block,(Sy.pt p).off+j,none⟩) hb).trans (hc j c hj)
   split at h
   ·rename_i s hs;obtain⟨g1,g2⟩:=iQ hs w;split at h
    ·rename_i l hk;cases hall:l.all SC.flat with
     |false=>rw[hall]at h;cases h
     |true=>
      rw[hall]at h;cases h;obtain⟨hl1,hl2⟩:=g9 hk;have hcells:=run_loadCells_list (P:=P) w ⟨(Sy.pt p).block,(Sy.pt p).off+off,none⟩ (l.map (SC.val U)) (fun j u hu=>by
       rw[aM]at hu;obtain⟨c,hc',rfl⟩:=cA.1 hu;have:=md hk j c hc';rw[b_]at this;have h3:=cell (off+j) c this (be.1 hall c (bS hc'));rw[Addr.add_mid];rw[<-h3]
       congr 2
       omega)
      rw[bO,hl2]at hcells;refine bB.same hm hl ?_ (be.2 fun c hc'=>akq (be.1 hall c hc') f)
      simp[execOp,ho,hx,SV.val,SR.val,SC.val,Instr.loadAt,Instr.sureAddr,loadVar,g1,g2,hcells]
    ·cases h
   ·rename_i s hs;obtain⟨g1,g2⟩:=iQ hs w;split at h
    ·rename_i c r hd;cases hfl:c.flat with
     |false=>rw[hfl]at h;cases h
     |true=>
      rw[hfl]at h;cases h;have hc':cs[off]?=some c:=by
       have:(cs.drop off)[0]?=some c:=by rw[hd];rfl
       rwa [b_,ch]at this
      have:=cell off c hc' hfl;refine bB.same hm hl ?_ (akq hfl f);simp[execOp,ho,hx,SV.val,SR.val,SC.val,Instr.loadAt,Instr.sureAddr,loadVar,g1,this]
    ·cases h
   ·cases h
  ·cases h
 ·cases h
theorem aa5{t:TypeId}{x ix:Operand}(ho:o.op= .indexAddr t x ix)(h:Ol P t (ev x) (ev ix)=some v)(hm:b9 U (get H) w)(hl:ga f (get H))(ha:kA U f ev V o):bB P o V U H f w v H f:=by
 unfold Ol at h;split at h
 ·rename_i elem hu;split at h
  ·rename_i i hx;have hx:=(ha x (by simp[ho,Op.operands]) _ hx).1
   split at h
   ·rename_i c hi;have hi:=(ha ix (by simp[ho,Op.operands]) _ hi).1
    split at h
    ·rename_i k u hn;split at h
     ·rename_i e he;split at h
      ·rename_i p hf;split at h
       ·rename_i q1;split at h
        ·rename_i q2;cases h;obtain⟨A,m,k2,hv,hA,hp⟩:=fN.hIX _ (PN hf);simp only at hp;have ex:V x= .slice (some A) m k2:=hx.trans hv;have ei:V ix= .int k u.den:=hi.trans (dE hn U);have z1:(0:Int)<=u.den:=of_decide_eq_true (k_ q1);have z2:u.den<(m:Int):=by
          have h3:u.den<(Tm.len i).den:=of_decide_eq_true (k_ q2);have h4:(Tm.len i).den=(m:Int):=by show((lenOf (Sy.v i).1:Nat):Int)=_;rw[hv];rfl
          rwa [h4]at h3
         obtain⟨b,of,sp⟩:=A;simp only at hA hp;subst hA;refine bB.same hm hl ?_ rfl;simp[execOp,ho,ex,ei,SV.val,SR.val,SC.val,Instr.indexAt,asIntOf,run_underlying hu,z1,z2,sizeOf,typeInfo,he,hp,Addr.add_mid]
        ·cases h
       ·cases h
      ·cases h
     ·cases h
    ·cases h
   ·cases h
  ·cases h
 ·cases h
theorem aa6{s:TypeId}{x:Operand}{fld:Nat}(ho:o.op= .fieldAddr s x fld)(h:Om P s (ev x) fld=some v)(hm:b9 U (get H) w)(hl:ga f (get H))(ha:kA U f ev V o):bB P o V U H f w v H f:=by
 unfold Om at h;split at h
 ·rename_i n off hx;split at h
  ·rename_i fields hu;split at h
   ·rename_i fd hf;split at h
    ·rename_i i hi;cases hz:Nat.beq i.size 0 with
     |true=>rw[hz]at h;cases h
     |false=>
      rw[hz]at h;simp only[cD,ad]at h;subst h;have hx:=ha x (by simp[ho,Op.operands]) _ hx
      have hz':¬i.size=0:=fun e=>by rw[e]at hz;cases hz
      rw[b8]at hf;refine bB.same hm hl ?_ rfl;simp[execOp,ho,hx.1,SV.val,SR.val,SC.val,Instr.fieldAt,run_underlying hu,hf,Instr.sureAddr,fieldPlace,sizeOf,typeInfo,hi,hz',Addr.add_mid,cT]
    ·cases h
   ·cases h
  ·cases h
 ·cases h
theorem ao4(h:ao5 P o ev=some v)(hm:b9 U (get H) w)(hl:ga f (get H))(ha:kA U f ev V o):bB P o V U H f w v H f:=by
 unfold ao5 at h;split at h
 ·rename_i b t x y t' ho;have hexec:execOp V o=(do pure (.value (<- (do eqGuard b t x y (V x) (V y);binOp b t (V x) (V y):Sem Value))):Sem Next):=by
   unfold execOp;rw[ho]
  unfold ao7 at h;split at h
  ·rename_i a c hx hy;have hx:=(ha x (by simp[ho,Op.operands]) _ hx).1
   have hy:=(ha y (by simp[ho,Op.operands]) _ hy).1
   split at h
   ·rename_i k s hs;split at h
    ·rename_i k' u hu;split at h
     ·rename_i hk;have hk:=of_decide_eq_true hk;subst hk;split at h
      ·rename_i r hr;cases h;obtain⟨h1,h2⟩:=aex hr t w U f;have ex:V x= .int k s.den:=hx.trans (dE hs U);have ey:V y= .int k u.den:=hy.trans (dE hu U);refine bB.same hm hl ?_ h2;rw[hexec,ex,ey,show eqGuard b t x y (.int k s.den) (.int k u.den)=pure ()by cases b<;>rfl]
       simp only[Sem.run_bind,Sem.run_pure,Result.andThen_ok];rw[h1];rfl
      ·cases h
     ·cases h
    ·cases h
   ·cases h
  ·cases h
 ·rename_i t x ho;exact afY ho h hm hl ha
 ·rename_i t x ix ho;exact aa5 ho h hm hl ha
 ·rename_i s x fld ho;exact aa6 ho h hm hl ha
 ·rename_i x ho;split at h
  ·rename_i p off hx;cases h;have hx:=ha x (by simp[ho,Op.operands]) _ hx
   refine bB.same hm hl ?_ hx.2;simp[execOp,ho,hx.1,SV.val,SR.val,SC.val]
  ·cases h
 ·rename_i t x ho;split at h
  ·rename_i a hx;have hx:=(ha x (by simp[ho,Op.operands]) _ hx).1
   split at h
   ·rename_i k s hs;cases h;have ex:V x= .int k s.den:=hx.trans (dE hs U);refine bB.same hm hl ?_ rfl;simp[execOp,ho,ex,Op.unary,Op.intArith,SV.val,SR.val,SC.val,Tm.den,Tm.pd]
   ·cases h
  ·cases h
 ·rename_i c ho;split at h
  ·rename_i hc;obtain⟨cs,he⟩:=fO (V:=V) ho hc;unfold ao6 at h;split at h
   ·rename_i t i hts hxs;split at h
    ·rename_i e hu;cases hmem:rA i Fa.S with
     |false=>rw[hmem]at h;cases h
     |true=>
      rw[hmem]at h;cases h;obtain⟨x,hx1,hx2⟩:∃x,c.args.toList=[x]/\ev x=some (.c (.opq i)):=by
       cases hq:c.args.toList with
       |nil=>rw[hq]at hxs;simp at hxs
       |cons x r=>rw[hq]at hxs;cases r<;>simp at hxs;exact⟨x,rfl,hxs⟩
      have hx:=ha x (by have:x∈c.args:=(by rw[<-gt,hx1];simp);simp[ho,Op.operands,Call.operands,this]) _ hx2
      have hta:c.argTypes= #[t]:=by apply Array.ext';exact hts
      obtain⟨a,m,k,hv⟩:=fN.hS i (Ov hmem);have hx1':V x= .slice a m k:=hx.1.trans hv;have hlen:(Tm.len i).den=(m:Int):=by show((lenOf (Sy.v i).1:Nat):Int)=_;rw[hv];rfl
      refine bB.same hm hl ?_ rfl;rw[he,hx1,hta]
      show _=Result.ok (Next.value (.int .i64 (Tm.len i).den)) w
      rw[hlen];simp[builtin,Builtin.len_,run_underlying hu,hx1',goInt]
    ·cases h
   ·cases h
  ·rename_i b _ hc;obtain⟨cs,he⟩:=fO (V:=V) ho hc;unfold ayX at h;split at h
   ·rename_i a1 a2 hxs;obtain⟨x,y,hx1,hx2,hy2⟩:∃x y,c.args.toList=[x,y]/\ev x=some (.r (.one a1))/\ev y=some (.r (.one a2)):=by
     cases hq:c.args.toList with
     |nil=>rw[hq]at hxs;simp at hxs
     |cons x r=>
      rw[hq]at hxs;cases r with
      |nil=>simp at hxs
      |cons y r=>cases r<;>simp at hxs;exact⟨x,y,rfl,hxs⟩
    have hin:∀z∈[x,y],z∈o.op.operands:=fun z hz=>by
     have:z∈c.args:=by rw[<-gt,hx1];exact hz
     simp[ho,Op.operands,Call.operands,this]
    have hx:=(ha x (hin x (by simp)) _ hx2).1
    have hy:=(ha y (hin y (by simp)) _ hy2).1
    split at h
    ·rename_i k s hs;split at h
     ·rename_i k2 t ht;have ex:V x= .int k s.den:=hx.trans (dE hs U);have ey:V y= .int k2 t.den:=hy.trans (dE ht U);split at h
      ·cases h;refine bB.same hm hl ?_ rfl;rw[he,hx1]
       show(builtin .min c.argTypes o.type cs #[V x,V y]).run P w=_
       rw[ex,ey];simp[builtin,Builtin.min_,Builtin.min2,SV.val,SR.val,SC.val,Tm.den,Tm.pd]
      ·cases h;refine bB.same hm hl ?_ rfl;rw[he,hx1]
       show(builtin .max c.argTypes o.type cs #[V x,V y]).run P w=_
       rw[ex,ey];simp[builtin,Builtin.max_,Builtin.max2,SV.val,SR.val,SC.val,Tm.den,Tm.pd]
      ·cases h
     ·cases h
    ·cases h
   ·cases h
  ·cases h
 ·cases h
end
end
section
variable [Sy][Fa][fN]
mutual
def Ty.eqB:Ty->Ty->Bool
 | .int k,.int k'=>decide (k=k')
 | .bool,.bool=>true
 | .lst a,.lst b=>Ty.eqAll a b
 |_,_=>false
def Ty.eqAll:List Ty->List Ty->Bool
 | [],[]=>true
 |a::r,b::s=>Ty.eqB a b&&Ty.eqAll r s
 |_,_=>false
end
mutual
theorem Ty.eqB_eq:∀ (a b:Ty),Ty.eqB a b=true->a=b
 | .int k,b,h=>by cases b<;>simp only[Ty.eqB,decide_eq_true_eq,aw]at h;rw[h]
 | .bool,b,h=>by cases b<;>simp only[Ty.eqB,aw]at h;rfl
 | .lst l,b,h=>by cases b<;>simp only[Ty.eqB,aw]at h;rw[Ty.eqAll_eq _ _ h]
theorem Ty.eqAll_eq:∀ (a b:List Ty),Ty.eqAll a b=true->a=b
 | [],b,h=>by cases b<;>simp only[Ty.eqAll,aw]at h;rfl
 |a::r,b,h=>by
  cases b with
  |nil=>simp only[Ty.eqAll,aw]at h
  |cons b s=>simp only[Ty.eqAll,ah]at h;rw[Ty.eqB_eq _ _ h.1,Ty.eqAll_eq _ _ h.2]
end
def Hz(b:Bm):Bool:=match ask b with
 |some true=>true
 |_=>false
theorem JJ{b:Bm}(h:Hz b=true):b.den=true:=by
 unfold Hz at h;split at h
 ·rename_i hq;exact k_ hq
 ·cases h
def nn:Tm->Bool
 | .ln _ _=>true
 | .lit x=>decide (0<=x)
 |t=>Hz (.le (.lit 0) t)
theorem lj{t:Tm}(h:nn t=true):0<=t.den:=by
 cases t with
 |ln a es=>exact js _
 |lit x=>exact of_decide_eq_true h
 |_=>exact of_decide_eq_true (p:=_) (JJ h)
theorem jY{t:Tm}(h:0<=t.den):(t.nat:Int)=t.den:=Int.toNat_of_nonneg h
def oX(a b:Tm):Bool:=Tm.eqB a b||((match a with| .lit x=>decide (x<=0)&&nn b|_=>false)||Hz (.le a b))
theorem gj{a b:Tm}(h:oX a b=true):a.den<=b.den:=by
 unfold oX at h;rcases dY.1 h with h|h
 ·rw[Tm.eqB_eq h];exact Int.le_refl _
 rcases dY.1 h with h|h
 ·split at h
  ·obtain⟨h1,h2⟩:=Bool.and_eq_true_iff.1 h;exact Int.le_trans (of_decide_eq_true h1) (lj h2)
  ·cases h
 ·exact of_decide_eq_true (JJ h)
theorem B8{a b:Tm}(h:Hz (.lt a b)=true):a.den<b.den:=of_decide_eq_true (JJ h)
theorem Gx(L:Tm)(es:Nat):(Tm.ln L es).den=((L.pd.q.length/es:Nat):Int):=rfl
def B_(L:Tm)(es:Nat):Tm:=match L with
 | .set a _ _ _ _=>B_ a es
 | .setD a _ _ _ _=>B_ a es
 | .spl a _ _=>B_ a es
 |a=> .ln a es
theorem oh(es:Nat):∀L:Tm,(B_ L es).den=((L.pd.q.length/es:Nat):Int):=by
 intro L
 induction L with
 |set a t m j x iha _ _=>
  show(B_ a es).den=_
  rw[iha]
  show _=(((a.pd.q.set _ _).length/es:Nat):Int)
  rw[dJ]
 |setD a t m j x iha _ _=>
  show(B_ a es).den=_
  rw[iha]
  show _=(((a.pd.q.set _ _).length/es:Nat):Int)
  rw[dJ]
 |spl a t b iha _ _=>
  show(B_ a es).den=_
  rw[iha]
  show _=((((a.pd.q.take _++b.pd.q++a.pd.q.drop _).take _).length/es:Nat):Int)
  have:((a.pd.q.take t.pd.n.toNat++b.pd.q++a.pd.q.drop (t.pd.n.toNat+b.pd.q.length)).take a.pd.q.length).length=a.pd.q.length:=by simp only[ba,bu,cJ];omega
  rw[this]
 |_=>rfl
theorem aJN{L:Tm}{es:Nat}:0<=(B_ L es).den:=by rw[oh];exact js _
theorem qX.len{w:World}{z:Nat->Prop}{tys:List Ty}{x:VT}{d:PD}(h:qX w z (.lst tys) x d)(hp:0<tys.length):∃a n c,x.v= .slice a n c/\d.q.length=n*tys.length/\x.sub.length=d.q.length/\n<=c/\(a=none->n=0/\c=0)/\d.q.length/tys.length=n:=by
 cases h with
 |nil=>exact⟨none,0,0,rfl,by simp[PD.q],by simp[PD.q,VT.sub],bD _,fun _=>⟨rfl,rfl⟩,by simp[PD.q]⟩
 |lst _ a n c us xs h1 h2 h3 h4 h5 h6=>exact⟨some a,n,c,rfl,by rw[PD.q,h2,h1],by rw[PD.q,VT.sub,h2],h3,fun e=>(by cases e),by rw[PD.q,h2,h1];exact dQ _ hp⟩
theorem qX.cell{w:World}{z:Nat->Prop}{tys:List Ty}{x:VT}{d:PD}(h:qX w z (.lst tys) x d){t j:Nat}(ht:t<d.q.length/tys.length){ty:Ty}(hj:tys[j]?=some ty):
  ∃a n c,x.v= .slice (some a) n c/\a.spot=none/\t<n/\z a.block/\w.cell? ⟨a.block,a.off+(t*tys.length+j),none⟩=some (x.sub.getD (t*tys.length+j) .no).v/\qX w z ty (x.sub.getD (t*tys.length+j) .no) (d.q.getD (t*tys.length+j) (.i 0)):=by
 have hjl:j<tys.length:=(av.1 hj).1;cases h with
 |nil=>simp[PD.q]at ht
 |lst _ a n c us xs h1 h2 h3 h4 h5 h6=>
  rw[PD.q,h2,h1,dQ _ (by omega)]at ht
  have hlt:t*tys.length+j<us.length:=by rw[h1];have:(t+1)*tys.length<=n*tys.length:=bM _ ht;rw[co,dd]at this;omega
  refine⟨a,n,c,rfl,h4,ht,(h5 _ hlt).1,(h5 _ hlt).2,h6 _ _ hlt ?_⟩;rw[bU,gE,kq hjl];exact hj
theorem ky{a:Addr}(h:a.spot=none):a=⟨a.block,a.off,none⟩:=by cases a;simp at h;simp[h]
theorem qX.cut{w:World}{z:Nat->Prop}{tys:List Ty}{x:VT}{d:PD}(h:qX w z (.lst tys) x d){lo hi:Nat}(h0:lo<=hi)(h1:hi<=d.q.length/tys.length)(hp:0<tys.length):
  qX w z (.lst tys) (.mk (fA x.v lo hi tys.length) ((x.sub.take (hi*tys.length)).drop (lo*tys.length))) (.l ((d.q.take (hi*tys.length)).drop (lo*tys.length))):=by
 cases h with
 |nil=>
  simp only[PD.q,dr,Nat.zero_div]at h1;have e1:hi=0:=by omega
  have e2:lo=0:=by omega
  subst e1;subst e2;have:fA (VT.mk (Value.slice none 0 0) []).v 0 0 tys.length= .slice none 0 0:=by simp[fA,VT.v]
  rw[this];simp[VT.sub,PD.q];exact .nil tys
 |lst _ a n c us xs g1 g2 g3 g4 g5 g6=>
  simp only[PD.q]at h1;rw[g2,g1,dQ _ hp]at h1;have hm1:lo*tys.length<=hi*tys.length:=bM _ h0;have hm2:hi*tys.length<=n*tys.length:=bM _ h1;have hsub:(hi-lo)*tys.length=hi*tys.length-lo*tys.length:=Nat.sub_mul _ _ _;have hlen:((us.take (hi*tys.length)).drop (lo*tys.length)).length=(hi-lo)*tys.length:=by rw[cJ,bu,g1,fQ hm2,hsub]
  have hget:∀ (α:Type) (l:List α) (dflt:α) (j:Nat),j<(hi-lo)*tys.length->((l.take (hi*tys.length)).drop (lo*tys.length)).getD j dflt=l.getD (lo*tys.length+j) dflt:=fun α l dflt j hj=>by
   rw[ae,ae,b_,bX,ab (by omega)]
  have hcv:fA (VT.mk (Value.slice (some a) n c) us).v lo hi tys.length= .slice (some (if c=lo then a else a.add (lo*tys.length))) (hi-lo) (c-lo):=by simp only[fA,VT.v];split <;>simp
  rw[hcv]
  show qX w z (.lst tys) (.mk _ ((us.take (hi*tys.length)).drop (lo*tys.length))) (.l ((xs.take (hi*tys.length)).drop (lo*tys.length)))
  refine .lst tys _ _ _ _ _ hlen (by rw[hlen,cJ,bu,g2,g1,fQ hm2,hsub]) (by omega) ?_ ?_ ?_
  ·split
   ·exact g4
   ·rw[ky g4,Addr.add_mid]
  ·intro j hj;rw[hlen]at hj;have hcl:c≠lo:=fun e=>by
    have:hi-lo=0:=by omega
    rw[this]at hj;omega
   rw[ak hcl];have hj2:lo*tys.length+j<us.length:=by rw[g1];omega
   obtain⟨k1,k2⟩:=g5 _ hj2;have ea:a.add (lo*tys.length)=⟨a.block,a.off+lo*tys.length,none⟩:=by have:=Addr.add_mid (b:=a.block) (o:=a.off) (j:=lo*tys.length);rw[<-ky g4]at this;exact this
   rw[ea]
   show z a.block/\_
   refine⟨k1,?_⟩
   show w.cell? ⟨a.block,a.off+lo*tys.length+j,none⟩=_
   rw[show a.off+lo*tys.length+j=a.off+(lo*tys.length+j)by omega,k2]
   rw[hget VT us VT.no j hj]
  ·intro j t hj ht;rw[hlen]at hj;have hj2:lo*tys.length+j<us.length:=by rw[g1];omega
   have:=g6 (lo*tys.length+j) t hj2 (by rw[bU,gE];exact ht)
   rw[hget VT us VT.no j hj,hget PD xs (PD.i 0) j hj];exact this
def Of(tys:List Ty)(L:Tm):Pa->Option (List Ty×Tm)
 | .root=>some (tys,L)
 | .el p t es j=>match Of tys L p with
  |some (ts,M)=>bif Nat.beq ts.length es&&(nn t&&Hz (.lt t (.ln M es)))then(match ts[j]? with
   |some (.lst us)=>some (us,.el M t es j)
   |_=>none)else none
  |none=>none
 | .cut p lo hi es=>match Of tys L p with
  |some (ts,M)=>bif Nat.beq ts.length es&&(Nat.blt 0 es&&(nn lo&&(oX lo hi&&oX hi (.ln M es))))then some (ts,.cut M lo hi es)else none
  |none=>none
theorem aqC{t M:Tm}{es:Nat}(h0:nn t=true)(h:Hz (.lt t (.ln M es))=true):t.nat<M.pd.q.length/es:=by have h1:=lj h0;have h2:=B8 h;rw[Gx]at h2;have:=jY h1;omega
theorem amD{w:World}{z:Nat->Prop}{tys:List Ty}{x:VT}{L:Tm}(hr:qX w z (.lst tys) x L.pd):∀ (p:Pa) (ts:List Ty) (M:Tm),Of tys L p=some (ts,M)->qX w z (.lst ts) (p.vt x) M.pd:=by
 intro p
 induction p with
 |root=>intro ts M h;simp only[Of,ad,aA]at h;obtain⟨rfl,rfl⟩:=h;exact hr
 |el p t es j ih=>
  intro ts M h;simp only[Of]at h;split at h
  ·rename_i us N hp;cases hc:(Nat.beq us.length es&&(nn t&&Hz (.lt t (.ln N es))))with
   |false=>rw[hc]at h;cases h
   |true=>
    rw[hc]at h;simp only[aP]at h;simp only[ah]at hc;obtain⟨c1,c2,c3⟩:=hc;have c1:=af c1;subst c1;split at h
    ·rename_i vs hj;simp only[ad,aA]at h;obtain⟨rfl,rfl⟩:=h;obtain⟨a,n,c,_,_,_,_,_,hrep⟩:=(ih us N hp).cell (aqC c2 c3) hj;exact hrep
    ·cases h
  ·cases h
 |cut p lo hi es ih=>
  intro ts M h;simp only[Of]at h;split at h
  ·rename_i us N hp;cases hc:(Nat.beq us.length es&&(Nat.blt 0 es&&(nn lo&&(oX lo hi&&oX hi (.ln N es)))))with
   |false=>rw[hc]at h;cases h
   |true=>
    rw[hc]at h;simp only[aP,ad,aA]at h;obtain⟨rfl,rfl⟩:=h;simp only[ah]at hc;obtain⟨c1,c2,c3,c4,c5⟩:=hc;have c1:=af c1;subst c1;rw[bT]at c2;have e1:=lj c3;have e2:=gj c4;have e3:=gj c5;rw[Gx]at e3;have n1:=jY e1;have n2:=jY (show 0<=hi.den by omega)
    exact(ih us N hp).cut (by omega) (by omega) c2
  ·cases h
def ahs:Bm->Tm
 | .lt a b=> .ind a b 0
 | .le a b=> .ind a b 1
 | .eq a b=> .ind a b 2
 | .tru a=> .ind a (.lit 0) 3
theorem xX(b:Bm):(ahs b).den=if b.den=true then 1 else 0:=by
 cases b with
 |lt a b=>show(if a.den<b.den then(1:Int)else 0)=_;simp[Bm.den]
 |le a b=>show(if a.den<=b.den then(1:Int)else 0)=_;simp[Bm.den]
 |eq a b=>show(if a.den=b.den then(1:Int)else 0)=_;simp[Bm.den]
 |tru a=>show(if a.den=0 then(0:Int)else 1)=_;by_cases h:a.den=0<;>simp[Bm.den,h]
def D':SC->Option (Ty×Tm)
 | .int k x=>some (.int k,.lit x)
 | .sym k t=>some (.int k,t)
 | .bool b=>some (.bool,.lit (bif b then 1 else 0))
 | .bq b=>some (.bool,ahs b)
 |_=>none
theorem wJ{c:SC}{ty:Ty}{t:Tm}(h:D' c=some (ty,t))(U:Th):nU ty (.i t.pd.n)=some (c.val U):=by
 cases c<;>simp only[D',ad,aA,reduceCtorEq]at h
 ·obtain⟨rfl,rfl⟩:=h;rfl
 ·rename_i b;obtain⟨rfl,rfl⟩:=h;cases b<;>rfl
 ·obtain⟨rfl,rfl⟩:=h;rfl
 ·rename_i b;obtain⟨rfl,rfl⟩:=h;have:=xX b
  show some (Value.bool (decide ((ahs b).den≠0)))=some (Value.bool b.den)
  rw[this];cases b.den<;>rfl
def nh:List SC->Tm->Option (List Ty×Tm)
 | [],L=>some ([],L)
 |c::r,L=>match D' c with
  |some (ty,t)=>match nh r (.snoc L t)with
   |some (tys,M)=>some (ty::tys,M)
   |none=>none
  |none=>none
theorem kI:∀ {cs:List SC} {L:Tm} {tys:List Ty} {M:Tm},nh cs L=some (tys,M)->∀U:Th,tys.length=cs.length/\∃ds:List PD,M.pd.q=L.pd.q++ds/\ds.length=cs.length/\∀j c,cs[j]?=some c->∃ty,tys[j]?=some ty/\nU ty (ds.getD j (.i 0))=some (c.val U)
 | [],L,tys,M,h,U=>by
  simp only[nh,ad,aA]at h;obtain⟨rfl,rfl⟩:=h;exact⟨rfl,[],by simp,rfl,fun j c hj=>by simp at hj⟩
 |c::r,L,tys,M,h,U=>by
  simp only[nh]at h;split at h
  ·rename_i ty t hc;split at h
   ·rename_i ts N hr;simp only[ad,aA]at h;obtain⟨rfl,rfl⟩:=h;obtain⟨h1,ds,h2,h3,h4⟩:=kI hr U;refine⟨by simp[h1],.i t.pd.n::ds,?_,by simp[h3],fun j c' hj=>?_⟩
    ·rw[h2]
     show(L.pd.q++[PD.i t.pd.n])++ds=_
     rw[dg];rfl
    ·cases j with
     |zero=>simp only[bn,ad]at hj;subst hj;exact⟨ty,rfl,wJ hc U⟩
     |succ j=>rw[bk]at hj;obtain⟨ty',e1,e2⟩:=h4 j c' hj;exact⟨ty',by rw[bk];exact e1,by rw[iM];exact e2⟩
   ·cases h
  ·cases h
def per(es:Nat)(ks:List Ty):Nat->List Ty->Bool
 |_,[]=>true
 |i,t::r=>(match ks[i%es]? with
  |some k=>Ty.eqB k t
  |none=>false)&&per es ks (i+1) r
theorem Od{es:Nat}{ks:List Ty}:∀ {l:List Ty} {i:Nat},per es ks i l=true->∀j t,l[j]?=some t->ks[(i+j)%es]?=some t
 | [],i,_,j,t,hj=>by simp at hj
 |u::r,i,h,j,t,hj=>by
  simp only[per,ah]at h;cases j with
  |zero=>
   simp only[bn,ad]at hj;subst hj;have h1:=h.1;split at h1
   ·rename_i k hk;rw[ch,hk,Ty.eqB_eq _ _ h1]
   ·cases h1
  |succ j=>
   rw[bk]at hj;have:=Od h.2 j t hj
   rwa [show i+1+j=i+(j+1)by omega]at this
def gh(es:Nat):SB->Option (Bool×TypeId×List Ty×Tm×RZ)
 | .row kc es' e ks L z=>bif Nat.beq es' es then some (kc,e,ks,L,z)else none
 | .cells es' e cs=>match nh cs .nil with
  |some (tys,L)=>bif Nat.blt 0 es&&(Nat.beq (cs.length%es) 0&&(per es (tys.take es) 0 tys&&(Nat.beq es' 0||Nat.beq es' es)))then some (!(Nat.beq es' 0),e,tys.take es,L,.no)else none
  |none=>none
 |_=>none
section
variable {P:Program}{o:Oper}{V:Operand->Value}{ev:Operand->Option SV}{U:Th}{H H':bt}{f f':Nat}{w:World}{v:SV}
theorem yk{n es:Nat}{x:SB}{kc:Bool}{e:TypeId}{ks:List Ty}{L:Tm}{z:RZ}(h:ek U w n x)(hv:gh es x=some (kc,e,ks,L,z)):ek U w n (.row kc es e ks L z)/\(gG U n x↔(U n).x.nl=false)/\∀b,cu U z b↔Zb U n x b:=by
 cases x with
 |row kc' es' e' ks' L' z'=>
  simp only[gh]at hv;cases hc:Nat.beq es' es with
  |false=>rw[hc]at hv;cases hv
  |true=>rw[hc]at hv;simp only[aP,ad,aA]at hv;obtain⟨rfl,rfl,rfl,rfl,rfl⟩:=hv;have:=af hc;subst this;exact⟨h,Iff.rfl,fun b=>Iff.rfl⟩
 |cells es' e' cs=>
  simp only[gh]at hv;split at hv
  ·rename_i tys M hn;cases hc:(Nat.blt 0 es&&(Nat.beq (cs.length%es) 0&&(per es (tys.take es) 0 tys&&(Nat.beq es' 0||Nat.beq es' es))))with
   |false=>rw[hc]at hv;cases hv
   |true=>
    rw[hc]at hv;simp only[aP,ad,aA]at hv;obtain⟨rfl,rfl,rfl,rfl,rfl⟩:=hv;simp only[ah]at hc;obtain⟨c1,c2,c3,c4⟩:=hc;rw[bT]at c1;have c2:=af c2;obtain⟨s1,ds,s2,s3,s4⟩:=kI hn U;have s2:M.pd.q=ds:=by rw[s2];rfl
    obtain⟨h0,arr,h1,h2,h3⟩:=h;refine⟨⟨.inr ⟨h0,arr,h1,fun j hj=>?_,fun hk=>?_⟩,ZOk.no⟩,⟨fun _=>h0,fun _=>trivial⟩,fun b=>Iff.rfl⟩
    ·rw[s2,s3]at hj;obtain⟨ty,e1,e2⟩:=s4 j _ (aj hj);have:=Od c3 j ty e1;rw[bR]at this;exact⟨ty,_,this,by rw[s2];exact .of e2,h2 j _ (aj hj)⟩
    ·rcases dY.1 c4 with c4|c4
     ·rw[c4]at hk;cases hk
     ·have c4:=af c4;subst c4;rcases h3 with h3|⟨h3,h4,h5⟩
      ·omega
      ·have hd:cs.length/es'*es'=cs.length:=by have:=eP cs.length es';rw[c2,ch,bU]at this;exact this
       refine⟨h3,h4,h5,cs.length/es',by rw[s2,s3,hd],?_⟩
       rcases dR cs.length with h0'|hp
       ·rw[h0'];simp
       ·have:=h2 (cs.length-1) _ (aj (by omega))
        obtain⟨h6,_⟩:=cP.1 this;have:cs.length/es'*es'<=(U n).cap*es':=by rw[hd];omega
        exact Nat.le_of_mul_le_mul_right this c1
  ·cases hv
 |_=>simp[gh]at hv
theorem JL{es f:Nat}{x:SB}{kc:Bool}{e:TypeId}{ks:List Ty}{L:Tm}{z:RZ}(hv:gh es x=some (kc,e,ks,L,z))(hx:x.ltB f=true):z.ltB f=true:=by
 cases x with
 |row kc' es' e' ks' L' z'=>
  simp only[gh]at hv;cases hc:Nat.beq es' es with
  |false=>rw[hc]at hv;cases hv
  |true=>rw[hc]at hv;simp only[aP,ad,aA]at hv;obtain⟨rfl,rfl,rfl,rfl,rfl⟩:=hv;exact hx
 |cells es' e' cs=>
  simp only[gh]at hv;split at hv
  ·rename_i tys M hn;cases hc:(Nat.blt 0 es&&(Nat.beq (cs.length%es) 0&&(per es (tys.take es) 0 tys&&(Nat.beq es' 0||Nat.beq es' es))))with
   |false=>rw[hc]at hv;cases hv
   |true=>rw[hc]at hv;simp only[aP,ad,aA]at hv;obtain⟨rfl,rfl,rfl,rfl,rfl⟩:=hv;rfl
  ·cases hv
 |_=>simp[gh]at hv
theorem rY{n es:Nat}{kc:Bool}{e:TypeId}{ks:List Ty}{L:Tm}{z:RZ}(h:ek U w n (.row kc es e ks L z)){j:Nat}(hj:j<L.pd.q.length):(U n).x.nl=false/\∃t u,ks[j%es]?=some t/\gV w (cu U z) t (L.pd.q.getD j (.i 0)) u/\w.cell? ⟨(U n).b,(U n).sh+j,none⟩=some u:=by
 rcases h.1 with⟨_,h2,_⟩|⟨h1,arr,h2,h3,_⟩
 ·rw[h2]at hj;simp at hj
 ·obtain⟨t,u,e1,e2,e3⟩:=h3 j hj;refine⟨h1,t,u,e1,e2,?_⟩;unfold World.cell?;rw[h2];exact e3
theorem aFh{t:Ty}{d:PD}{u:Value}(h:nU t d=some u):u.oneCell'=true:=by unfold nU at h;split at h<;>first|(cases h;done)|(simp only[ad]at h;subst h;rfl)
theorem JZ{n es:Nat}{e:TypeId}{ks:List Ty}{L:Tm}{z:RZ}(h:ek U w n (.row true es e ks L z))(hes:0<es):∃m,L.pd.q.length=m*es/\L.pd.q.length/es=m:=by
 rcases h.1 with⟨_,h2,_⟩|⟨h1,arr,h2,h3,h4⟩
 ·exact⟨0,by rw[h2];simp,by rw[h2];simp⟩
 ·obtain⟨_,_,_,m,h5,_⟩:=h4 rfl;exact⟨m,h5,by rw[h5];exact dQ _ hes⟩
theorem ZS{n es:Nat}{e:TypeId}{ks:List Ty}{L:Tm}{z:RZ}(h:ek U w n (.row true es e ks L z))(hes:0<es){m:Nat}(hm:m<=L.pd.q.length/es):∃vs:List Value,w.ownsRow 0 e es (fA (U.row n) 0 m es) m vs/\vs.length=m*es/\(∀j,j<m*es->∃t u,ks[j%es]?=some t/\gV w (cu U z) t (L.pd.q.getD j (.i 0)) u/\vs[j]?=some u)/\((U n).x.nl=false->(fA (U.row n) 0 m es).ownBlock=some (U n).b)/\((U n).x.nl=true->(fA (U.row n) 0 m es).ownBlock=none):=by
 rcases h.1 with⟨h1,h2,_⟩|⟨h1,arr,h2,h3,h4⟩
 ·rw[h2]at hm;simp at hm;subst hm;have hv:fA (U.row n) 0 0 es= .slice none 0 0:=by simp[Th.row,h1,fA]
  refine⟨[],?_,by simp,fun j hj=>(by simp at hj),fun e=>(by rw[h1]at e;cases e),fun _=>(by rw[hv];rfl)⟩
  rw[hv];exact World.ownsRow_nil w 0 e es
 ·obtain⟨k1,k2,k3,q,k4,k5⟩:=h4 rfl;have hq:m<=q:=by rw[k4,dQ _ hes]at hm;exact hm
  have hle:m*es<=q*es:=bM _ hq;have hle2:q*es<=(U n).cap*es:=bM _ k5;have hv:fA (U.row n) 0 m es= .slice (some ⟨(U n).b,0,none⟩) m (U n).cap:=by simp only[Th.row,h1,cD,fA,Th.addr,k1,dc,dX,bR,de];split <;>simp[Addr.add]
  refine⟨arr.toList.take (m*es),⟨by rw[bu,fe];omega,.inr ⟨(U n).b,(U n).cap,arr,hv,ec _,h2,by omega,k3,k2,rfl⟩⟩,by rw[bu,fe];omega,fun j hj=>?_,fun _=>(by rw[hv];rfl),fun e=>(by rw[h1]at e;cases e)⟩
  obtain⟨t,u,e1,e2,e3⟩:=h3 j (by omega)
  refine⟨t,u,e1,e2,?_⟩;rw[k1,bR]at e3;rw[bX,ab hj,b8];exact e3
end
end
section
variable [Sy][Fa][fN]
def E1(H:bt)(n:Nat)(p:Pa):Option (List Ty×Tm):=match get H n with
 |some (.frz _ tys L)=>match Of tys L p with
  |some (ts,M)=>bif Nat.blt 0 ts.length then some (ts,M)else none
  |none=>none
 |_=>none
section
variable {P:Program}{o:Oper}{V:Operand->Value}{ev:Operand->Option SV}{U:Th}{H H':bt}{f f':Nat}{w:World}{v:SV}
theorem mQ{n:Nat}{p:Pa}{ts:List Ty}{M:Tm}(h:E1 H n p=some (ts,M))(hm:b9 U (get H) w):∃tys L,(∃fr,get H n=some (.frz fr tys L))/\qX w (U n).x.z (.lst ts) (p.vt (U n).x.t) M.pd/\0<ts.length:=by
 unfold E1 at h;split at h
 ·rename_i fr tys L hn;split at h
  ·rename_i us N hp;cases hc:Nat.blt 0 us.length with
   |false=>rw[hc]at h;cases h
   |true=>rw[hc]at h;simp only[aP,ad,aA]at h;obtain⟨rfl,rfl⟩:=h;rw[bT]at hc;exact⟨tys,L,⟨fr,hn⟩,amD (hm.ok n _ hn).1 p _ _ hp,hc⟩
  ·cases h
 ·cases h
def aBv(u:UnOp)(x:Option SV):Option SV:=match u with
 | .not=>match x with
  |some (.r (.one (.bq b)))=>some (.c (.bq (Rw b)))
  |_=>none
 |_=>none
theorem avG{u:UnOp}{t:TypeId}{x:Operand}(ho:o.op= .unOp u t x)(h:aBv u (ev x)=some v)(hm:b9 U (get H) w)(hl:ga f (get H))(ha:kA U f ev V o):bB P o V U H f w v H f:=by
 unfold aBv at h;split at h
 ·split at h
  ·rename_i b hx;cases h;have hx:=ha x (by simp[ho,Op.operands]) _ hx
   refine bB.same hm hl ?_ rfl;simp[execOp,ho,hx.1,SV.val,SR.val,SC.val,Op.unary,On]
  ·cases h
 ·cases h
def Yq(x:Option SV):Option Bool:=match x with
 |some (.r (.one (.bool b)))=>some b
 |some (.r (.one (.bq b)))=>ask b
 |_=>none
theorem uK{x:Option SV}{b:Bool}(h:Yq x=some b)(U:Th):∃s,x=some s/\s.val U= .bool b:=by
 unfold Yq at h;split at h
 ·cases h;exact⟨_,rfl,rfl⟩
 ·refine⟨_,rfl,?_⟩
  show Value.bool _=_
  rw[k_ h]
 ·cases h
def aqa(c x y:Option SV):Option SV:=match Yq c with
 |some true=>x
 |some false=>y
 |none=>none
theorem ap'{c x y:Operand}(ho:o.op= .pick c x y)(h:aqa (ev c) (ev x) (ev y)=some v)(hm:b9 U (get H) w)(hl:ga f (get H))(ha:kA U f ev V o):bB P o V U H f w v H f:=by
 unfold aqa at h;split at h
 ·rename_i hc;obtain⟨s,hs,hv⟩:=uK hc U;have h1:=(ha c (by simp[ho,Op.operands]) _ hs).1
  have h2:=ha x (by simp[ho,Op.operands]) _ h
  refine bB.same hm hl ?_ h2.2;simp[execOp,ho,h1,hv,h2.1,asBool]
 ·rename_i hc;obtain⟨s,hs,hv⟩:=uK hc U;have h1:=(ha c (by simp[ho,Op.operands]) _ hs).1
  have h2:=ha y (by simp[ho,Op.operands]) _ h
  refine bB.same hm hl ?_ h2.2;simp[execOp,ho,h1,hv,h2.1,asBool]
 ·cases h
def agi(H:bt):SC->Option Tm
 | .dat n p=>match E1 H n p with
  |some (ts,M)=>some (.ln M ts.length)
  |none=>none
 | .osl n es lo hi=>(match lo with
  | .lit 0=>bif nn hi then some hi else none
  |_=>bif nn lo&&oX lo hi then some (.mi hi lo)else none)
 |_=>none
theorem amQ{c:SC}{t:Tm}(h:agi H c=some t)(hm:b9 U (get H) w):∃a n k,c.val U= .slice a n k/\t.den=(n:Int):=by
 unfold agi at h;split at h
 ·rename_i n p;split at h
  ·rename_i ts M hd;simp only[ad]at h;subst h;obtain⟨tys,L,_,hr,hp⟩:=mQ hd hm;obtain⟨a,m,c,hv,_,_,_,_,hdiv⟩:=hr.len hp;refine⟨a,m,c,?_,?_⟩
   ·show xY _=_;rw[hv];rfl
   ·rw[Gx,hdiv]
  ·cases h
 ·rename_i n es lo hi;split at h
  ·cases hc:nn hi with
   |false=>rw[hc]at h;cases h
   |true=>
    rw[hc]at h;simp only[aP,ad]at h;subst h;have:=jY (lj hc);have e:∀v:Value,(∃a k,v= .slice a 0 k)->∃a k,fA v (Tm.lit 0).nat hi.nat es= .slice a hi.nat k:=fun v ⟨a,k,hv⟩=>by
     subst hv;exact⟨_,_,by simp only[fA];rw[show(Tm.lit 0).nat=0 from rfl,dX]⟩
    obtain⟨a,k,hk⟩:=e (U.row n) (by unfold Th.row;cases(U n).x.nl<;>exact⟨_,_,rfl⟩)
    exact⟨a,hi.nat,k,hk,this.symm⟩
  ·cases hc:(nn lo&&oX lo hi)with
   |false=>rw[hc]at h;cases h
   |true=>
    rw[hc]at h;simp only[aP,ad]at h;subst h;simp only[ah]at hc;have h1:=lj hc.1;have h2:=gj hc.2;have n1:=jY h1;have n2:=jY (show 0<=hi.den by omega)
    have e:∀v:Value,(∃a k,v= .slice a 0 k)->∃a k,fA v lo.nat hi.nat es= .slice a (hi.nat-lo.nat) k:=fun v ⟨a,k,hv⟩=>by
     subst hv;exact⟨_,_,rfl⟩
    obtain⟨a,k,hk⟩:=e (U.row n) (by unfold Th.row;cases(U n).x.nl<;>exact⟨_,_,rfl⟩)
    refine⟨a,_,k,hk,?_⟩
    show hi.den-lo.den=_
    omega
 ·cases h
def aBK(P:Program)(H:bt)(ts:List TypeId)(xs:List (Option SV)):Option SV:=match ts with
 | [t]=>match xs with
  | [some (.r (.one c))]=>match P.underlying t with
   |some (.slice _)=>match agi H c with
    |some u=>some (.c (.sym .i64 u))
    |none=>none
   |_=>none
  |_=>none
 |_=>none
theorem avB{c:Call}{s:SV}(h:c.args.toList.map ev=[some s]):∃x,c.args.toList=[x]/\ev x=some s:=by
 cases hq:c.args.toList with
 |nil=>rw[hq]at h;simp at h
 |cons x r=>rw[hq]at h;cases r<;>simp at h;exact⟨x,rfl,h⟩
theorem avU{c:Call}(ho:o.op= .call c)(hc:c.callee= .builtin .len)(h:aBK P H c.argTypes.toList (c.args.toList.map ev)=some v)(hm:b9 U (get H) w)(hl:ga f (get H))(ha:kA U f ev V o):bB P o V U H f w v H f:=by
 obtain⟨cs,he⟩:=fO (V:=V) ho hc;unfold aBK at h;split at h
 ·rename_i t hts;have hta:c.argTypes= #[t]:=by apply Array.ext';exact hts
  split at h
  ·rename_i c' hxs;split at h
   ·rename_i e hu;split at h
    ·rename_i u hlen;cases h;obtain⟨x,hx1,hx2⟩:=avB hxs;have hx:=ha x (by have:x∈c.args:=(by rw[<-gt,hx1];simp);simp[ho,Op.operands,Call.operands,this]) _ hx2
     obtain⟨a,n,k,hv,hn⟩:=amQ hlen hm;have hxv:V x= .slice a n k:=hx.1.trans hv;refine bB.same hm hl ?_ rfl;rw[he,hx1,hta]
     show _=Result.ok (Next.value (.int .i64 u.den)) w
     rw[hn];simp[builtin,Builtin.len_,run_underlying hu,hxv,goInt]
    ·cases h
   ·cases h
  ·cases h
 ·cases h
def pz(H:bt)(n es:Nat)(lo hi:Tm):Option (TypeId×List Ty×Tm×RZ):=match get H n with
 |some y=>match gh es y with
  |some (kc,e,ks,L,z)=>bif kc&&(Nat.blt 0 es&&(nn lo&&(oX lo hi&&oX hi (B_ L es))))then some (e,ks,L,z)else none
  |none=>none
 |none=>none
structure ale(U:Th)(H:bt)(w:World)(n es:Nat)(lo hi:Tm)(e:TypeId)(ks:List Ty)(L:Tm)(z:RZ):Prop where
 y:∃y,get H n=some y/\(gG U n y↔(U n).x.nl=false)/\∀b,cu U z b↔Zb U n y b
 b:ek U w n (.row true es e ks L z)
 oes:0<es
 olo:(lo.nat:Int)=lo.den
 ohi:(hi.nat:Int)=hi.den
 le:lo.nat<=hi.nat
 ln:hi.nat<=L.pd.q.length/es
theorem my{n es:Nat}{lo hi:Tm}{e:TypeId}{ks:List Ty}{L:Tm}{z:RZ}(h:pz H n es lo hi=some (e,ks,L,z))(hm:b9 U (get H) w):ale U H w n es lo hi e ks L z:=by
 unfold pz at h;split at h
 ·rename_i y hy;split at h
  ·rename_i kc e' ks' L' z' hv;cases hc:(kc&&(Nat.blt 0 es&&(nn lo&&(oX lo hi&&oX hi (B_ L' es)))))with
   |false=>rw[hc]at h;cases h
   |true=>
    rw[hc]at h;simp only[aP,ad,aA]at h;obtain⟨rfl,rfl,rfl,rfl⟩:=h;simp only[ah]at hc;obtain⟨c0,c1,c2,c3,c4⟩:=hc;subst c0;rw[bT]at c1;have h1:=lj c2;have h2:=gj c3;have h3:=gj c4;rw[oh]at h3;obtain⟨b1,b2⟩:=yk (hm.ok n y hy) hv;have n1:=jY h1;have n2:=jY (show 0<=hi.den by omega)
    exact⟨⟨y,hy,b2⟩,b1,c1,n1,n2,by omega,by omega⟩
  ·cases h
 ·cases h
theorem ale.val{n es:Nat}{lo hi:Tm}{e:TypeId}{ks:List Ty}{L:Tm}{z:RZ}(h:ale U H w n es lo hi e ks L z)(hp:lo.nat<hi.nat):(U n).x.nl=false/\(U n).sh=0/\hi.nat<=(U n).cap/\SC.val U (.osl n es lo hi)= .slice (some (U.addr n (lo.nat*es))) (hi.nat-lo.nat) ((U n).cap-lo.nat):=by
 have hl:=h.ln;rcases h.b.1 with⟨_,h2,_⟩|⟨h1,arr,h2,h3,h4⟩
 ·rw[h2]at hl;simp at hl;omega
 ·obtain⟨k1,k2,k3,q,k4,k5⟩:=h4 rfl;rw[k4,dQ _ h.oes]at hl;refine⟨h1,k1,by omega,?_⟩
  show fA (U.row n) lo.nat hi.nat es=_
  simp only[Th.row,h1,cD,fA];rw[ak (by omega)]
  simp[Th.addr,Addr.add_mid]
def jW(lo hi:Tm):Tm:=match lo with
 | .lit 0=>hi
 |_=> .mi hi lo
theorem li(lo hi:Tm):(jW lo hi).den=hi.den-lo.den:=by
 unfold jW;split
 ·show _=hi.den-0;omega
 ·rfl
def aa1(lo u:Tm):Tm:=match lo with
 | .lit 0=>u
 |_=> .pl lo u
theorem amE(lo u:Tm):(aa1 lo u).den=lo.den+u.den:=by
 unfold aa1;split
 ·show _=0+u.den;omega
 ·rfl
def agB(P:Program)(H:bt)(t:TypeId)(x ix:Option SV):Option SV:=match ix with
 |some (.r (.one c))=>match iu c with
  |some (_,u)=>bif nn u then(match P.underlying t with
   |some (.slice elem)=>match P.info? elem with
    |some e=>match x with
     |some (.r (.one (.dat n p)))=>match E1 H n p with
      |some (ts,M)=>bif Nat.beq ts.length e.size&&Hz (.lt u (.ln M ts.length))then some (.c (.ep n p u e.size 0))else none
      |none=>none
     |some (.r (.one (.osl n es lo hi)))=>match pz H n es lo hi with
      |some (_,_,L,_)=>bif Nat.beq es e.size&&Hz (.lt u (jW lo hi))then some (.c (.rp n (aa1 lo u) es 0))else none
      |none=>none
     |some (.r (.one (.slice n off l d)))=>bif Hz (.lt u (.lit l))then some (.c (.rp n u e.size off))else none
     |_=>none
    |none=>none
   |some (.array len elem)=>match P.info? elem with
    |some e=>match x with
     |some (.r (.one (.ptr n off)))=>bif Hz (.lt u (.lit len))then some (.c (.rp n u e.size off))else none
     |_=>none
    |none=>none
   |_=>none)else none
  |none=>none
 |_=>none
theorem Wf(U:Th)(n:Nat)(t:Tm)(es o:Nat):SV.val U (.c (.rp n t es o))= .pointer (some (U.addr n (t.nat*es+o))):=rfl
theorem am7{t:TypeId}{x ix:Operand}(ho:o.op= .indexAddr t x ix)(h:agB P H t (ev x) (ev ix)=some v)(hm:b9 U (get H) w)(hl:ga f (get H))(ha:kA U f ev V o):bB P o V U H f w v H f:=by
 unfold agB at h;split at h
 ·rename_i c hi;have hi:=(ha ix (by simp[ho,Op.operands]) _ hi).1
  split at h
  ·rename_i k u hn;have ei:V ix= .int k u.den:=hi.trans (dE hn U);cases hnn:nn u with
   |false=>rw[hnn]at h;cases h
   |true=>
    rw[hnn]at h;simp only[aP]at h;have z1:=lj hnn;have z1':=jY z1;split at h
    ·rename_i elem hu;split at h
     ·rename_i e he;split at h
      ·rename_i n p hx;have hx:=ha x (by simp[ho,Op.operands]) _ hx
       split at h
       ·rename_i ts M hd;cases hc:(Nat.beq ts.length e.size&&Hz (.lt u (.ln M ts.length)))with
        |false=>rw[hc]at h;cases h
        |true=>
         rw[hc]at h;cases h;simp only[ah]at hc;have c1:=af hc.1;have c2:=aqC hnn hc.2;obtain⟨tys,L,_,hr,hp⟩:=mQ hd hm;obtain⟨ty,hty⟩:∃ty,ts[0]?=some ty:=⟨_,aj hp⟩;obtain⟨a,m,k2,hv,hsp,hlt,_⟩:=hr.cell c2 hty;have ex:V x= .slice (some a) m k2:=hx.1.trans (by show xY _=_;rw[hv];rfl)
         have z2:u.den<(m:Int):=by omega
         refine bB.same hm hl ?_ hx.2;have e3:SV.val U (.c (.ep n p u e.size 0))= .pointer (some ⟨a.block,a.off+(u.nat*e.size+0),none⟩):=by
          show Value.pointer (Option.map _ (adu (xY _)))=_
          rw[hv];rfl
         rw[e3];have e4:a.add (u.den.toNat*e.size)=⟨a.block,a.off+u.den.toNat*e.size,none⟩:=by have:=Addr.add_mid (b:=a.block) (o:=a.off) (j:=u.den.toNat*e.size);rw[<-ky hsp]at this;exact this
         simp[execOp,ho,ex,ei,Instr.indexAt,asIntOf,run_underlying hu,z1,z2,sizeOf,typeInfo,he,e4,Tm.nat];rfl
       ·cases h
      ·rename_i n es lo hi' hx;have hx:=ha x (by simp[ho,Op.operands]) _ hx
       split at h
       ·rename_i _ _ L _ hr;cases hc:(Nat.beq es e.size&&Hz (.lt u (jW lo hi')))with
        |false=>rw[hc]at h;cases h
        |true=>
         rw[hc]at h;cases h;simp only[ah]at hc;have c1:=af hc.1;subst c1;have c2:=B8 hc.2;rw[li]at c2;have O:=my hr hm;have o1:=O.olo;have o2:=O.ohi;obtain⟨h1,h2,h3,h4⟩:=O.val (by omega)
         have ex:V x=_:=hx.1.trans h4;have z2:u.den<((hi'.nat-lo.nat:Nat):Int):=by have:=O.le;omega
         refine bB.same hm hl ?_ hx.2;have e5:(aa1 lo u).nat=lo.nat+u.nat:=by
          have e6:=amE lo u
          show(aa1 lo u).den.toNat=_
          rw[e6];omega
         rw[Wf,e5,co,ch];have z3:u.den.toNat=u.nat:=rfl;simp[execOp,ho,ex,ei,Instr.indexAt,asIntOf,run_underlying hu,z1,z2,sizeOf,typeInfo,he,iw,z3]
       ·cases h
      ·rename_i n off l d hx;have hx:=ha x (by simp[ho,Op.operands]) _ hx
       cases hc:Hz (.lt u (.lit l))with
       |false=>rw[hc]at h;cases h
       |true=>rw[hc]at h;cases h;have z2:u.den<(l:Int):=B8 hc;refine bB.same hm hl ?_ hx.2;rw[Wf,kv];simp[execOp,ho,hx.1,ei,SV.val,SR.val,SC.val,Instr.indexAt,asIntOf,run_underlying hu,z1,z2,sizeOf,typeInfo,he,iw,Tm.nat];rfl
      ·cases h
     ·cases h
    ·rename_i len elem hu;split at h
     ·rename_i e he;split at h
      ·rename_i n off hx;have hx:=ha x (by simp[ho,Op.operands]) _ hx
       cases hc:Hz (.lt u (.lit len))with
       |false=>rw[hc]at h;cases h
       |true=>rw[hc]at h;cases h;have z2:u.den<(len:Int):=B8 hc;refine bB.same hm hl ?_ hx.2;rw[Wf,kv];simp[execOp,ho,hx.1,ei,SV.val,SR.val,SC.val,Instr.indexAt,asIntOf,run_underlying hu,z1,z2,sizeOf,typeInfo,he,iw,Instr.sureAddr,Tm.nat];rfl
      ·cases h
     ·cases h
    ·cases h
  ·cases h
 ·cases h
def arN(H:bt)(n:Nat)(p:Pa)(t:Tm)(es:Nat):Option (List Ty×Tm):=match E1 H n p with
 |some (ts,M)=>bif Nat.beq ts.length es&&(nn t&&Hz (.lt t (.ln M es)))then some (ts,M)else none
 |none=>none
theorem Ye{n:Nat}{p:Pa}{t:Tm}{es:Nat}{ts:List Ty}{M:Tm}(h:arN H n p t es=some (ts,M))(hm:b9 U (get H) w):
  ∃a:Addr,(∀j,SC.val U (.ep n p t es j)= .pointer (some ⟨a.block,a.off+(t.nat*es+j),none⟩))/\∀j ty,ts[j]?=some ty->w.cell? ⟨a.block,a.off+(t.nat*es+j),none⟩=some ((Pa.el p t es j).vt (U n).x.t).v/\qX w (U n).x.z ty ((Pa.el p t es j).vt (U n).x.t) (Tm.el M t es j).pd:=by
 unfold arN at h;split at h
 ·rename_i us N hd;cases hc:(Nat.beq us.length es&&(nn t&&Hz (.lt t (.ln N es))))with
  |false=>rw[hc]at h;cases h
  |true=>
   rw[hc]at h;simp only[aP,ad,aA]at h;obtain⟨rfl,rfl⟩:=h;simp only[ah]at hc;have c1:=af hc.1;subst c1;have c2:=aqC hc.2.1 hc.2.2;obtain⟨tys,L,_,hr,hp⟩:=mQ hd hm;obtain⟨ty,hty⟩:∃ty,us[0]?=some ty:=⟨_,aj hp⟩;obtain⟨a,m,k2,hv,hsp,hlt,_⟩:=hr.cell c2 hty;refine⟨a,fun j=>?_,fun j ty' hj=>?_⟩
   ·show Value.pointer (Option.map _ (adu (xY _)))=_
    rw[hv];rfl
   ·obtain⟨a',m',k',hv',_,_,_,h1,h2⟩:=hr.cell c2 hj;rw[hv]at hv';simp only[Value.slice.injEq,ad]at hv';obtain⟨rfl,_,_⟩:=hv';exact⟨h1,h2⟩
 ·cases h
def ag7(P:Program)(H:bt)(s:TypeId)(x:Option SV)(fld:Nat):Option SV:=match P.underlying s with
 |some (.struct fields)=>match fields.toList[fld]? with
  |some fd=>match P.info? fd.type with
   |some i=>bif Nat.beq i.size 0 then none else(match x with
    |some (.r (.one (.ep n p t es off)))=>(match arN H n p t es with
     |some _=>some (.c (.ep n p t es (off+fd.offset)))
     |none=>none)
    |some (.r (.one (.rp n t es off)))=>some (.c (.rp n t es (off+fd.offset)))
    |_=>none)
   |none=>none
  |none=>none
 |_=>none
theorem ans{s:TypeId}{x:Operand}{fld:Nat}(ho:o.op= .fieldAddr s x fld)(h:ag7 P H s (ev x) fld=some v)(hm:b9 U (get H) w)(hl:ga f (get H))(ha:kA U f ev V o):bB P o V U H f w v H f:=by
 unfold ag7 at h;split at h
 ·rename_i fields hu;split at h
  ·rename_i fd hf;rw[b8]at hf;split at h
   ·rename_i i hi;cases hz:Nat.beq i.size 0 with
    |true=>rw[hz]at h;cases h
    |false=>
     rw[hz]at h;simp only[cD]at h;have hz':¬i.size=0:=fun e=>by rw[e]at hz;cases hz
     split at h
     ·rename_i n p t es off hx;have hx1:=ha x (by simp[ho,Op.operands]) _ hx
      split at h
      ·rename_i r hr;cases h;obtain⟨b,hb,_⟩:=Ye (ts:=r.1) (M:=r.2) hr hm;refine bB.same hm hl ?_ hx1.2;have e1:V x= .pointer (some ⟨b.block,b.off+(t.nat*es+off),none⟩):=hx1.1.trans (hb off);have e2:SV.val U (.c (.ep n p t es (off+fd.offset)))= .pointer (some ⟨b.block,b.off+(t.nat*es+(off+fd.offset)),none⟩):=hb _;rw[e2];simp[execOp,ho,e1,Instr.fieldAt,run_underlying hu,hf,Instr.sureAddr,fieldPlace,sizeOf,typeInfo,hi,hz',Addr.add_mid,cT]
      ·cases h
     ·rename_i n t es off hx;cases h;have hx:=ha x (by simp[ho,Op.operands]) _ hx
      refine bB.same hm hl ?_ hx.2;simp[execOp,ho,hx.1,SV.val,SR.val,SC.val,Instr.fieldAt,run_underlying hu,hf,Instr.sureAddr,fieldPlace,sizeOf,typeInfo,hi,hz',iw,cT]
     ·cases h
   ·cases h
  ·cases h
 ·cases h
def aBy(H:bt)(x:Option SV):Option SV:=match x with
 |some (.r (.one (.ep n p t es off)))=>(match arN H n p t es with
  |some _=>some (.c (.ep n p t es off))
  |none=>none)
 |some (.r (.one (.rp n t es off)))=>some (.c (.rp n t es off))
 |_=>none
theorem avI{x:Operand}(ho:o.op= .nilCheck x)(h:aBy H (ev x)=some v)(hm:b9 U (get H) w)(hl:ga f (get H))(ha:kA U f ev V o):bB P o V U H f w v H f:=by
 unfold aBy at h;split at h
 ·rename_i n p t es off hx;split at h
  ·rename_i r hr;cases h;obtain⟨b,hb,_⟩:=Ye (ts:=r.1) (M:=r.2) hr hm;have hx1:=ha x (by simp[ho,Op.operands]) _ hx
   have e1:V x= .pointer (some ⟨b.block,b.off+(t.nat*es+off),none⟩):=hx1.1.trans (hb off);have e2:SV.val U (.c (.ep n p t es off))= .pointer (some ⟨b.block,b.off+(t.nat*es+off),none⟩):=hb _;refine bB.same hm hl ?_ hx1.2;rw[e2];simp[execOp,ho,e1]
  ·cases h
 ·rename_i n t es off hx;cases h;have hx:=ha x (by simp[ho,Op.operands]) _ hx
  refine bB.same hm hl ?_ hx.2;simp[execOp,ho,hx.1,SV.val,SR.val,SC.val]
 ·cases h
def Yh(ts:List Ty)(M:Tm)(n:Nat)(p:Pa)(t:Tm)(es j:Nat):Option SC:=match ts[j]? with
 |some (.int k)=>some (.sym k (.el M t es j))
 |some .bool=>some (.bq (.tru (.el M t es j)))
 |some (.lst _)=>some (.dat n (.el p t es j))
 |none=>none
theorem Wg{z:Nat->Prop}{k:IntKind}{x:VT}{d:PD}(h:qX w z (.int k) x d):x.v= .int k d.n:=by cases h;rfl
theorem Ll{z:Nat->Prop}{x:VT}{d:PD}(h:qX w z .bool x d):x.v= .bool (decide (d.n≠0)):=by cases h with|bool b us x e=>subst e;rfl
theorem yF{z:Nat->Prop}{tys:List Ty}{x:VT}{d:PD}(h:qX w z (.lst tys) x d):xY x.v=x.v:=by cases h<;>rfl
theorem ahh{ts:List Ty}{M:Tm}{n:Nat}{p:Pa}{t:Tm}{es j:Nat}{c:SC}(h:Yh ts M n p t es j=some c)(hr:∀ty,ts[j]?=some ty->qX w (U n).x.z ty ((Pa.el p t es j).vt (U n).x.t) (Tm.el M t es j).pd):(∃ty,ts[j]?=some ty)/\c.val U=((Pa.el p t es j).vt (U n).x.t).v/\∀f,n<f->c.ltB f=true:=by
 unfold Yh at h;split at h
 ·rename_i k hk;cases h;refine⟨⟨_,hk⟩,(Wg (hr _ hk)).symm,fun f _=>rfl⟩
 ·rename_i hk;cases h;refine⟨⟨_,hk⟩,(Ll (hr _ hk)).symm,fun f _=>rfl⟩
 ·rename_i us hk;cases h;refine⟨⟨_,hk⟩,yF (hr _ hk),fun f hf=>by simpa[SC.ltB]using hf⟩
 ·cases h
def Dv(ks:List Ty)(L:Tm)(t:Tm)(es j:Nat):Option SC:=match ks[j]? with
 |some (.int k)=>some (.sym k (.el L t es j))
 |some .bool=>some (.bq (.tru (.el L t es j)))
 |_=>none
theorem Bh{ks:List Ty}{L:Tm}{t:Tm}{es j:Nat}{c:SC}(h:Dv ks L t es j=some c)(U:Th):∃ty,ks[j]?=some ty/\(∀ (w:World) (z:Nat->Prop) u,gV w z ty (L.pd.q.getD (t.nat*es+j) (.i 0)) u->c.val U=u)/\∀f,c.ltB f=true:=by
 have key:∀d:PD,d=L.pd.q.getD (t.nat*es+j) (.i 0)->(Tm.el L t es j).den=d.n:=fun d hd=>by subst hd;rfl
 unfold Dv at h;split at h
 ·rename_i k hk;cases h;refine⟨_,hk,fun w z u hu=>?_,fun f=>rfl⟩
  obtain⟨x,h1,h2⟩:=hu;rw[<-h1,Wg h2];exact congrArg (Value.int k) (key _ rfl)
 ·rename_i hk;cases h;refine⟨_,hk,fun w z u hu=>?_,fun f=>rfl⟩
  obtain⟨x,h1,h2⟩:=hu;rw[<-h1,Ll h2]
  show Value.bool (decide ((Tm.el L t es j).den≠0))=_
  rw[key _ rfl]
 ·cases h
def uL{α:Type}(g:Nat->Option α):Nat->Nat->Option (List α)
 |_,0=>some []
 |o,s+1=>match g o with
  |some c=>match uL g (o+1) s with
   |some r=>some (c::r)
   |none=>none
  |none=>none
theorem oP{α:Type}{g:Nat->Option α}:∀ {s o:Nat} {l:List α},uL g o s=some l->l.length=s/\∀j c,l[j]?=some c->g (o+j)=some c
 |0,o,l,h=>by simp only[uL,ad]at h;subst h;exact⟨rfl,fun j c hj=>by simp at hj⟩
 |s+1,o,l,h=>by
  simp only[uL]at h;split at h
  ·rename_i c hc;split at h
   ·rename_i r hr;simp only[ad]at h;subst h;obtain⟨h1,h2⟩:=oP hr;refine⟨by simp[h1],fun j c' hj=>?_⟩
    cases j with
    |zero=>simp only[bn,ad]at hj;subst hj;exact hc
    |succ j=>rw[bk]at hj;rw[show o+(j+1)=o+1+j by omega];exact h2 j c' hj
   ·cases h
  ·cases h
def anQ(agg:Bool)(l:List SC):Option SV:=match agg with
 |true=>some (.r (.agg l))
 |false=>match l with
  | [c]=>some (.c c)
  |_=>none
def Lk(H:bt)(n:Nat)(t:Tm)(es:Nat):Option (Bool×TypeId×List Ty×Tm×RZ):=match get H n with
 |some y=>match gh es y with
  |some (kc,e,ks,L,z)=>bif Nat.blt 0 es&&(nn t&&Hz (.lt t (B_ L es)))then some (kc,e,ks,L,z)else none
  |none=>none
 |none=>none
def al3(H:bt):SC->Option (Nat×Tm×Nat×Nat)
 | .rp n t es o=>some (n,t,es,o)
 | .ptr n o=>match get H n with
  |some (.row _ es _ _ _ _)=>bif Nat.blt 0 es then some (n,.lit (o/es:Nat),es,o%es)else none
  |_=>none
 |_=>none
theorem Du{c:SC}{n es o:Nat}{t:Tm}(h:al3 H c=some (n,t,es,o))(U:Th):c.val U= .pointer (some (U.addr n (t.nat*es+o)))/\∀f,c.ltB f=true->n<f:=by
 unfold al3 at h;split at h
 ·simp only[ad,aA]at h;obtain⟨rfl,rfl,rfl,rfl⟩:=h;exact⟨rfl,fun f hf=>by simpa[SC.ltB]using hf⟩
 ·rename_i m q;split at h
  ·rename_i kc es' e ks L z hn;cases hc:Nat.blt 0 es' with
   |false=>rw[hc]at h;cases h
   |true=>
    rw[hc]at h;simp only[aP,ad,aA]at h;obtain⟨rfl,rfl,rfl,rfl⟩:=h;refine⟨?_,fun f hf=>by simpa[SC.ltB]using hf⟩
    show Value.pointer (some (U.addr m q))=_
    have:(Tm.lit (q/es':Nat)).nat=q/es':=by show Int.toNat _=_;exact au _
    rw[this,Nat.div_add_mod']
  ·cases h
 ·cases h
def aqF(P:Program)(H:bt)(t:TypeId)(x:Option SV):Option SV:=match pf P t with
 |some (s,agg)=>match x with
  |some (.r (.one (.ep n p u es o)))=>match arN H n p u es with
   |some (ts,M)=>match uL (Yh ts M n p u es) o s with
    |some l=>anQ agg l
    |none=>none
   |none=>none
  |some (.r (.one c))=>match al3 H c with
   |some (n,u,es,o)=>match Lk H n u es with
    |some (kc,e,ks,L,_)=>bif Nat.ble (o+s) es then(match uL (Dv ks L u es) o s with
     |some l=>anQ agg l
     |none=>none)else none
    |none=>none
   |none=>none
  |_=>none
 |none=>none
theorem pH{t:TypeId}{s:Nat}{agg:Bool}{l:List SC}(hs:pf P t=some (s,agg))(hv:anQ agg l=some v)(hlen:l.length=s)(A:Addr)(hA:A.spot=none)(hc:∀j c,l[j]?=some c->w.cell? ⟨A.block,A.off+j,none⟩=some (c.val U))(hlt:∀c∈l,c.ltB f=true):
  (loadVar t A).run P w= .ok (v.val U) w/\v.ltB f=true:=by
 obtain⟨g1,g2⟩:=iQ hs w;unfold anQ at hv;split at hv
 ·cases hv;have hcells:=run_loadCells_list (P:=P) w A (l.map (SC.val U)) (fun j u hu=>by
   rw[aM]at hu;obtain⟨c,hc',rfl⟩:=cA.1 hu;have:=hc j c hc';rw[ky hA,Addr.add_mid];exact this)
  rw[bO,hlen]at hcells;refine⟨?_,be.2 hlt⟩;simp[loadVar,g1,g2,hcells,SV.val,SR.val]
 ·split at hv
  ·rename_i c;cases hv;have:=hc 0 c rfl;rw[ch,<-ky hA]at this;refine⟨?_,hlt c (by simp)⟩
   simp[loadVar,g1,this,SV.val,SR.val]
  ·cases hv
theorem vT{n es:Nat}{t:Tm}{kc:Bool}{e:TypeId}{ks:List Ty}{L:Tm}{z:RZ}(h:Lk H n t es=some (kc,e,ks,L,z))(hm:b9 U (get H) w):∃y,get H n=some y/\gh es y=some (kc,e,ks,L,z)/\ek U w n (.row kc es e ks L z)/\((gG U n y↔(U n).x.nl=false)/\∀b,cu U z b↔Zb U n y b)/\0<es/\t.nat<L.pd.q.length/es/\(t.nat:Int)=t.den:=by
 unfold Lk at h;split at h
 ·rename_i y hy;split at h
  ·rename_i kc' e' ks' L' z' hv;cases hc:(Nat.blt 0 es&&(nn t&&Hz (.lt t (B_ L' es))))with
   |false=>rw[hc]at h;cases h
   |true=>rw[hc]at h;simp only[aP,ad,aA]at h;obtain⟨rfl,rfl,rfl,rfl,rfl⟩:=h;simp only[ah]at hc;obtain⟨c1,c2,c3⟩:=hc;rw[bT]at c1;have h1:=lj c2;have h3:=B8 c3;rw[oh]at h3;have:=jY h1;obtain⟨b1,b2⟩:=yk (hm.ok n y hy) hv;exact⟨y,hy,hv,b1,b2,c1,by omega,this⟩
  ·cases h
 ·cases h
theorem acD{t es m l o:Nat}(h:t<l/es)(hp:0<es)(ho:o<es):t*es+o<l:=by have h1:(t+1)*es<=l/es*es:=bM _ h;have h2:=Nat.div_mul_le_self l es;rw[co,dd]at h1;omega
theorem Yf{t es o:Nat}(ho:o<es):(t*es+o)%es=o:=by rw[bU,gE,kq ho]
theorem aqE{t:TypeId}{x:Operand}(ho:o.op= .load t x)(h:aqF P H t (ev x)=some v)(hm:b9 U (get H) w)(hl:ga f (get H))(ha:kA U f ev V o):bB P o V U H f w v H f:=by
 unfold aqF at h;split at h
 ·rename_i s agg hs;split at h
  ·rename_i n p u es off hx;have hx:=ha x (by simp[ho,Op.operands]) _ hx
   have hnf:n<f:=by simpa[SV.ltB,SR.ltB,SC.ltB]using hx.2
   split at h
   ·rename_i ts M he;split at h
    ·rename_i l hall;obtain⟨a,ha1,ha2⟩:=Ye he hm;obtain⟨l1,l2⟩:=oP hall;have hcell:∀j c,l[j]?=some c->w.cell? ⟨a.block,a.off+(u.nat*es+off)+j,none⟩=some (c.val U)/\c.ltB f=true:=fun j c hj=>by
      obtain⟨⟨ty,hty⟩,h2,h3⟩:=ahh (l2 j c hj) fun ty hty=>(ha2 _ ty hty).2
      refine⟨?_,h3 f hnf⟩;rw[h2,<- (ha2 _ ty hty).1]
      congr 2
      omega
     obtain⟨r1,r2⟩:=pH (P:=P) (w:=w) (U:=U) (f:=f) hs h l1 ⟨a.block,a.off+(u.nat*es+off),none⟩ rfl (fun j c hj=>(hcell j c hj).1) (fun c hc=>by
      obtain⟨j,hj⟩:=dM hc;exact(hcell j c hj).2)
     have e1:V x= .pointer (some ⟨a.block,a.off+(u.nat*es+off),none⟩):=hx.1.trans (ha1 off);refine bB.same hm hl ?_ r2;simp[execOp,ho,e1,Instr.loadAt,Instr.sureAddr,r1]
    ·cases h
   ·cases h
  ·rename_i c _ hx;have hx:=ha x (by simp[ho,Op.operands]) _ hx
   split at h
   ·rename_i n u es off hrp;obtain⟨q1,q2⟩:=Du hrp U;split at h
    ·rename_i kc e ks L z hr;obtain⟨y,hy,hv,hb,_,hes,hlt,_⟩:=vT hr hm;cases hc:Nat.ble (off+s) es with
     |false=>rw[hc]at h;cases h
     |true=>
      rw[hc]at h;simp only[aP]at h;have hc:=bY hc;split at h
      ·rename_i l hall;obtain⟨l1,l2⟩:=oP hall;have hcell:∀j c,l[j]?=some c->w.cell? ⟨(U n).b,(U n).sh+(u.nat*es+off)+j,none⟩=some (c.val U)/\c.ltB f=true:=fun j c hj=>by
        have hjl:j<s:=by rw[<-l1];exact(av.1 hj).1
        obtain⟨ty,hty,h2,h3⟩:=Bh (l2 j c hj) U;refine⟨?_,h3 f⟩;obtain⟨_,ty',uu,k1,k2,k3⟩:=rY hb (acD (m:=0) hlt hes (show off+j<es by omega))
        rw[Yf (by omega)]at k1
        rw[hty]at k1;cases k1;rw[h2 _ _ uu k2,<-k3]
        congr 2
        omega
       obtain⟨r1,r2⟩:=pH (P:=P) (w:=w) (U:=U) (f:=f) hs h l1 ⟨(U n).b,(U n).sh+(u.nat*es+off),none⟩ rfl (fun j c hj=>(hcell j c hj).1) (fun c hc=>by
        obtain⟨j,hj⟩:=dM hc;exact(hcell j c hj).2)
       have e1:V x= .pointer (some (U.addr n (u.nat*es+off))):=hx.1.trans q1;refine bB.same hm hl ?_ r2;unfold Th.addr at e1;simp[execOp,ho,e1,Instr.loadAt,Instr.sureAddr,r1]
      ·cases h
    ·cases h
   ·cases h
  ·cases h
 ·cases h
end
end
section
variable [Sy][Fa][fN]
section
variable {P:Program}{o:Oper}{V:Operand->Value}{ev:Operand->Option SV}{U:Th}{H H':bt}{f f':Nat}{w:World}{v:SV}
theorem ai5{n es q:Nat}{y:SB}{kc:Bool}{e:TypeId}{ks:List Ty}{L L':Tm}{z:RZ}{vs:List Value}(hm:b9 U (get H) w)(hl:ga f (get H))(hn:get H n=some y)(hv:gh es y=some (kc,e,ks,L,z))(hpos:0<vs.length)(hfit:q+vs.length<=L.pd.q.length)
  (hlen:L'.pd.q.length=L.pd.q.length) (h1:∀j,j<q\/q+vs.length<=j->L'.pd.q.getD j (.i 0)=L.pd.q.getD j (.i 0)) (h2:∀j u,vs[j]?=some u->∃t,ks[(q+j)%es]?=some t/\gV w (cu U z) t (L'.pd.q.getD (q+j) (.i 0)) u):
  ∃w',(storeCells (U.addr n q) vs).run P w= .ok () w'/\dA U (get H) f w U (get (put H n (.row kc es e ks L' z))) f w':=by
 obtain⟨b1,b2,b3⟩:=yk (hm.ok n y hn) hv;obtain⟨b1,bz⟩:=b1;rcases b1 with⟨_,g2,_⟩|⟨g1,arr,g2,g3,g4⟩
 ·rw[g2,dr]at hfit;omega
 have hsz:(U n).sh+L.pd.q.length<=arr.size:=by
  obtain⟨t,u,_,_,h⟩:=g3 (L.pd.q.length-1) (by omega)
  obtain⟨h4,_⟩:=cP.1 h;omega
 have hone:∀v∈vs,v.oneCell'=true:=fun v hv=>by
  obtain⟨j,hj⟩:=dM hv;obtain⟨t,_,h⟩:=h2 j v hj;exact h.one
 have hfit':(U n).sh+q+vs.length<=arr.toList.length:=by simp;omega
 have hst:=run_storeCells_at P (U n).b ((U n).sh+q) e vs 0 arr w g2 (by simp at hfit' ⊢;omega) hone
 have hkeep:=fun o b (hb:cu U z b)=>setRow_other w (U n).b b o ((bz b hb).2.1 g1)
 refine⟨_,hst,Dd hm hl hn (b2.2 g1) (fun b hb=>(b3 b).1 hb) ⟨.inr ⟨g1,_,setRow_heap w _ _ _ _ _ g2,fun j hj=>?_,fun hk=>?_⟩,fun b hb=>?_⟩ (JL hv (hl n y hn).2) (fun b hb=>setRow_other w _ b _ hb) (by simp[World.setRow]) rfl rfl rfl⟩
 ·rw[hlen]at hj;obtain⟨t,u,k1,k2,k3⟩:=g3 j hj;have hget:(ja arr.toList ((U n).sh+q) vs).toArray[(U n).sh+j]?=if(U n).sh+j<(U n).sh+q then arr[(U n).sh+j]? else if(U n).sh+j<(U n).sh+q+vs.length then vs[(U n).sh+j-((U n).sh+q)]? else arr[(U n).sh+j]? :=by
   rw[eF,ly hfit',b8]
  by_cases hin:q<=j/\j<q+vs.length
  ·obtain⟨uu,huu⟩:∃uu,vs[j-q]?=some uu:=⟨_,aj (by omega)⟩
   obtain⟨t',e1,e2⟩:=h2 (j-q) uu huu;rw[show q+(j-q)=j by omega]at e1 e2
   refine⟨t',uu,e1,e2.keep (hkeep _) (fun _ h=>h),?_⟩
   show(ja arr.toList ((U n).sh+q) vs).toArray[(U n).sh+j]?=_
   rw[hget,ak (by omega),ab (by omega),show(U n).sh+j-((U n).sh+q)=j-q by omega,huu]
  ·refine⟨t,u,k1,by rw[h1 j (by omega)];exact k2.keep (hkeep _) (fun _ h=>h),?_⟩
   show(ja arr.toList ((U n).sh+q) vs).toArray[(U n).sh+j]?=_
   rw[hget];split
   ·exact k3
   ·rw[ak (by omega)];exact k3
 ·obtain⟨k1,k2,k3,m,k4,k5⟩:=g4 hk;refine⟨k1,?_,k3,m,by rw[hlen];exact k4,k5⟩
  show(ja arr.toList ((U n).sh+q) vs).toArray.size=_
  rw[iA,od hfit',fe,k2]
 ·obtain⟨q1,q2,q3⟩:=bz b hb;exact⟨by simpa[World.setRow]using q1,q2,q3⟩
def vQ(ks:List Ty)(t:Tm)(es:Nat):Nat->Tm->List SC->Option Tm
 |_,L,[]=>some L
 |o,L,c::r=>match D' c with
  |some (ty,x)=>match ks[o]? with
   |some k=>bif Ty.eqB ty k then vQ ks t es (o+1) (.set L t es o x) r else none
   |none=>none
  |none=>none
theorem Ar{ks:List Ty}{t:Tm}{es:Nat}:∀ {cs:List SC} {o:Nat} {L L':Tm},vQ ks t es o L cs=some L'->t.nat*es+o+cs.length<=L.pd.q.length->∀U:Th,L'.pd.q.length=L.pd.q.length/\(∀j,j<t.nat*es+o\/t.nat*es+o+cs.length<=j->L'.pd.q.getD j (.i 0)=L.pd.q.getD j (.i 0))/\
  ∀j c,cs[j]?=some c->∃ty,ks[o+j]?=some ty/\nU ty (L'.pd.q.getD (t.nat*es+o+j) (.i 0))=some (c.val U)
 | [],o,L,L',h,hf,U=>by
  simp only[vQ,ad]at h;subst h;exact⟨rfl,fun j _=>rfl,fun j c hj=>by simp at hj⟩
 |c::r,o,L,L',h,hf,U=>by
  simp only[vQ]at h;split at h
  ·rename_i ty x hc;split at h
   ·rename_i k hk;cases he:Ty.eqB ty k with
    |false=>rw[he]at h;cases h
    |true=>
     rw[he]at h;simp only[aP]at h;have he:=Ty.eqB_eq _ _ he;subst he;have hl:(Tm.set L t es o x).pd.q=L.pd.q.set (t.nat*es+o) (.i x.pd.n):=rfl;simp only[cj]at hf;obtain⟨s1,s2,s3⟩:=Ar h (by rw[hl,dJ];omega) U
     rw[hl,dJ]at s1;refine⟨s1,fun j hj=>?_,fun j c' hj=>?_⟩
     ·simp only[cj]at hj;rw[s2 j (by omega),hl,ae,dF,ak (by omega),<-ae]
     ·cases j with
      |zero=>
       simp only[bn,ad]at hj;subst hj;refine⟨ty,hk,?_⟩;rw[ch,s2 _ (by omega),hl,ae,dF,ab rfl,ab (by omega)]
       exact wJ hc U
      |succ j=>
       rw[bk]at hj;obtain⟨ty',e1,e2⟩:=s3 j c' hj;refine⟨ty',by rw[<-e1];congr 1;omega,?_⟩
       rw[<-e2]
       congr 2
       omega
   ·cases h
  ·cases h
def aez(P:Program)(H:bt)(t:TypeId)(x y:Option SV):Option bt:=match pf P t with
 |some (s,_)=>match x with
  |some (.r (.one c))=>match al3 H c with
   |some (n,u,es,o)=>match Lk H n u es with
    |some (kc,e,ks,L,z)=>match y with
     |some (.r q)=>bif Nat.beq (ff q).length s&&(Nat.blt 0 s&&Nat.ble (o+s) es)then(match vQ ks u es o L (ff q)with
      |some L'=>some (put H n (.row kc es e ks L' z))
      |none=>none)else none
     |_=>none
    |none=>none
   |none=>none
  |_=>none
 |none=>none
theorem alz{t:TypeId}{x y:Operand}(ho:o.op= .store t x y)(h:aez P H t (ev x) (ev y)=some H')(hm:b9 U (get H) w)(hl:ga f (get H))(ha:kA U f ev V o):bB P o V U H f w .undef H' f:=by
 unfold aez at h;split at h
 ·rename_i s b hs;split at h
  ·rename_i c hx;split at h
   ·rename_i n u es off hrp;split at h
    ·rename_i kc e ks L z hr;split at h
     ·rename_i q hy;cases hc:(Nat.beq (ff q).length s&&(Nat.blt 0 s&&Nat.ble (off+s) es))with
      |false=>rw[hc]at h;cases h
      |true=>
       rw[hc]at h;simp only[aP]at h;simp only[ah]at hc;obtain⟨c1,c2,c3⟩:=hc;have c1:=af c1;rw[bT]at c2;have c3:=bY c3;split at h
       ·rename_i L' hset;simp only[ad]at h;subst h;have hx:=ha x (by simp[ho,Op.operands]) _ hx
        have hy:=ha y (by simp[ho,Op.operands]) _ hy
        obtain⟨y',hy',hv,hb,_,hes,hlt,_⟩:=vT hr hm;have hfit:u.nat*es+off+(ff q).length<=L.pd.q.length:=by
         have:=acD (m:=0) hlt hes (show off+s-1<es by omega)
         omega
        obtain⟨s1,s2,s3⟩:=Ar hset hfit U;obtain⟨w',hrun,hst⟩:=ai5 (P:=P) (q:=u.nat*es+off) (vs:=(ff q).map (SC.val U)) hm hl hy' hv (by rw[bO];omega) (by rw[bO];exact hfit) s1 (by rw[bO];exact s2) (fun j uu hj=>by
         rw[aM]at hj;obtain⟨cc,hcc,rfl⟩:=cA.1 hj;obtain⟨ty,e1,e2⟩:=s3 j cc hcc;refine⟨ty,?_,.of e2⟩;have:j<(ff q).length:=(av.1 hcc).1;rw[cT,Yf (by omega)]
         exact e1)
        refine⟨U,w',.inr ⟨?_,rfl⟩,hst,rfl⟩;have hcl:(q.val U).cells=((ff q).map (SC.val U)).toArray:=ko q;have e1:V x= .pointer (some (U.addr n (u.nat*es+off))):=hx.1.trans (Du hrp U).1;have e2:V y=q.val U:=hy.1;simp[execOp,ho,e1,e2,Instr.storeAt,Instr.sureAddr,storeVar,hcl,c1,(iQ hs w).2,hrun]
       ·cases h
     ·cases h
    ·cases h
   ·cases h
  ·cases h
 ·cases h
def aqx(P:Program)(t:TypeId)(x y:Option SV)(f:Nat)(H:bt):Option (SV×bt×Nat):=match x with
 |some (.r (.one a))=>match y with
  |some (.r (.one b))=>match iu a with
   |some (_,l)=>match iu b with
    |some (_,c)=>match P.underlying t with
     |some (.slice elem)=>match P.info? elem with
      |some i=>match o9 P elem with
       |some [z]=>match D' z with
        |some (ty,x)=>bif Nat.beq i.size 1&&(nn l&&(oX l c&&(oX c (.lit 1000000)&&Nat.ble i.bytes 1024)))then some (.c (.osl f 1 (.lit 0) (B_ (.rep l x) 1)),(f,.row true 1 elem [ty] (.rep l x) .no)::H,f+1)else none
        |none=>none
       |_=>none
      |none=>none
     |_=>none
    |none=>none
   |none=>none
  |_=>none
 |_=>none
theorem aqw{t:TypeId}{x y:Operand}(ho:o.op= .makeSlice t x y)(h:aqx P t (ev x) (ev y) f H=some (v,H',f'))(hm:b9 U (get H) w)(hl:ga f (get H))(ha:kA U f ev V o):bB P o V U H f w v H' f':=by
 unfold aqx at h;split at h
 ·rename_i a hx;split at h
  ·rename_i b hy;have hx:=(ha x (by simp[ho,Op.operands]) _ hx).1
   have hy:=(ha y (by simp[ho,Op.operands]) _ hy).1
   split at h
   ·rename_i k l hk;split at h
    ·rename_i k' c hk';have ex:V x= .int k l.den:=hx.trans (dE hk U);have ey:V y= .int k' c.den:=hy.trans (dE hk' U);split at h
     ·rename_i elem hu;split at h
      ·rename_i i hi;split at h
       ·rename_i z hz;split at h
        ·rename_i ty xx hnc;cases hc:(Nat.beq i.size 1&&(nn l&&(oX l c&&(oX c (.lit 1000000)&&Nat.ble i.bytes 1024))))with
         |false=>rw[hc]at h;cases h
         |true=>
          rw[hc]at h;simp only[aP,ad,aA]at h;obtain⟨rfl,rfl,rfl⟩:=h;simp only[ah]at hc;obtain⟨c1,c2,c3,c4,c5⟩:=hc;have c1:=af c1;have d1:=lj c2;have d2:=gj c3;have d3:c.den<=1000000:=gj c4;have c5:=bY c5;obtain⟨zv,z1,z2,z3⟩:=jz hz;have hzero:i.zero=some zv:=by
           have:=z1 w;simp only[zeroValue,typeInfo,Sem.run_bind,run_program,Result.andThen_ok,hi,Sem.run_pure]at this;cases hq:i.zero with
           |none=>rw[hq]at this;simp at this
           |some q=>rw[hq]at this;simp at this;rw[this]
          have hbytes:(i.bytes:Int)*c.den<=281474976710656:=by
           have:(i.bytes:Int)*c.den<=1024*1000000:=iW (by omega) d3 (by omega) (by omega)
           omega
          have hr:=run_make (P:=P) w t elem i zv hu hi hzero k k' l.den c.den d1 d2 hbytes (by omega)
          rw[c1,ed]at hr;have hzc:zv.cells= #[z.val U]:=by rw[z2 U];rfl
          have hlst:(Tm.rep l xx).pd.q=List.replicate l.nat (.i xx.pd.n):=rfl;have hln:(B_ (.rep l xx) 1).nat=l.nat:=by
           show(B_ (.rep l xx) 1).den.toNat=_
           rw[oh,hlst,cR,lL];exact au _
          have hlc:l.nat<=c.nat:=Int.toNat_le_toNat d2;have hblk:ek (hU U f ⟨w.heap.size,0,c.nat,xd⟩) (w.alloc (.cells (madeCells zv.cells c.nat) elem)) f (.row true 1 elem [ty] (.rep l xx) .no):=by
           refine⟨.inr ⟨by rw[bK];rfl,_,by rw[bK];exact sx w _,fun j hj=>?_,fun _=>?_⟩,.no⟩
           ·rw[hlst,cR]at hj;refine⟨ty,z.val U,by rw[gn];rfl,?_,?_⟩
            ·rw[hlst,ae,dh,ab hj];exact .of (wJ hnc U)
            ·rw[bK]
             show(madeCells zv.cells c.nat)[0+j]?=_
             rw[bR,hzc];unfold madeCells;have:j<c.nat:=by omega
             simp[this,gn]
           ·rw[bK];refine⟨rfl,by rw[size_madeCells,ed],mB (by show c.den.toNat<=_;omega),l.nat,by rw[hlst,cR,ed],hlc⟩
          refine⟨_,_,.inl ?_,rQ hm hl _ ⟨w.heap.size,0,c.nat,xd⟩ rfl _ hblk rfl (fun _ h=>h),by simp[SV.ltB,SR.ltB,SC.ltB]⟩
          have e3:SV.val (hU U f ⟨w.heap.size,0,c.nat,xd⟩) (.c (.osl f 1 (.lit 0) (B_ (.rep l xx) 1)))= .slice (some ⟨w.heap.size,0,none⟩) l.nat c.nat:=by
           show fA (Th.row _ f) 0 (B_ (.rep l xx) 1).nat 1=_
           simp only[Th.row,bK,xd,cD,fA,Th.addr,hln,dc,dX,bR,de];split <;>simp[Addr.add]
          rw[e3];have e4:c.den.toNat=c.nat:=rfl;have e5:l.den.toNat=l.nat:=rfl;rw[e4,e5]at hr;simp[execOp,ho,ex,ey,hr]
        ·cases h
       ·cases h
      ·cases h
     ·cases h
    ·cases h
   ·cases h
  ·cases h
 ·cases h
def Hh(x:Option (Option SV))(d:Tm):Option Tm:=match x with
 |none=>some d
 |some (some (.r (.one c)))=>match iu c with
  |some (_,t)=>some t
  |none=>none
 |_=>none
def aeH(P:Program)(t:TypeId)(H:bt)(x:Option SV)(lo hi:Option (Option SV)):Option SV:=match P.underlying t with
 |some (.slice elem)=>match P.info? elem with
  |some e=>match Hh lo (.lit 0)with
   |some a=>match x with
    |some (.r (.one (.dat n p)))=>match E1 H n p with
     |some (ts,M)=>match Hh hi (.ln M ts.length)with
      |some b=>bif Nat.beq ts.length e.size&&(nn a&&(oX a b&&oX b (.ln M ts.length)))then some (.c (.dat n (.cut p a b ts.length)))else none
      |none=>none
     |none=>none
    |some (.r (.one (.osl n es (.lit 0) h)))=>match pz H n es (.lit 0) h with
     |some _=>match Hh hi h with
      |some b=>bif Nat.beq es e.size&&(nn a&&(oX a b&&oX b h))then some (.c (.osl n es a b))else none
      |none=>none
     |none=>none
    |_=>none
   |none=>none
  |none=>none
 |_=>none
theorem uJ{x:Option Operand}{d a:Tm}(h:Hh (x.map ev) d=some a)(hn:0<=a.den)(ha:∀y∈x.toList,∀s,ev y=some s->V y=s.val U/\s.ltB f=true):
  (x=none/\a=d)\/∃y k,x=some y/\V y= .int k (a.nat:Int):=by
 cases x with
 |none=>simp only[Option.map_none,Hh,ad]at h;exact .inl ⟨rfl,h.symm⟩
 |some y=>
  right
  simp only[de]at h;unfold Hh at h;split at h
  ·rename_i he;cases he
  ·rename_i c he;simp only[ad]at he;split at h
   ·rename_i k t hk;simp only[ad]at h;subst h;have:=(ha y (by simp) _ he).1
    refine⟨y,k,rfl,?_⟩;rw[this,jY hn];exact dE hk U
   ·cases h
  ·cases h
theorem alF{t:TypeId}{x:Operand}{lo hi:Option Operand}(ho:o.op= .slice t x lo hi none)(h:aeH P t H (ev x) (lo.map ev) (hi.map ev)=some v)(hm:b9 U (get H) w)(hl:ga f (get H))(ha:kA U f ev V o):bB P o V U H f w v H f:=by
 have hlo:∀y∈lo.toList,∀s,ev y=some s->V y=s.val U/\s.ltB f=true:=fun y hy=>ha y (by simp[ho,Op.operands];simp at hy;simp[hy])
 have hhi:∀y∈hi.toList,∀s,ev y=some s->V y=s.val U/\s.ltB f=true:=fun y hy=>ha y (by simp[ho,Op.operands];simp at hy;simp[hy])
 have run:∀ (elem:TypeId) (e:TypeInfo) (A:Option Addr) (m c:Nat) (a b:Nat),P.underlying t=some (.slice elem)->P.info? elem=some e->V x= .slice A m c->a<=b->b<=c->
   ((lo=none/\a=0)\/∃y k,lo=some y/\V y= .int k (a:Int))->((hi=none/\b=m)\/∃y k,hi=some y/\V y= .int k (b:Int))->
   (execOp V o).run P w= .ok (.value (fA (V x) a b e.size)) w:=fun elem e A m c a b hu he hx hab hbc b1 b2=>by
  have hb:=P5 (P:=P) (w:=w) (isSlice:=true) (len:=m) (cap:=c) b1 b2 hab hbc;rw[hx];simp[execOp,ho,hx,Instr.sliceAt,Instr.slice,run_underlying hu,sizeOf,typeInfo,he];rw[hb];rfl
 unfold aeH at h;split at h
 ·rename_i elem hu;split at h
  ·rename_i e he;split at h
   ·rename_i a hba;split at h
    ·rename_i n p hx;have hx:=ha x (by simp[ho,Op.operands]) _ hx
     split at h
     ·rename_i ts M hd;split at h
      ·rename_i b hbb;cases hc:(Nat.beq ts.length e.size&&(nn a&&(oX a b&&oX b (.ln M ts.length))))with
       |false=>rw[hc]at h;cases h
       |true=>
        rw[hc]at h;cases h;simp only[ah]at hc;obtain⟨c1,c2,c3,c4⟩:=hc;have c1:=af c1;have d1:=lj c2;have d2:=gj c3;have d3:=gj c4;rw[Gx]at d3;have n1:=jY d1;have n2:=jY (show 0<=b.den by omega)
        obtain⟨tys,L,_,hr,hp⟩:=mQ hd hm;obtain⟨A,m,c,hv,_,_,hmc,_,hdiv⟩:=hr.len hp;have ex:V x= .slice A m c:=hx.1.trans (by show xY _=_;rw[hv];rfl)
        have b1:=uJ (V:=V) (U:=U) (f:=f) hba d1 hlo;have b2:=uJ (V:=V) (U:=U) (f:=f) hbb (by omega) hhi
        have hrun:=run elem e A m c a.nat b.nat hu he ex (by omega) (by omega) (b1.imp (fun h=>⟨h.1,by rw[h.2];rfl⟩) id) (b2.imp (fun h=>⟨h.1,by
         rw[h.2,<-hdiv];exact au _⟩) id)
        refine bB.same hm hl ?_ hx.2;rw[hrun,ex,<-c1]
        show _=Result.ok (Next.value (xY (fA (p.vt (U n).x.t).v a.nat b.nat ts.length))) w
        rw[hv];rfl
      ·cases h
     ·cases h
    ·rename_i n es h0 hx;have hx:=ha x (by simp[ho,Op.operands]) _ hx
     split at h
     ·rename_i r hr;split at h
      ·rename_i b hbb;cases hc:(Nat.beq es e.size&&(nn a&&(oX a b&&oX b h0)))with
       |false=>rw[hc]at h;cases h
       |true=>
        rw[hc]at h;cases h;simp only[ah]at hc;obtain⟨c1,c2,c3,c4⟩:=hc;have c1:=af c1;subst c1;have d1:=lj c2;have d2:=gj c3;have d3:=gj c4;have n1:=jY d1;have n2:=jY (show 0<=b.den by omega)
        have O:=my (e:=r.1) (ks:=r.2.1) (L:=r.2.2.1) (z:=r.2.2.2) hr hm;have o2:=O.ohi;have b1:=uJ (V:=V) (U:=U) (f:=f) hba d1 hlo;have b2:=uJ (V:=V) (U:=U) (f:=f) hbb (by omega) hhi
        have hcap:∃A k,V x= .slice A h0.nat k/\b.nat<=k/\fA (V x) a.nat b.nat e.size=fA (U.row n) a.nat b.nat e.size:=by
         have ex:V x=fA (U.row n) 0 h0.nat e.size:=hx.1
         by_cases hz:h0.nat=0
         ·have hbz:b.nat=0:=by omega
          have haz:a.nat=0:=by omega
          have hform:∃A k,U.row n= .slice A 0 k:=by unfold Th.row;cases(U n).x.nl<;>exact⟨_,_,rfl⟩
          obtain⟨A,k,hf⟩:=hform;rw[ex,hf,hbz,haz,hz];refine⟨_,_,rfl,ec _,?_⟩;simp only[fA,dX,dc];cases A with
          |none=>simp
          |some A=>simp[Addr.add]
         ·obtain⟨k1,k2,k3,k4⟩:=O.val (by show 0<_;omega)
          have hrow:U.row n= .slice (some (U.addr n 0)) 0 (U n).cap:=by simp only[Th.row,k1,cD]
          refine⟨_,_,hx.1.trans k4,by show _<=(U n).cap-0;omega,?_⟩
          rw[ex,hrow];simp only[fA,dX,dc,de];have:(if(U n).cap=0 then some (U.addr n 0)else some ((U.addr n 0).add 0))=some (U.addr n 0):=by split <;>simp[Addr.add]
          rw[this];rfl
        obtain⟨A,k,ex,hbk,hcut⟩:=hcap;have hrun:=run elem e A h0.nat k a.nat b.nat hu he ex (by omega) hbk (b1.imp (fun h=>⟨h.1,by rw[h.2];rfl⟩) id) (b2.imp (fun h=>⟨h.1,by rw[h.2]⟩) id)
        refine bB.same hm hl ?_ hx.2;rw[hrun,hcut];rfl
      ·cases h
     ·cases h
    ·cases h
   ·cases h
  ·cases h
 ·cases h
end
end
section
variable [Sy][Fa][fN]
section
variable {P:Program}{o:Oper}{V:Operand->Value}{ev:Operand->Option SV}{U:Th}{H H':bt}{f f':Nat}{w:World}{v:SV}
theorem Qc(t ty e:TypeId)(i:TypeInfo)(z:Value)(ht:P.underlying t=some (.slice e))(hi:P.info? e=some i)(hz:i.zero=some z)(hzs:z.cells.size=i.size)(hsz:0<i.size)
  (v:Value) (n:Nat) (xs:List Value) (hown:w.ownsRow 0 e i.size v n xs) (A:Option Addr) (m c:Nat) (hA:A=none->m=0) (news:List Value) (hl:news.length=m*i.size)
  (hnews:∀a,A=some a->∀j u,news[j]?=some u->w.cell? (a.add j)=some u) (h1:∀u∈news,u.oneCell'=true) (h63:n+m<=maxLen) (hbytes:(n+m)*i.bytes<=140737488355328):
  ∃v' w',(Builtin.append_ #[t,t] ty #[v,.slice A m c]).run P w= .ok v' w'/\w'.ownsRow 0 e i.size v' (n+m) (xs++news)/\w.grownBy w' v.ownBlock/\(v'.ownBlock=v.ownBlock\/v'.ownBlock=some w.heap.size):=by
 cases A with
 |some a=>obtain⟨v',w',h1,h2,h3,_,h5⟩:=run_append_own_at (P:=P) w 0 t ty e i z i.size i.bytes ht hi hz rfl rfl hzs hsz v n xs hown a m c news hl (hnews a rfl) h1 h63 hbytes (ec _);exact⟨v',w',h1,h2,h3,h5⟩
 |none=>
  have hm:=hA rfl;subst hm;have hn:news=[]:=by rw[dc]at hl;exact dx hl
  subst hn;refine⟨v,w,?_,by rw[ch,List.append_nil];exact hown,⟨rfl,rfl,rfl,bD _,fun _ _ _=>rfl⟩,.inl rfl⟩
  obtain⟨_,hv⟩:=hown;rcases hv with⟨rfl,rfl⟩|⟨g,cap,cur,rfl,_,_,hcap,_⟩
  ·simp[Builtin.append_,run_underlying ht,sizeOf,typeInfo,hi,Builtin.lenOf,Builtin.firstCells]
  ·simp[Builtin.append_,run_underlying ht,sizeOf,typeInfo,hi,Builtin.lenOf,Builtin.firstCells,storeCells,hcap]
def akl(L hi:Tm)(es:Nat):Tm:=bif Tm.eqB hi (B_ L es)then L else .cut L (.lit 0) hi es
theorem UR{L hi:Tm}{es m:Nat}(hm:L.pd.q.length=m*es)(hp:0<es):(akl L hi es).pd.q=L.pd.q.take (hi.nat*es):=by
 unfold akl;cases hc:Tm.eqB hi (B_ L es)with
 |true=>
  have e:=Tm.eqB_eq hc;have:hi.nat=m:=by
   show hi.den.toNat=m
   rw[e,oh,hm,dQ _ hp];exact au _
  rw[this,<-hm,ez];rfl
 |false=>
  show((L.pd.q.take (hi.pd.n.toNat*es)).drop ((Tm.lit 0).pd.n.toNat*es))=_
  rw[show(Tm.lit 0).pd.n.toNat=0 from rfl,dc,eO]
  rfl
theorem Ku{es es':Nat}{e' e2:TypeId}{cs:List SC}{kc:Bool}{ks:List Ty}{M:Tm}{z:RZ}(hv:gh es (.cells es' e' cs)=some (kc,e2,ks,M,z)):∃tys,nh cs .nil=some (tys,M)/\e'=e2:=by
 simp only[gh]at hv;split at hv
 ·rename_i tys N hnc;cases hc:(Nat.blt 0 es&&(Nat.beq (cs.length%es) 0&&(per es (tys.take es) 0 tys&&(Nat.beq es' 0||Nat.beq es' es))))with
  |false=>rw[hc]at hv;cases hv
  |true=>rw[hc]at hv;simp only[aP,ad,aA]at hv;obtain⟨_,h1,_,rfl,_⟩:=hv;exact⟨tys,hnc,h1⟩
 ·cases hv
def avD(H:bt)(es:Nat)(e:TypeId)(s:Option SV):Option (Tm×Tm×Option Nat×Option (List Ty)×RZ):=match s with
 |some (.r (.one .nils))=>some (.lit 0,.nil,none,none,.no)
 |some (.r (.one (.osl n es' (.lit 0) hi)))=>match pz H n es' (.lit 0) hi with
  |some (e',ks,L,z)=>bif Nat.beq es' es&&Nat.beq e' e then some (hi,akl L hi es,some n,some ks,z)else none
  |none=>none
 |some (.r (.one (.slice n 0 l 0)))=>match get H n with
  |some (.cells es' e' cs)=>match gh es (.cells es' e' cs)with
   |some (kc,_,ks,L,z)=>bif Nat.beq es' es&&(Nat.beq e' e&&(Nat.beq cs.length (l*es)&&kc))then some (.lit l,L,some n,(match cs with| []=>none|_=>some ks),z)else none
   |none=>none
  |_=>none
 |_=>none
structure aJc(U:Th)(H:bt)(w:World)(es:Nat)(e:TypeId)(s:Value)(len L:Tm)(on:Option Nat)(ks:Option (List Ty))(z:RZ):Prop where
 ln0:(len.nat:Int)=len.den
 own:∃vs:List Value,w.ownsRow 0 e es s len.nat vs/\vs.length=len.nat*es/\L.pd.q.length=len.nat*es/\∀j,j<len.nat*es->∃kl t u,ks=some kl/\kl[j%es]?=some t/\gV w (cu U z) t (L.pd.q.getD j (.i 0)) u/\vs[j]?=some u
 blk:∀b,s.ownBlock=some b->∃n x,on=some n/\get H n=some x/\gG U n x/\(U n).b=b
 dead:∀n x,on=some n->get H n=some x->gG U n x->s.ownBlock=some (U n).b
 zb:∀b,cu U z b->b<w.heap.size/\(z.fr=true->IR b)/\s.ownBlock≠some b/\∃n x,on=some n/\get H n=some x/\Zb U n x b
theorem aju{es:Nat}{e:TypeId}{s:Operand}{len L:Tm}{on:Option Nat}{ks:Option (List Ty)}{z:RZ}(h:avD H es e (ev s)=some (len,L,on,ks,z))(hes:0<es)(hm:b9 U (get H) w)(ha:∀u,ev s=some u->V s=u.val U):aJc U H w es e (V s) len L on ks z:=by
 unfold avD at h;split at h
 ·rename_i hs;simp only[ad,aA]at h;obtain⟨rfl,rfl,rfl,rfl,rfl⟩:=h;have hs:V s= .slice none 0 0:=ha _ hs;refine⟨rfl,⟨[],by rw[hs];exact World.ownsRow_nil _ _ _ _,by simp[Tm.nat,Tm.pd],by simp[Tm.nat,Tm.pd],fun j hj=>(by simp[Tm.nat,Tm.pd]at hj)⟩,fun b hb=>(by rw[hs]at hb;cases hb),fun n x hn=>(by cases hn),fun b hb=>hb.elim⟩
 ·rename_i n es' hi hs;split at h
  ·rename_i e' ks' M z' hr;cases hc:(Nat.beq es' es&&Nat.beq e' e)with
   |false=>rw[hc]at h;cases h
   |true=>
    rw[hc]at h;simp only[aP,ad,aA]at h;obtain⟨rfl,rfl,rfl,rfl,rfl⟩:=h;rw[ah]at hc;have c1:=af hc.1;have c2:=af hc.2;subst c1;subst c2;have hs:V s=fA (U.row n) 0 hi.nat es':=ha _ hs;have O:=my hr hm;obtain⟨m,hml,hmd⟩:=JZ O.b hes;obtain⟨vs,v1,v2,v3,v4,v5⟩:=ZS O.b hes O.ln;have hle:hi.nat*es'<=M.pd.q.length:=by rw[hml];exact bM _ (by have:=O.ln;omega)
    have hhead:=UR (hi:=hi) hml hes;obtain⟨y,hy,hown,hzb⟩:=O.y;have hown':∀b,(V s).ownBlock=some b->(U n).x.nl=false/\(U n).b=b:=fun b hb=>by
     rw[hs]at hb;cases hnl:(U n).x.nl with
     |true=>rw[v5 hnl]at hb;cases hb
     |false=>rw[v4 hnl]at hb;cases hb;exact⟨rfl,rfl⟩
    refine⟨O.ohi,⟨vs,by rw[hs];exact v1,v2,by rw[hhead,bu];omega,fun j hj=>?_⟩,fun b hb=>?_,fun n' x hn' hx ho=>?_,fun b hb=>?_⟩
    ·obtain⟨t,u,k1,k2,k3⟩:=v3 j hj;refine⟨ks',t,u,rfl,k1,?_,k3⟩;rw[hhead,ae,bX,ab hj,<-ae];exact k2
    ·rw[hs]at hb;cases hnl:(U n).x.nl with
     |true=>rw[v5 hnl]at hb;cases hb
     |false=>rw[v4 hnl]at hb;cases hb;exact⟨n,y,rfl,hy,hown.2 hnl,rfl⟩
    ·cases hn';rw[hy]at hx;cases hx;rw[hs];exact v4 (hown.1 ho)
    ·obtain⟨q1,q2,q3⟩:=O.b.2 b hb;refine⟨q1,q3,fun e=>?_,n,y,rfl,hy,(hzb b).1 hb⟩
     obtain⟨e1,e2⟩:=hown' b e;exact q2 e1 e2.symm
  ·cases h
 ·rename_i n l hs;split at h
  ·rename_i es' e' cs hn;split at h
   ·rename_i kc e2 ks' M z' hv;cases hc:(Nat.beq es' es&&(Nat.beq e' e&&(Nat.beq cs.length (l*es)&&kc)))with
    |false=>rw[hc]at h;cases h
    |true=>
     rw[hc]at h;simp only[aP,ad,aA]at h;obtain⟨rfl,rfl,rfl,rfl,rfl⟩:=h;simp only[ah]at hc;obtain⟨c1,c2,c3,c4⟩:=hc;have c1:=af c1;have c2:=af c2;have c3:=af c3;subst c1;subst c2;subst c4;have hs:V s= .slice (some (U.addr n 0)) l ((U n).cap-0):=ha _ hs;obtain⟨b1,b2,hzb⟩:=yk (hm.ok n _ hn) hv;have hnl:(U n).x.nl=false:=b2.1 trivial;obtain⟨tys,hnc,he2⟩:=Ku hv;subst he2;obtain⟨m,hml,hmd⟩:=JZ b1 hes;have hMl:M.pd.q.length=cs.length:=by obtain⟨_,ds,d1,d2,_⟩:=kI hnc U;rw[d1];simpa[Tm.pd]using d2
     have hl:l=m:=by rw[hMl,c3]at hml;exact Nat.eq_of_mul_eq_mul_right hes hml
     subst hl;obtain⟨vs,v1,v2,v3,v4,v5⟩:=ZS b1 hes (m:=l) (by omega)
     have hcut:fA (U.row n) 0 l es'=V s:=by rw[hs];simp only[Th.row,hnl,cD,fA,dc,dX,de];split <;>simp[Addr.add]
     rw[hcut]at v1 v4 v5;have hnat:(Tm.lit (l:Int)).nat=l:=au l;refine⟨by rw[hnat];rfl,⟨vs,by rw[hnat];exact v1,by rw[hnat];exact v2,by rw[hnat];exact hml,fun j hj=>?_⟩,fun b hb=>?_,fun n' x hn' hx ho=>?_,fun b hb=>((hzb b).1 hb).elim⟩
     ·rw[hnat]at hj;obtain⟨t,u,k1,k2,k3⟩:=v3 j hj;refine⟨ks',t,u,?_,k1,k2,k3⟩;cases cs with
      |nil=>rw[<-c3]at hj;simp at hj
      |cons _ _=>rfl
     ·rw[v4 hnl]at hb;cases hb;exact⟨n,_,rfl,hn,trivial,rfl⟩
     ·cases hn';exact v4 hnl
   ·cases h
  ·cases h
 ·cases h
def wI(L lo hi:Tm)(es:Nat):Tm:=match lo with
 | .lit 0=>akl L hi es
 |_=> .cut L lo hi es
theorem Oh{L lo hi:Tm}{es m:Nat}(hm:L.pd.q.length=m*es)(hp:0<es):(wI L lo hi es).pd.q=(L.pd.q.take (hi.nat*es)).drop (lo.nat*es):=by
 unfold wI;split
 ·rw[UR hm hp,show(Tm.lit 0).nat=0 from rfl,dc,eO]
 ·rfl
def m8:List Ty->Bool
 | []=>true
 | .lst _::_=>false
 |_::r=>m8 r
theorem nq:∀ {l:List Ty},m8 l=true->∀t∈l,∀us,t≠ .lst us
 | [],_,t,ht,_=>by cases ht
 | .lst _::_,h,_,_,_=>by cases h
 | .int k::r,h,t,ht,us=>by
  have h:m8 r=true:=h;rcases aS.1 ht with rfl|ht
  ·simp
  ·exact nq h t ht us
 | .bool::r,h,t,ht,us=>by
  have h:m8 r=true:=h;rcases aS.1 ht with rfl|ht
  ·simp
  ·exact nq h t ht us
def Zz(U:Th)(H:bt)(zs:List Nat)(b:Nat):Prop:=∃n∈zs,∃x,get H n=some x/\Zb U n x b
def ao_(H:bt)(es:Nat)(c:SC):Option (Tm×Tm×List Ty×List Nat):=match c with
 | .dat n p=>match E1 H n p with
  |some (ts,M)=>bif Nat.beq ts.length es then some (.ln M es,M,ts,[n])else none
  |none=>none
 | .osl n es' lo hi=>match pz H n es' lo hi with
  |some (_,ks,L,_)=>bif Nat.beq es' es then some (jW lo hi,wI L lo hi es,ks,[n])else none
  |none=>none
 | .slice m p k d=>match get H m with
  |some (.cells _ _ cm)=>match nT (k*es) (cm.drop p)with
   |some news=>match nh news .nil with
    |some (tys,L)=>bif per es (tys.take es) 0 tys&&Nat.blt 0 k then some (.lit k,L,tys.take es,[])else none
    |none=>none
   |none=>none
  |_=>none
 |_=>none
structure aA8(U:Th)(w:World)(es:Nat)(x:Value)(len M:Tm)(ks:List Ty)(Z:Nat->Prop):Prop where
 ln0:(len.nat:Int)=len.den
 val:∃A c,x= .slice A len.nat c/\(A=none->len.nat=0)/\∃news:List Value,news.length=len.nat*es/\(∀a,A=some a->∀j u,news[j]?=some u->w.cell? (a.add j)=some u)/\(∀u∈news,u.oneCell'=true)/\
  M.pd.q.length=len.nat*es/\∀j u,news[j]?=some u->∃t,ks[j%es]?=some t/\gV w Z t (M.pd.q.getD j (.i 0)) u
theorem S8{z:Nat->Prop}{t:Ty}{x:VT}{d:PD}(h:qX w z t x d)(hf:∀us,t≠ .lst us):nU t d=some x.v:=by
 cases h with
 |int=>rfl
 |bool b us x e=>subst e;rfl
 |nil tys=>exact absurd rfl (hf _)
 |lst tys=>exact absurd rfl (hf _)
theorem R9{a:Addr}(h:a.spot=none)(j:Nat):a.add j=⟨a.block,a.off+j,none⟩:=by have:=Addr.add_mid (b:=a.block) (o:=a.off) (j:=j);rw[<-ky h]at this;exact this
theorem V4{es:Nat}{c:SC}{len M:Tm}{ks:List Ty}{zs:List Nat}(h:ao_ H es c=some (len,M,ks,zs))(hes:0<es)(hm:b9 U (get H) w):aA8 U w es (c.val U) len M ks (Zz U H zs):=by
 unfold ao_ at h;split at h
 ·rename_i n p;split at h
  ·rename_i ts N hd;cases hc:Nat.beq ts.length es with
   |false=>rw[hc]at h;cases h
   |true=>
    rw[hc]at h;simp only[aP,ad,aA]at h;obtain⟨rfl,rfl,rfl,rfl⟩:=h;have c1:=af hc;subst c1;obtain⟨tys,L,⟨fr,hfn⟩,hr,hp⟩:=mQ hd hm;obtain⟨A,m,cc,hv,hl1,hl2,hmc,hnone,hdiv⟩:=hr.len hp;have hnat:(Tm.ln N ts.length).nat=m:=by show Int.toNat ((N.pd.q.length/ts.length:Nat):Int)=m;rw[hdiv];exact au _
    have hx:SC.val U (.dat n p)= .slice A m cc:=by show xY _=_;rw[hv];rfl
    have hcell:∀j,j<m*ts.length->∃ty a,ts[j%ts.length]?=some ty/\A=some a/\a.spot=none/\w.cell? ⟨a.block,a.off+j,none⟩=some ((p.vt (U n).x.t).sub.getD j .no).v/\gV w (Zz U H [n]) ty (N.pd.q.getD j (.i 0)) ((p.vt (U n).x.t).sub.getD j .no).v:=fun j hj=>by
     have hmod:j%ts.length<ts.length:=eN _ hp;have hdl:j/ts.length<N.pd.q.length/ts.length:=by rw[hdiv];exact gp (by rw[bU];exact hj)
     obtain⟨a,m',c',k1,k2,k3,k4,k5,k6⟩:=hr.cell hdl (aj hmod);have hj2:j/ts.length*ts.length+j%ts.length=j:=by rw[bU];exact eP _ _
     rw[hj2]at k5 k6;rw[hv]at k1;simp only[Value.slice.injEq]at k1;exact⟨_,a,aj hmod,k1.1,k2,k5,_,rfl,k6.keep (fun _ _=>rfl) fun b hb=>⟨n,by simp,_,hfn,hb⟩⟩
    refine⟨by rw[hnat,Gx,hdiv],A,cc,by rw[hnat];exact hx,fun e=>by rw[hnat];exact(hnone e).1,(p.vt (U n).x.t).sub.map VT.v,by rw[bO,hnat,hl2,hl1],fun a ha j u hj=>?_,fun u hu=>?_,by rw[hnat,hl1],fun j u hj=>?_⟩
    ·have hjl:j<m*ts.length:=by rw[<-hl1,<-hl2,<-bO (f:=VT.v)];exact(av.1 hj).1
     obtain⟨ty,a',k1,k2,k3,k4,k5⟩:=hcell j hjl;rw[ha]at k2;cases k2;rw[R9 k3,k4];rw[aM]at hj;obtain⟨y,hy,rfl⟩:=cA.1 hj;rw[ae,hy];rfl
    ·obtain⟨j,hj⟩:=dM hu;have hjl:j<m*ts.length:=by rw[<-hl1,<-hl2,<-bO (f:=VT.v)];exact(av.1 hj).1
     obtain⟨ty,a',k1,k2,k3,k4,k5⟩:=hcell j hjl;rw[aM]at hj;obtain⟨y,hy,rfl⟩:=cA.1 hj;rw[ae (l:=(p.vt (U n).x.t).sub),hy]at k5;exact k5.one
    ·have hjl:j<m*ts.length:=by rw[<-hl1,<-hl2,<-bO (f:=VT.v)];exact(av.1 hj).1
     obtain⟨ty,a',k1,k2,k3,k4,k5⟩:=hcell j hjl;rw[aM]at hj;obtain⟨y,hy,rfl⟩:=cA.1 hj;rw[ae (l:=(p.vt (U n).x.t).sub),hy]at k5;exact⟨ty,k1,k5⟩
  ·cases h
 ·rename_i n es' lo hi;split at h
  ·rename_i e ks' L z' hr;cases hc:Nat.beq es' es with
   |false=>rw[hc]at h;cases h
   |true=>
    rw[hc]at h;simp only[aP,ad,aA]at h;obtain⟨rfl,rfl,rfl,rfl⟩:=h;have hc:=af hc;subst hc;have O:=my hr hm;obtain⟨yy,hyy,_,hzb⟩:=O.y;have o1:=O.olo;have o2:=O.ohi;have ole:=O.le;have oln:=O.ln;obtain⟨m,hml,hmd⟩:=JZ O.b hes;have hlen:(jW lo hi).nat=hi.nat-lo.nat:=by
     show(jW lo hi).den.toNat=_
     rw[li];omega
    have hM:=Oh (lo:=lo) (hi:=hi) hml hes;have hle:hi.nat*es'<=m*es':=bM _ (by omega)
    have hle2:lo.nat*es'<=hi.nat*es':=bM _ ole;have hsub:(hi.nat-lo.nat)*es'=hi.nat*es'-lo.nat*es':=Nat.sub_mul _ _ _;have hget:∀j,j<(hi.nat-lo.nat)*es'->((L.pd.q.take (hi.nat*es')).drop (lo.nat*es')).getD j (.i 0)=L.pd.q.getD (lo.nat*es'+j) (.i 0):=fun j hj=>by
     rw[ae,ae,b_,bX,ab (by omega)]
    have hMl:((L.pd.q.take (hi.nat*es')).drop (lo.nat*es')).length=(hi.nat-lo.nat)*es':=by rw[cJ,bu,hml];omega
    have hvals:∃news:List Value,news.length=(hi.nat-lo.nat)*es'/\∀j u,news[j]?=some u->∃t,ks'[j%es']?=some t/\gV w (Zz U H [n]) t (L.pd.q.getD (lo.nat*es'+j) (.i 0)) u/\w.cell? ⟨(U n).b,(U n).sh+(lo.nat*es'+j),none⟩=some u:=by
     have hx:∀j,j<(hi.nat-lo.nat)*es'->∃u,∃t,ks'[j%es']?=some t/\gV w (Zz U H [n]) t (L.pd.q.getD (lo.nat*es'+j) (.i 0)) u/\w.cell? ⟨(U n).b,(U n).sh+(lo.nat*es'+j),none⟩=some u:=fun j hj=>by
      obtain⟨_,t,u,k1,k2,k3⟩:=rY O.b (j:=lo.nat*es'+j) (by rw[hml];omega)
      refine⟨u,t,?_,k2.keep (fun _ _=>rfl) (fun b hb=>⟨n,by simp,yy,hyy,(hzb b).1 hb⟩),k3⟩
      rw[bU lo.nat,gE]at k1;exact k1
     have:∀k,k<=(hi.nat-lo.nat)*es'->∃news:List Value,news.length=k/\∀j u,news[j]?=some u->∃t,ks'[j%es']?=some t/\gV w (Zz U H [n]) t (L.pd.q.getD (lo.nat*es'+j) (.i 0)) u/\w.cell? ⟨(U n).b,(U n).sh+(lo.nat*es'+j),none⟩=some u:=by
      intro k
      induction k with
      |zero=>exact fun _=>⟨[],rfl,fun j u hj=>by simp at hj⟩
      |succ k ih=>
       intro hk;obtain⟨l,l1,l2⟩:=ih (by omega)
       obtain⟨u,hu⟩:=hx k (by omega)
       refine⟨l++[u],by simp[l1],fun j u' hj=>?_⟩
       rw[gq]at hj;split at hj
       ·exact l2 j u' hj
       ·have:j=k:=by
         have:=(av.1 hj).1;simp at this;omega
        subst this;rw[l1,kp]at hj;simp only[bn,ad]at hj;subst hj;exact hu
     exact this _ (bD _)
    obtain⟨news,nl,nc⟩:=hvals;have hform:∃A c,SC.val U (.osl n es' lo hi)= .slice A (hi.nat-lo.nat) c/\(A=none->hi.nat-lo.nat=0)/\∀a,A=some a->0<hi.nat-lo.nat->a=⟨(U n).b,(U n).sh+lo.nat*es',none⟩:=by
     by_cases hz:lo.nat<hi.nat
     ·obtain⟨k1,k2,k3,k4⟩:=O.val hz;exact⟨_,_,k4,fun e=>(by cases e),fun a ha _=>(by cases ha;rfl)⟩
     ·have:hi.nat-lo.nat=0:=by omega
      have hrow:∃A k,U.row n= .slice A 0 k:=by unfold Th.row;cases(U n).x.nl<;>exact⟨_,_,rfl⟩
      obtain⟨A,k,hf⟩:=hrow;refine⟨if k=lo.nat then A else A.map (·.add (lo.nat*es')),k-lo.nat,?_,fun _=>this,fun a _ hp=>(by omega)⟩
      show fA (U.row n) _ _ _=_
      rw[hf];rfl
    obtain⟨A,c,f1,f2,f3⟩:=hform;refine⟨by rw[hlen,li];omega,A,c,by rw[hlen];exact f1,by rw[hlen];exact f2,news,by rw[hlen];exact nl,fun a ha j u hj=>?_,fun u hu=>?_,by rw[hlen,hM];exact hMl,fun j u hj=>?_⟩
    ·obtain⟨t,_,_,k3⟩:=nc j u hj;have hp:0<hi.nat-lo.nat:=by
      have:=(av.1 hj).1;rw[nl]at this;rcases dR (hi.nat-lo.nat)with h0|h0
      ·rw[h0]at this;simp at this
      ·exact h0
     rw[f3 a ha hp,Addr.add_mid,<-k3]
     congr 2
     omega
    ·obtain⟨j,hj⟩:=dM hu;obtain⟨t,_,k2,_⟩:=nc j u hj;exact k2.one
    ·obtain⟨t,k1,k2,_⟩:=nc j u hj;have hjl:j<(hi.nat-lo.nat)*es':=by rw[<-nl];exact(av.1 hj).1
     exact⟨t,k1,by rw[hM,hget j hjl];exact k2⟩
  ·cases h
 ·rename_i m p k d;split at h
  ·rename_i es2 e2 cm hcm;split at h
   ·rename_i news hnews;split at h
    ·rename_i tys L hnc;cases hc:(per es (tys.take es) 0 tys&&Nat.blt 0 k)with
     |false=>rw[hc]at h;cases h
     |true=>
      rw[hc]at h;simp only[aP,ad,aA]at h;obtain⟨rfl,rfl,rfl,rfl⟩:=h;rw[ah]at hc;obtain⟨t1,t2⟩:=g9 hnews;obtain⟨s1,ds,s2,s3,s4⟩:=kI hnc U;have s2:L.pd.q=ds:=by rw[s2];rfl
      have hnat:(Tm.lit (k:Int)).nat=k:=au k;refine⟨by rw[hnat];rfl,some (U.addr m p),(U m).cap-d,by rw[hnat];rfl,fun e=>(by cases e),news.map (SC.val U),by rw[bO,hnat,t2],fun a ha j u hj=>?_,fun u hu=>?_,by rw[hnat,s2,s3,t2],fun j u hj=>?_⟩
      ·cases ha;rw[aM]at hj;obtain⟨q,hq,rfl⟩:=cA.1 hj;have:=md hnews j q hq;rw[b_]at this;have h3:=pX hm hcm (p+j) q this;rw[iw];exact h3
      ·obtain⟨q,_,rfl⟩:=eH.1 hu;exact SC.one q
      ·rw[aM]at hj;obtain⟨q,hq,rfl⟩:=cA.1 hj;obtain⟨ty,e1,e2⟩:=s4 j q hq;have:=Od hc.1 j ty e1;rw[bR]at this;exact⟨ty,this,by rw[s2];exact .of e2⟩
    ·cases h
   ·cases h
  ·cases h
 ·cases h
def aiz(old:Option (List Ty))(ks:List Ty):Bool:=match old with
 |none=>true
 |some l=>Ty.eqAll l ks
def Yu(P:Program)(ts:List TypeId)(xs:List (Option SV))(f:Nat)(H:bt):Option (SV×bt×Nat):=match ts with
 | [t,t']=>bif Nat.beq t t' then(match xs with
  | [s,some (.r (.one c))]=>match P.underlying t with
   |some (.slice e)=>match P.info? e with
    |some i=>match o9 P e with
     |some z=>match avD H i.size e s with
      |some (len,L,on,ks0,_)=>match ao_ H i.size c with
       |some (m,M,ks,_)=>bif (Nat.beq z.length i.size&&m8 ks)&&(Nat.blt 0 i.size&&(Nat.ble i.bytes 1024&&(aiz ks0 ks&&oX (.pl len m) (.lit 1000000))))then
         some (.c (.osl f i.size (.lit 0) (.ln (.cat L M) i.size)),(f,.row true i.size e ks (.cat L M) .no)::xM H on,f+1)else none
       |none=>none
      |none=>none
     |none=>none
    |none=>none
   |_=>none
  |_=>none)else none
 |_=>none
theorem ao9{U:Th}{H H2:bt}{f:Nat}{w w':World}(hm:b9 U (get H) w)(hl:ga f (get H))(h1:∀m y,get H2 m=some y->get H m=some y)(L:VP)(x:SB)(hno:¬gG (hU U f L) f x)(hz:∀b,¬Zb (hU U f L) f x b)(hb:ek (hU U f L) w' f x)(hx:x.ltB f=true)
  (hs:∀b,b<w.heap.size->w'.heap[b]?=w.heap[b]?) (sz:w.heap.size<=w'.heap.size) (os:w'.os=w.os) (tape:w'.tape=w.tape) (output:w'.output=w.output):
  dA U (get H) f w (hU U f L) (get ((f,x)::H2)) (f+1) w':=by
 have hold:∀m y,get H2 m=some y->m<f:=fun m y h=>(hl m y (h1 m y h)).1
 have hu:∀m y,get H2 m=some y->hU U f L m=U m:=fun m y h=>e9 (hold m y h)
 refine dA.of hm.far (fun n y hn=>?_) (fun n m y z b hn hz' hne o u=>?_) (fun n y hn=>?_) (by omega) (fun n hn=>e9 hn) (fun b hbl hno=>hs b hbl) sz os tape output (fun n y hn o=>?_) (fun n y b hn o=>?_)
 ·rw[di]at hn;split at hn
  ·rename_i he;subst he;cases hn;exact hb
  ·have hg:=h1 n y hn;exact(hm.ok n y hg).keep (hl n y hg).1 (hl n y hg).2 (fun k hk=>e9 hk) (fun b hb'=>hs _ ((hm.ok n y hg).uses_lt hb')) sz
 ·rw[di]at hn hz';split at hn
  ·rename_i he;subst he;cases hn;exact absurd o hno
  ·rename_i he;rw[gG.ext (hu n y hn)]at o;rw[hu n y hn];split at hz'
   ·rename_i he';subst he';cases hz';rcases u with⟨u,_⟩|u
    ·exact absurd u hno
    ·exact absurd u (hz b)
   ·rw[fc.ext (hl m z (h1 m z hz')) (fun k hk=>e9 hk)]at u
    exact hm.inj n m y z b (h1 n y hn) (h1 m z hz') hne o u
 ·rw[di]at hn;split at hn
  ·rename_i he;subst he;cases hn;exact⟨by omega,SB.ltB_le hx (by omega)⟩
  ·have:=hl n y (h1 n y hn);exact⟨by omega,SB.ltB_le this.2 (by omega)⟩
 ·rw[di]at hn;split at hn
  ·rename_i he;subst he;cases hn;exact absurd o hno
  ·rw[gG.ext (hu n y hn)]at o;rw[hu n y hn];exact .inl ⟨n,y,h1 n y hn,o,rfl⟩
 ·rw[di]at hn;split at hn
  ·rename_i he;subst he;cases hn;exact absurd o (hz b)
  ·rw[Zb.ext (hl n y (h1 n y hn)) (fun k hk=>e9 hk)]at o
   exact .inl ⟨n,y,h1 n y hn,.inr o⟩
theorem Kx{c:Call}{a b:Option SV}(hab:c.args.toList.map ev=[a,b]):∃x y,c.args.toList=[x,y]/\ev x=a/\ev y=b:=by
 cases hq:c.args.toList with
 |nil=>rw[hq]at hab;simp at hab
 |cons x r=>
  rw[hq]at hab;cases r with
  |nil=>simp at hab
  |cons y r=>
   cases r with
   |nil=>simp at hab;exact⟨x,y,rfl,hab.1,hab.2⟩
   |cons z r=>simp at hab
theorem ahz{c:Call}(ho:o.op= .call c)(hc:c.callee= .builtin .append)(h:Yu P c.argTypes.toList (c.args.toList.map ev) f H=some (v,H',f'))(hm:b9 U (get H) w)(hl:ga f (get H))(ha:kA U f ev V o):bB P o V U H f w v H' f':=by
 obtain⟨cs,he⟩:=fO (V:=V) ho hc;have hA:∀x∈c.args.toList,∀s,ev x=some s->V x=s.val U/\s.ltB f=true:=fun x hx=>ha x (by simp only[ho,Op.operands,Call.operands,hc];simpa using hx)
 unfold Yu at h;split at h
 ·rename_i t t' hts;cases htt:Nat.beq t t' with
  |false=>rw[htt]at h;cases h
  |true=>
   rw[htt]at h;simp only[aP]at h;have htt:=af htt;subst htt;have hta:c.argTypes= #[t,t]:=by apply Array.ext';exact hts
   split at h
   ·rename_i s cc hxs;obtain⟨x,y,hargs,hx,hy⟩:=Kx hxs;rw[hargs]at hA;have hy:=hA y (by simp) _ hy
    split at h
    ·rename_i e hu;split at h
     ·rename_i i hi;split at h
      ·rename_i z hz;split at h
       ·rename_i len L on ks0 oz hold;split at h
        ·rename_i m M ks zs hsrc;cases hcc:((Nat.beq z.length i.size&&m8 ks)&&(Nat.blt 0 i.size&&(Nat.ble i.bytes 1024&&(aiz ks0 ks&&oX (.pl len m) (.lit 1000000)))))with
         |false=>rw[hcc]at h;cases h
         |true=>
          rw[hcc]at h;simp only[aP,ad,aA]at h;obtain⟨rfl,rfl,rfl⟩:=h;simp only[ah]at hcc;obtain⟨⟨c1,cfl⟩,c2,c3,c4,c5⟩:=hcc;have c1:=af c1;rw[bT]at c2;have c3:=bY c3;have c5:=gj c5;rw[<-hx]at hold;have O:=aju (V:=V) hold c2 hm (fun u hu=>(hA x (by simp) u hu).1)
          have S:=V4 hsrc c2 hm;have hyv:V y=cc.val U:=hy.1;rw[<-hyv]at S;obtain⟨vs,v1,v2,v3,v4⟩:=O.own;obtain⟨A,ccap,y1,y2,news,n1,n2,n3,n4,n5⟩:=S.val;have hsum:len.nat+m.nat<=1000000:=by have h1:=O.ln0;have h2:=S.ln0;have h3:len.den+m.den<=1000000:=c5;omega
          obtain⟨zv,z1,z2,z3⟩:=jz hz;have hzero:i.zero=some zv:=by
           have:=z1 w;simp only[zeroValue,typeInfo,Sem.run_bind,run_program,Result.andThen_ok,hi,Sem.run_pure]at this;cases hq:i.zero with
           |none=>rw[hq]at this;simp at this
           |some q=>rw[hq]at this;simp at this;rw[this]
          have hbb:(len.nat+m.nat)*i.bytes<=1000000*1024:=eu hsum c3;obtain⟨v',w',hr,r2,r3,r4⟩:=Qc (P:=P) (w:=w) t o.type e i zv hu hi hzero (by rw[z2 U];simp[c1]) c2 (V x) len.nat vs v1 A m.nat ccap y2 news n1 n2 n3 (mB hsum) (by omega)
          rw[<-y1]at hr;have hcat:(Tm.cat L M).pd.q=L.pd.q++M.pd.q:=rfl;have hcl:(Tm.cat L M).pd.q.length=(len.nat+m.nat)*i.size:=by rw[hcat,ba,v3,n4,co]
          have hnat:(Tm.ln (.cat L M) i.size).nat=len.nat+m.nat:=by
           show Int.toNat (((Tm.cat L M).pd.q.length/i.size:Nat):Int)=_
           rw[hcl,dQ _ c2];exact au _
          have hks:∀kl,ks0=some kl->kl=ks:=fun kl hk=>by
           rw[hk]at c4;exact Ty.eqAll_eq _ _ c4
          have hcell:∀j,j<(len.nat+m.nat)*i.size->∃ty u,ks[j%i.size]?=some ty/\nU ty ((Tm.cat L M).pd.q.getD j (.i 0))=some u/\(vs++news)[j]?=some u:=fun j hj=>by
           by_cases hjl:j<len.nat*i.size
           ·obtain⟨kl,ty,u,k0,k1,k2,k3⟩:=v4 j hjl;rw[hks kl k0]at k1;refine⟨ty,u,k1,?_,?_⟩
            ·rw[hcat,ae,bl (by omega),<-ae];exact k2.flat (nq cfl ty (bS k1))
            ·rw[bl (by omega)];exact k3
           ·rw[co]at hj;obtain⟨u,hu'⟩:∃u,news[j-len.nat*i.size]?=some u:=⟨_,aj (by omega)⟩
            obtain⟨ty,k1,k2⟩:=n5 _ u hu';have hmod:(j-len.nat*i.size)%i.size=j%i.size:=by
             have:j=len.nat*i.size+(j-len.nat*i.size):=by omega
             rw[this,cN,bU len.nat,gE]
            rw[hmod]at k1;have k2:=k2.flat (nq cfl ty (bS k1));refine⟨ty,u,k1,?_,?_⟩
            ·rw[hcat,ae,bA (by omega),v3,<-ae];exact k2
            ·rw[bA (by omega),v2];exact hu'
          have hrunv:∀U':Th,v'=SV.val U' (.c (.osl f i.size (.lit 0) (.ln (.cat L M) i.size)))->(execOp V o).run P w= .ok (.value (SV.val U' (.c (.osl f i.size (.lit 0) (.ln (.cat L M) i.size))))) w':=fun U' hv=>by
           rw[<-hv,he,hargs,hta];simp only[cL,fK,builtin,Sem.run_bind,hr,Result.andThen_ok,Sem.run_pure]
          obtain⟨hxl,hform⟩:=r2;rcases hform with⟨hv',hz0⟩|⟨g,cap,cur,hv',_,hg,hncap,hcap,hcsz,htake⟩
          ·
           have hL0:(Tm.cat L M).pd.q=[]:=dx (by rw[hcl,hz0,dc])
           have hno:(V x).ownBlock=none:=by
            obtain⟨_,hvv⟩:=v1;rcases hvv with⟨e1,_⟩|⟨g,cp,cr,e1,_,hgg,_⟩
            ·rw[e1];rfl
            ·rcases r4 with r4|r4
             ·rw[hv',e1]at r4;cases r4
             ·rw[hv']at r4;cases r4
           rw[hno]at r3;have hst:=ao9 (H2:=xM H on) hm hl (fun m y h=>(lF h).1) ⟨0,0,0,⟨true,.no,fun _=>False⟩⟩ (.row true i.size e ks (.cat L M) .no) (by simp[gG,bK]) (fun _ h=>h) (w':=w') ⟨.inl ⟨by rw[bK],hL0,rfl⟩,.no⟩ rfl (fun b hb=>r3.block b hb (by simp)) r3.size r3.os r3.tape r3.output
           refine⟨_,w',.inl (hrunv _ ?_),hst,by simp[SV.ltB,SR.ltB,SC.ltB]⟩
           rw[hv']
           show _=fA (Th.row _ f) 0 _ _
           rw[hnat,hz0];simp[Th.row,bK,fA]
          ·have hfar:∀n y b,get (xM H on) n=some y->fc U n y b->b≠g:=fun n y b hn hu'=>by
            obtain⟨h1,h2⟩:=lF hn;rcases r4 with r4|r4
            ·rw[hv']at r4;obtain⟨n',x',hon,hx',ox',hb'⟩:=O.blk g r4.symm;rw[<-hb'];exact(hm.inj n' n x' y b hx' h1 (fun e=>h2 (by rw[hon,e])) ox' hu').symm
            ·rw[hv']at r4;have r4:g=w.heap.size:=by simpa[Value.ownBlock]using r4
             have:=(hm.ok n y h1).uses_lt hu';omega
           have hblk:ek (hU U f ⟨g,0,cap,xd⟩) w' f (.row true i.size e ks (.cat L M) .no):=by
            refine⟨.inr ⟨by rw[bK];rfl,cur,by rw[bK];exact hg,fun j hj=>?_,fun _=>?_⟩,.no⟩
            ·rw[hcl]at hj;obtain⟨ty,u,k1,k2,k3⟩:=hcell j hj;refine⟨ty,u,k1,.of k2,?_⟩;rw[bK]
             show cur[0+j]?=_
             rw[<-htake,bX,ab hj,b8]at k3;rw[bR,k3]
            ·rw[bK];exact⟨rfl,hcsz,hcap,_,hcl,hncap⟩
           refine⟨hU U f ⟨g,0,cap,xd⟩,w',.inl (hrunv _ ?_),FH (H2:=xM H on) hm hl ⟨g,0,cap,xd⟩ _ (fun b=>(V x).ownBlock=some b) ?_ ?_ (fun m y h=>(lF h).1) hfar ?_ ?_ hblk rfl (fun _ h=>h) r3.size r3.os r3.tape r3.output,by simp[SV.ltB,SR.ltB,SC.ltB]⟩
           ·rw[hv']
            show _=fA (Th.row _ f) 0 _ _
            rw[hnat];simp only[Th.row,bK,xd,cD,fA,Th.addr,dc,dX,bR,de];split <;>simp[Addr.add]
           ·intro b hb;obtain⟨n',y',_,hn',on',hb'⟩:=O.blk b hb;exact⟨n',y',hn',on',hb'⟩
           ·intro n y b hn hu' hb;obtain⟨n',y',hon,hn',on',hb'⟩:=O.blk b hb;obtain⟨h1,h2⟩:=lF hn;exact hm.inj n' n y' y b hn' h1 (fun e=>h2 (by rw[hon,e])) on' hu' hb'
           ·exact fun b hb _ hd=>r3.block b hb (fun e=>hd e.symm)
           ·rcases r4 with r4|r4
            ·rw[hv']at r4;obtain⟨n',y',_,hn',on',hb'⟩:=O.blk g r4.symm;exact .inl ⟨n',y',hn',on',hb'⟩
            ·rw[hv']at r4;have r4:g=w.heap.size:=by simpa[Value.ownBlock]using r4
             exact .inr (kr r4.symm)
        ·cases h
       ·cases h
      ·cases h
     ·cases h
    ·cases h
   ·cases h
 ·cases h
def arY(P:Program)(ts:List TypeId)(xs:List (Option SV))(H:bt):Option (SV×bt):=match ts with
 | [t,_]=>match xs with
  | [some (.r (.one (.osl n es lo hi))),some (.r (.one c))]=>match P.underlying t with
   |some (.slice e)=>match P.info? e with
    |some i=>match get H n with
     |some y=>match gh 1 y with
      |some (kc,e',ks,L,z)=>match pz H n es lo hi with
       |some _=>match ao_ H 1 c with
        |some (m,M,ks',_)=>bif (Nat.beq i.size 1&&m8 ks')&&(Nat.beq es 1&&(kc&&Ty.eqAll ks' ks))then
          (bif oX m (jW lo hi)then some (.c (.sym .i64 m),put H n (.row kc 1 e' ks (.spl L lo M) z))
           else bif oX (jW lo hi) m then some (.c (.sym .i64 (jW lo hi)),put H n (.row kc 1 e' ks (.spl L lo (.cut M (.lit 0) (jW lo hi) 1)) z))
           else none)else none
        |none=>none
       |none=>none
      |none=>none
     |none=>none
    |none=>none
   |_=>none
  |_=>none
 |_=>none
theorem avl(L lo M:Tm)(h:lo.nat+M.pd.q.length<=L.pd.q.length):(Tm.spl L lo M).pd.q=L.pd.q.take lo.nat++M.pd.q++L.pd.q.drop (lo.nat+M.pd.q.length):=by
 show(L.pd.q.take lo.nat++M.pd.q++L.pd.q.drop (lo.nat+M.pd.q.length)).take L.pd.q.length=_
 apply cf;simp only[ba,bu,cJ];omega
theorem avm{α:Type}{l m:List α}{q:Nat}(d:α)(h:q+m.length<=l.length)(j:Nat):(l.take q++m++l.drop (q+m.length)).getD j d=if j<q then l.getD j d else if j<q+m.length then m.getD (j-q) d else l.getD j d:=by
 have:=ly (cs:=l) (l:=m) (o:=q) h j;unfold ja at this;rw[ae,this];split
 ·rw[ae]
 ·split <;>rw[ae]
theorem alB{U:Th}{H:bt}{f:Nat}{w:World}(hm:b9 U (get H) w)(hl:ga f (get H)){n:Nat}{x y:SB}(hn:get H n=some x)(ox:gG U n y->gG U n x)(hz:∀b,Zb U n y b->Zb U n x b)(hb:ek U w n y)(hy:y.ltB f=true):
  dA U (get H) f w U (get (put H n y)) f w:=by
 have hg:∀m z,get (put H n y) m=some z->(m=n/\z=y)\/(m≠n/\get H m=some z):=fun m z h=>by
  rw[ur]at h;split at h
  ·rename_i e;subst e;rw[hn]at h;simp at h;exact .inl ⟨rfl,h.symm⟩
  ·rename_i e;exact .inr ⟨fun e'=>e e'.symm,h⟩
 have hex:∀m z b,get (put H n y) m=some z->fc U m z b->∃z',get H m=some z'/\fc U m z' b:=fun m z b h u=>by
  rcases hg m z h with⟨rfl,rfl⟩|⟨_,h'⟩
  ·rcases u with⟨o,rfl⟩|u
   ·exact⟨x,hn,fc.own (ox o)⟩
   ·exact⟨x,hn,.inr (hz b u)⟩
  ·exact⟨z,h',u⟩
 have hex2:∀m z,get (put H n y) m=some z->gG U m z->∃z',get H m=some z'/\gG U m z':=fun m z h u=>by
  rcases hg m z h with⟨rfl,rfl⟩|⟨_,h'⟩
  ·exact⟨x,hn,ox u⟩
  ·exact⟨z,h',u⟩
 refine dA.of hm.far (fun m z hz=>?_) (fun m k z u b hz hu hne om uk=>?_) (fun m z hz=>?_) (bD _) (fun _ _=>rfl) (fun b hb' hno=>rfl) (bD _) rfl rfl rfl (fun m z hz o=>?_) (fun m z b hz o=>?_)
 ·rcases hg m z hz with⟨rfl,rfl⟩|⟨hne,h'⟩
  ·exact hb
  ·exact hm.ok m z h'
 ·obtain⟨z',hz',oz⟩:=hex2 m z hz om;obtain⟨u',hu',uu⟩:=hex k u b hu uk;exact hm.inj m k z' u' b hz' hu' hne oz uu
 ·rcases hg m z hz with⟨rfl,rfl⟩|⟨hne,h'⟩
  ·exact⟨(hl m x hn).1,hy⟩
  ·exact hl m z h'
 ·obtain⟨z',hz',oz⟩:=hex2 m z hz o;exact .inl ⟨m,z',hz',oz,rfl⟩
 ·obtain⟨z',hz',oz⟩:=hex m z b hz (.inr o);exact .inl ⟨m,z',hz',oz⟩
theorem ek.row_eq{n es:Nat}{kc:Bool}{e:TypeId}{ks:List Ty}{L L':Tm}{z:RZ}(h:ek U w n (.row kc es e ks L z))(he:L'.pd.q=L.pd.q):ek U w n (.row kc es e ks L' z):=by simp only[ek]at h ⊢;rw[he];exact h
theorem acP{n:Nat}{lo hi:Tm}{y:SB}{kc:Bool}{e e2:TypeId}{ks ks2:List Ty}{L L2 M':Tm}{t:TypeId}{i:TypeInfo}{K:Nat}{x s:Value}{news:List Value}{z z2:RZ}(hm:b9 U (get H) w)(hl:ga f (get H))(hn:get H n=some y)(hv:gh 1 y=some (kc,e,ks,L,z))(O:ale U H w n 1 lo hi e2 ks2 L2 z2)(hL:L2.pd.q=L.pd.q)
  (hK:K<=hi.nat-lo.nat) (hnl:news.length=K) (hM:M'.pd.q.length=K) (hc:∀j u,news[j]?=some u->∃ty,ks[j%1]?=some ty/\nU ty (M'.pd.q.getD j (.i 0))=some u):
  ∃w',(∀A m c,SC.val U (.osl n 1 lo hi)= .slice A m c->(match A with|some a=>storeCells a news|none=>pure ()).run P w= .ok () w')/\dA U (get H) f w U (get (put H n (.row kc 1 e ks (.spl L lo M') z))) f w':=by
 have hfit:lo.nat+K<=L.pd.q.length:=by have h1:=O.ln;have h2:=O.le;rw[hL,lL]at h1;omega
 have hspl:(Tm.spl L lo M').pd.q=L.pd.q.take lo.nat++M'.pd.q++L.pd.q.drop (lo.nat+M'.pd.q.length):=avl L lo M' (by rw[hM];exact hfit)
 obtain⟨b1,b2,b3⟩:=yk (hm.ok n y hn) hv;rcases dR K with h0|hp
 ·subst h0;have hnews:news=[]:=dx hnl;have hMnil:M'.pd.q=[]:=dx hM;subst hnews;refine⟨w,fun A m c _=>by cases A<;>simp[storeCells],alB hm hl hn (fun o=>b2.2 o) (fun b h=>(b3 b).1 h) (b1.row_eq ?_) (JL hv (hl n y hn).2)⟩
  rw[hspl,hMnil];simp
 ·have hlt:lo.nat<hi.nat:=by omega
  obtain⟨k1,k2,k3,k4⟩:=O.val hlt;rw[ed]at k4;have hlen:(Tm.spl L lo M').pd.q.length=L.pd.q.length:=by rw[hspl];simp only[ba,bu,cJ];omega
  have hg:=fun j=>avm (l:=L.pd.q) (m:=M'.pd.q) (q:=lo.nat) (PD.i 0) (by omega) j
  obtain⟨w',hr,hst⟩:=ai5 (P:=P) (q:=lo.nat) (vs:=news) (L':= .spl L lo M') hm hl hn hv (by omega) (by omega) hlen (fun j hj=>by
   rw[hspl,hg];split
   ·rfl
   ·rw[ak (by omega)]) (fun j u hj=>by
   obtain⟨ty,e1,e2⟩:=hc j u hj;have hjl:=(av.1 hj).1;refine⟨ty,by rw[gn]at e1 ⊢;exact e1,?_⟩
   rw[hspl,hg,ak (by omega),ab (by omega),cN]
   exact .of e2)
  refine⟨w',fun A m c hA=>?_,hst⟩
  rw[k4]at hA;simp only[Value.slice.injEq]at hA;rw[<-hA.1];exact hr
theorem arX{c:Call}(ho:o.op= .call c)(hc:c.callee= .builtin .copy)(h:arY P c.argTypes.toList (c.args.toList.map ev) H=some (v,H'))(hm:b9 U (get H) w)(hl:ga f (get H))(ha:kA U f ev V o):bB P o V U H f w v H' f:=by
 obtain⟨cs,he⟩:=fO (V:=V) ho hc;have hA:∀x∈c.args.toList,∀s,ev x=some s->V x=s.val U/\s.ltB f=true:=fun x hx=>ha x (by simp only[ho,Op.operands,Call.operands,hc];simpa using hx)
 unfold arY at h;split at h
 ·rename_i t t' hts;have hta:c.argTypes= #[t,t']:=by apply Array.ext';exact hts
  split at h
  ·rename_i n es lo hi cc hxs;obtain⟨x,y,hargs,hx,hy⟩:=Kx hxs;rw[hargs]at hA;have hx:=hA x (by simp) _ hx
   have hy:=hA y (by simp) _ hy
   split at h
   ·rename_i e hu;split at h
    ·rename_i i hi';split at h
     ·rename_i yb hn;split at h
      ·rename_i kc e' ks L z hv;split at h
       ·rename_i r hr;split at h
        ·rename_i m M ks' zs hsrc;cases hcc:((Nat.beq i.size 1&&m8 ks')&&(Nat.beq es 1&&(kc&&Ty.eqAll ks' ks)))with
         |false=>rw[hcc]at h;cases h
         |true=>
          rw[hcc]at h;simp only[aP]at h;simp only[ah]at hcc;obtain⟨⟨c1,cfl⟩,c2,c3,c4⟩:=hcc;have c1:=af c1;have c2:=af c2;have c4:=Ty.eqAll_eq _ _ c4;subst c2;subst c4;have O:=my (e:=r.1) (ks:=r.2.1) (L:=r.2.2.1) (z:=r.2.2.2) hr hm;have hLL:r.2.2.1=L:=by
           unfold pz at hr;rw[hn]at hr;simp only[hv]at hr;cases hq:(kc&&(Nat.blt 0 1&&(nn lo&&(oX lo hi&&oX hi (B_ L 1)))))with
           |false=>rw[hq]at hr;cases hr
           |true=>rw[hq]at hr;simp only[aP,ad]at hr;rw[<-hr]
          have S:=V4 hsrc (Nat.one_pos) hm;have hyv:V y=cc.val U:=hy.1;rw[<-hyv]at S;obtain⟨A,ccap,y1,y2,news,n1,n2,n3,n4,n5⟩:=S.val;rw[ed]at n1 n4;have o1:=O.olo;have o2:=O.ohi;have o3:=O.le;have s0:=S.ln0;have main:∀ (K:Nat) (M':Tm) (kt:Tm),K<=m.nat->K<=hi.nat-lo.nat->(K=m.nat\/K=hi.nat-lo.nat)->kt.den=(K:Int)->M'.pd.q=M.pd.q.take K->bB P o V U H f w (.c (.sym .i64 kt)) (put H n (.row kc 1 e' ks' (.spl L lo M') z)) f:=fun K M' kt hK1 hK2 hK3 hkt hM'=>by
           have hnl:(news.take K).length=K:=by rw[bu];omega
           have hMl:M'.pd.q.length=K:=by rw[hM',bu];omega
           obtain⟨w',hst,hstep⟩:=acP (P:=P) (f:=f) (news:=news.take K) (t:=t) (i:=i) (x:=V x) (s:=V y) hm hl hn hv O (by rw[hLL]) hK2 hnl hMl (fun j u hj=>by
            rw[bX]at hj;split at hj
            ·rename_i hjK;obtain⟨ty,e1,e2⟩:=n5 j u hj;have e2:=e2.flat (nq cfl ty (bS e1));exact⟨ty,e1,by rw[hM',ae,bX,ab hjK,<-ae];exact e2⟩
            ·cases hj)
           have hload:(Builtin.firstCells 1 K (V y)).run P w= .ok (news.take K).toArray w:=by
            rw[y1];cases A with
            |none=>
             have:=y2 rfl;have hK0:K=0:=by omega
             subst hK0;simp[Builtin.firstCells]
            |some a=>
             have hcells:=run_loadCells_list (P:=P) w a (news.take K) (fun j u hj=>by
              rw[bX]at hj;split at hj
              ·exact n2 a rfl j u hj
              ·cases hj)
             rw[hnl]at hcells;simp[Builtin.firstCells,hcells]
           have hform:∃B k,V x= .slice B (hi.nat-lo.nat) k/\SC.val U (.osl n 1 lo hi)= .slice B (hi.nat-lo.nat) k:=by
            have ex:V x=fA (U.row n) lo.nat hi.nat 1:=hx.1;have hrow:∃A k,U.row n= .slice A 0 k:=by unfold Th.row;cases(U n).x.nl<;>exact⟨_,_,rfl⟩
            obtain⟨A,k,hf⟩:=hrow;refine⟨if k=lo.nat then A else A.map (·.add (lo.nat*1)),k-lo.nat,?_,?_⟩
            ·rw[ex,hf];rfl
            ·show fA (U.row n) lo.nat hi.nat 1=_
             rw[hf];rfl
           obtain⟨B,k,ex,ex2⟩:=hform;have hmin:Nat.min m.nat (hi.nat-lo.nat)=K:=by
            show min _ _=K
            omega
           refine⟨U,w',.inl ?_,hstep,rfl⟩;have hs2:=hst B _ k ex2;have e1:SV.val U (.c (.sym .i64 kt))= .int .i64 (K:Int):=by show Value.int .i64 kt.den=_;rw[hkt]
           rw[e1,he,hargs,hta];have hcopy:(Builtin.copy_ #[t,t'] o.type #[V x,V y]).run P w= .ok (.int .i64 (K:Int)) w':=by
            unfold Builtin.copy_;simp only;simp[run_underlying hu,ex];rw[show Builtin.lenOf (V y)=pure m.nat by rw[y1];rfl]
            simp[sizeOf,typeInfo,hi',c1,hmin,hload];cases B with
            |none=>simp at hs2 ⊢;exact⟨rfl,hs2⟩
            |some b=>simp at hs2 ⊢;rw[hs2];simp[goInt]
           simp only[cL,fK,builtin,Sem.run_bind,Sem.run_pure];rw[hcopy];rfl
          cases hle:oX m (jW lo hi)with
          |true=>rw[hle]at h;simp only[aP,ad,aA]at h;obtain⟨rfl,rfl⟩:=h;have h1:=gj hle;rw[li]at h1;exact main m.nat M m (bD _) (by omega) (.inl rfl) s0.symm (by rw[<-n4,ez])
          |false=>
           rw[hle]at h;simp only[cD]at h;cases hle2:oX (jW lo hi) m with
           |false=>rw[hle2]at h;cases h
           |true=>
            rw[hle2]at h;simp only[aP,ad,aA]at h;obtain⟨rfl,rfl⟩:=h;have h1:=gj hle2;rw[li]at h1;have hln:(jW lo hi).nat=hi.nat-lo.nat:=by
             show(jW lo hi).den.toNat=_
             rw[li];omega
            refine main (hi.nat-lo.nat) _ (jW lo hi) (by omega) (bD _) (.inr rfl) (by rw[li];omega) ?_
            show(M.pd.q.take ((jW lo hi).nat*1)).drop ((Tm.lit 0).nat*1)=_
            rw[hln,show(Tm.lit 0).nat=0 from rfl,dc,eO,ed]
        ·cases h
       ·cases h
      ·cases h
     ·cases h
    ·cases h
   ·cases h
  ·cases h
 ·cases h
def ZT(P:Program)(o:Oper)(ev:Operand->Option SV)(H:bt)(f:Nat):Option (SV×bt×Nat):=match o.op with
 | .unOp u t x=>(match aBv u (ev x)with|some v=>some (v,H,f)|none=>none)
 | .pick c x y=>(match aqa (ev c) (ev x) (ev y)with|some v=>some (v,H,f)|none=>none)
 | .indexAddr t x ix=>(match agB P H t (ev x) (ev ix)with|some v=>some (v,H,f)|none=>none)
 | .fieldAddr s x fld=>(match ag7 P H s (ev x) fld with|some v=>some (v,H,f)|none=>none)
 | .nilCheck x=>(match aBy H (ev x)with|some v=>some (v,H,f)|none=>none)
 | .load t x=>(match aqF P H t (ev x)with|some v=>some (v,H,f)|none=>none)
 | .store t x y=>(match aez P H t (ev x) (ev y)with|some H'=>some (.undef,H',f)|none=>none)
 | .makeSlice t x y=>aqx P t (ev x) (ev y) f H
 | .slice t x lo hi none=>(match aeH P t H (ev x) (lo.map ev) (hi.map ev)with|some v=>some (v,H,f)|none=>none)
 | .call c=>(match c.callee with
  | .builtin .len=>(match aBK P H c.argTypes.toList (c.args.toList.map ev)with|some v=>some (v,H,f)|none=>none)
  | .builtin .append=>Yu P c.argTypes.toList (c.args.toList.map ev) f H
  | .builtin .copy=>(match arY P c.argTypes.toList (c.args.toList.map ev) H with|some (v,H')=>some (v,H',f)|none=>none)
  |_=>none)
 |_=>none
theorem apu(h:ZT P o ev H f=some (v,H',f'))(hm:b9 U (get H) w)(hl:ga f (get H))(ha:kA U f ev V o):bB P o V U H f w v H' f':=by
 unfold ZT at h;split at h
 ·rename_i u t x ho;split at h
  ·rename_i u' hu;cases h;exact avG ho hu hm hl ha
  ·cases h
 ·rename_i c x y ho;split at h
  ·rename_i u' hu;cases h;exact ap' ho hu hm hl ha
  ·cases h
 ·rename_i t x ix ho;split at h
  ·rename_i u' hu;cases h;exact am7 ho hu hm hl ha
  ·cases h
 ·rename_i s x fld ho;split at h
  ·rename_i u' hu;cases h;exact ans ho hu hm hl ha
  ·cases h
 ·rename_i x ho;split at h
  ·rename_i u' hu;cases h;exact avI ho hu hm hl ha
  ·cases h
 ·rename_i t x ho;split at h
  ·rename_i u' hu;cases h;exact aqE ho hu hm hl ha
  ·cases h
 ·rename_i t x y ho;split at h
  ·rename_i u' hu;cases h;exact alz ho hu hm hl ha
  ·cases h
 ·rename_i t x y ho;exact aqw ho h hm hl ha
 ·rename_i t x lo hi ho;split at h
  ·rename_i u' hu;cases h;exact alF ho hu hm hl ha
  ·cases h
 ·rename_i c ho;split at h
  ·rename_i hc;split at h
   ·rename_i u' hu;cases h;exact avU ho hc hu hm hl ha
   ·cases h
  ·rename_i hc;exact ahz ho hc h hm hl ha
  ·rename_i hc;split at h
   ·rename_i u' hh hu;cases h;exact arX ho hc hu hm hl ha
   ·cases h
  ·cases h
 ·cases h
end
end
section
variable [Sy]
def Tm.at(t:Ty)(m:Tm):PD:=match t with
 | .lst _=> .l m.pd.q
 |_=> .i m.den
def Zn(U:Th)(H:bt)(ns:List Nat)(b:Nat):Prop:=∃n∈ns,∃x,get H n=some x/\fc U n x b
theorem Zn.more{U:Th}{H:bt}{a c:List Nat}(h:∀n∈a,n∈c):∀b,Zn U H a b->Zn U H c b:=fun b ⟨n,hn,x,hx,hu⟩=>⟨n,h n hn,x,hx,hu⟩
def ap0(t:Ty)(a m:Tm):Tm:=match t with
 | .lst _=> .snocD a m
 |_=> .snoc a m
theorem amt(t:Ty)(a m:Tm):(ap0 t a m).pd.q=a.pd.q++[m.at t]:=by cases t<;>rfl
end
section
variable [Sy][Fa][fN]
mutual
def u0(H:bt):Nat->Ty->SC->Option (Tm×List Nat)
 |0,_,_=>none
 |n+1,t,c=>match t with
  | .int k=>match iu c with
   |some (k',m)=>bif decide (k=k')then some (m,[])else none
   |none=>none
  | .bool=>match c with
   | .bool b=>some (.lit (bif b then 1 else 0),[])
   | .bq b=>some (ahs b,[])
   |_=>none
  | .lst tys=>match c with
   | .nils=>some (.nil,[])
   | .dat m p=>match E1 H m p with
    |some (ts,M)=>bif Ty.eqAll ts tys then some (M,[m])else none
    |none=>none
   | .osl m es lo hi=>match pz H m es lo hi with
    |some (_,ks,L,_)=>bif Ty.eqAll ks tys&&Nat.beq tys.length es then some (wI L lo hi es,[m])else none
    |none=>none
   | .slice m o l d=>match get H m with
    |some (.cells es e cs)=>bif Nat.blt 0 es&&(Nat.beq es tys.length&&(Nat.ble ((d+l)*es) cs.length&&Nat.blt 0 l))then(match nT (l*es) (cs.drop o)with
     |some cl=>lN H n tys 0 cl .nil [m]
     |none=>none)else none
    |_=>none
   |_=>none
def lN(H:bt):Nat->List Ty->Nat->List SC->Tm->List Nat->Option (Tm×List Nat)
 |0,_,_,_,_,_=>none
 |_+1,_,_,[],a,ns=>some (a,ns)
 |n+1,tys,i,c::r,a,ns=>match tys[i%tys.length]? with
  |some t=>match u0 H n t c with
   |some (m,ms)=>lN H n tys (i+1) r (ap0 t a m) (ns++ms)
   |none=>none
  |none=>none
end
section
variable {U:Th}{H:bt}{w:World}
theorem ae9{z:Nat->Prop}{tys:List Ty}{x:VT}{d:PD}(h:qX w z (.lst tys) x d):d= .l d.q:=by cases h<;>rfl
theorem aFD{xs:List VT}{j:Nat}:(xs.map VT.v).getD j Go.undef=if j<xs.length then(xs.getD j .no).v else Go.undef:=by
 rw[ae,aM];split
 ·rename_i h;rw[aj h,ae,aj h];rfl
 ·rename_i h;rw[bp (by omega)];rfl
mutual
theorem m_(hm:b9 U (get H) w):∀ (n:Nat) (t:Ty) (c:SC) (m:Tm) (ns:List Nat),u0 H n t c=some (m,ns)->∃vt:VT,vt.v=c.val U/\qX w (Zn U H ns) t vt (m.at t)
 |0,t,c,m,ns,h=>by simp[u0]at h
 |n+1,t,c,m,ns,h=>by
  cases t with
  |int k=>
   simp only[u0]at h;split at h
   ·rename_i k' u hu;cases hk:decide (k=k')with
    |false=>rw[hk]at h;cases h
    |true=>rw[hk]at h;simp only[aP,ad,aA]at h;obtain⟨rfl,rfl⟩:=h;have hk:=of_decide_eq_true hk;subst hk;exact⟨.mk (.int k u.den) [],(dE hu U).symm,.int k _ _⟩
   ·cases h
  |bool=>
   simp only[u0]at h;split at h
   ·rename_i b;simp only[ad,aA]at h;obtain⟨rfl,rfl⟩:=h;exact⟨.mk (.bool b) [],rfl,.bool b _ _ (by cases b<;>rfl)⟩
   ·rename_i b;simp only[ad,aA]at h;obtain⟨rfl,rfl⟩:=h;refine⟨.mk (.bool b.den) [],rfl,.bool _ _ _ ?_⟩;rw[xX];cases b.den<;>rfl
   ·cases h
  |lst tys=>
   simp only[u0]at h;split at h
   ·simp only[ad,aA]at h;obtain⟨rfl,rfl⟩:=h;exact⟨.mk (.slice none 0 0) [],rfl,.nil tys⟩
   ·rename_i q p;split at h
    ·rename_i ts M hd;cases hc:Ty.eqAll ts tys with
     |false=>rw[hc]at h;cases h
     |true=>
      rw[hc]at h;simp only[aP,ad,aA]at h;obtain⟨rfl,rfl⟩:=h;have hc:=Ty.eqAll_eq _ _ hc;subst hc;obtain⟨tys,L,⟨fr,hn⟩,hr,hp⟩:=mQ hd hm;refine⟨_,(yF hr).symm,?_⟩;have hpd:M.pd= .l M.pd.q:=ae9 hr
      show qX w _ _ _ (.l M.pd.q)
      rw[<-hpd];exact hr.keep (fun b _=>rfl) fun b hz=>⟨q,by simp,_,hn,.inr hz⟩
    ·cases h
   ·rename_i q es lo hi;split at h
    ·rename_i e ks L z hr;cases hc:(Ty.eqAll ks tys&&Nat.beq tys.length es)with
     |false=>rw[hc]at h;cases h
     |true=>
      rw[hc]at h;simp only[aP,ad,aA]at h;obtain⟨rfl,rfl⟩:=h;simp only[ah]at hc;obtain⟨c1,c2⟩:=hc;have c1:=Ty.eqAll_eq _ _ c1;have c2:=af c2;subst c1;subst c2;have O:=my hr hm;obtain⟨y,hy,hown,hzb⟩:=O.y;obtain⟨mm,hml,hmd⟩:=JZ O.b O.oes;have hM:=Oh (lo:=lo) (hi:=hi) hml O.oes;have o3:=O.le;have o4:=O.ln;have hle:hi.nat*ks.length<=mm*ks.length:=bM _ (by omega)
      have hle2:lo.nat*ks.length<=hi.nat*ks.length:=bM _ o3;have hsub:(hi.nat-lo.nat)*ks.length=hi.nat*ks.length-lo.nat*ks.length:=Nat.sub_mul _ _ _;have hMl:(wI L lo hi ks.length).pd.q.length=(hi.nat-lo.nat)*ks.length:=by rw[hM,cJ,bu,hml];omega
      have hget:∀j,j<(hi.nat-lo.nat)*ks.length->(wI L lo hi ks.length).pd.q.getD j (.i 0)=L.pd.q.getD (lo.nat*ks.length+j) (.i 0):=fun j hj=>by
       rw[hM,ae,ae,b_,bX,ab (by omega)]
      by_cases hlt:lo.nat<hi.nat
      ·obtain⟨k1,k2,k3,k4⟩:=O.val hlt;have hcell:∀j,j<(hi.nat-lo.nat)*ks.length->∃x:VT,w.cell? ⟨(U q).b,(U q).sh+(lo.nat*ks.length+j),none⟩=some x.v/\∀t,ks[j%ks.length]?=some t->qX w (cu U z) t x (L.pd.q.getD (lo.nat*ks.length+j) (.i 0)):=fun j hj=>by
        obtain⟨_,t,u,e1,⟨x,rfl,e2⟩,e3⟩:=rY O.b (j:=lo.nat*ks.length+j) (by rw[hml];omega)
        rw[bU lo.nat,gE]at e1;refine⟨x,e3,fun t' ht'=>?_⟩
        rw[e1]at ht';cases ht';exact e2
       have hlist:∀K,K<=(hi.nat-lo.nat)*ks.length->∃us:List VT,us.length=K/\∀j,j<K->w.cell? ⟨(U q).b,(U q).sh+(lo.nat*ks.length+j),none⟩=some (us.getD j .no).v/\∀t,ks[j%ks.length]?=some t->qX w (cu U z) t (us.getD j .no) (L.pd.q.getD (lo.nat*ks.length+j) (.i 0)):=by
        intro K
        induction K with
        |zero=>exact fun _=>⟨[],rfl,fun j hj=>by omega⟩
        |succ K ih=>
         intro hK;obtain⟨us,u1,u2⟩:=ih (by omega)
         obtain⟨x,x1,x2⟩:=hcell K (by omega)
         refine⟨us++[x],by simp[u1],fun j hj=>?_⟩
         rw[ae,gq]
         by_cases hjK:j<K
         ·rw[ab (by omega),<-ae]
          exact u2 j hjK
         ·have:j=K:=by omega
          subst this;rw[ak (by omega),u1,kp]
          exact⟨x1,x2⟩
       obtain⟨us,hus,hug⟩:=hlist _ (bD _);refine⟨.mk (.slice (some (U.addr q (lo.nat*ks.length))) (hi.nat-lo.nat) ((U q).cap-lo.nat)) us,k4.symm,.lst _ _ _ _ _ _ hus (by rw[hMl,hus]) (by omega) rfl (fun j hj=>?_) (fun j t hj ht=>?_)⟩
       ·rw[hus]at hj;refine⟨⟨q,by simp,y,hy,.inl ⟨hown.2 k1,rfl⟩⟩,?_⟩
        show w.cell? ⟨(U q).b,(U q).sh+lo.nat*ks.length+j,none⟩=_
        rw[cT];exact(hug j hj).1
       ·rw[hus]at hj;rw[hget j hj];exact((hug j hj).2 t ht).keep (fun _ _=>rfl) fun b hb=>⟨q,by simp,y,hy,.inr ((hzb b).1 hb)⟩
      ·have hz:hi.nat-lo.nat=0:=by omega
       have hM0:(wI L lo hi ks.length).pd.q=[]:=dx (by rw[hMl,hz,dc])
       show ∃vt:VT,vt.v=_/\qX w _ _ vt (.l (wI L lo hi ks.length).pd.q)
       rw[hM0]
       show ∃vt:VT,vt.v=fA (U.row q) lo.nat hi.nat ks.length/\_
       cases hnl:(U q).x.nl with
       |true=>
        have hln:L.pd.q.length/ks.length=0:=by
         rcases O.b.1 with⟨_,h2,_⟩|⟨h1,_⟩
         ·rw[h2];simp
         ·rw[hnl]at h1;cases h1
        have e1:hi.nat=0:=by omega
        have e2:lo.nat=0:=by omega
        refine⟨.mk (.slice none 0 0) [],?_,.nil _⟩;rw[e1,e2];simp[Th.row,hnl,fA,VT.v]
       |false=>
        refine⟨.mk (fA (U.row q) lo.nat hi.nat ks.length) [],rfl,?_⟩;simp only[Th.row,hnl,cD,fA,de];rw[hz];have:(if(U q).cap=lo.nat then some (U.addr q 0)else some ((U.addr q 0).add (lo.nat*ks.length)))=some (if(U q).cap=lo.nat then U.addr q 0 else(U.addr q 0).add (lo.nat*ks.length)):=by split <;>rfl
        rw[this];exact .lst _ _ 0 _ [] [] (by simp) rfl (ec _) (by split <;>(try simp[Th.addr,Addr.add])<;>split <;>rfl) (fun j hj=>by simp at hj) (fun j t hj=>by simp at hj)
    ·cases h
   ·rename_i q o l d;split at h
    ·rename_i es e cs hn;cases hc:(Nat.blt 0 es&&(Nat.beq es tys.length&&(Nat.ble ((d+l)*es) cs.length&&Nat.blt 0 l)))with
     |false=>rw[hc]at h;cases h
     |true=>
      rw[hc]at h;simp only[aP]at h;simp only[ah]at hc;obtain⟨c1,c2,c3,c4⟩:=hc;rw[bT]at c1 c4;have c2:=af c2;have c3:=bY c3;split at h
      ·rename_i cl hcl;obtain⟨t1,t2⟩:=g9 hcl;obtain⟨us,ds,a1,a2,a3,a4,a5⟩:=na hm n tys 0 cl .nil [q] m ns h;have hcap:=Yn hm hn c1 c3;have a3:m.pd.q=ds:=by rw[a3];rfl
       refine⟨.mk (.slice (some (U.addr q o)) l ((U q).cap-d)) us,rfl,?_⟩
       show qX w _ _ _ (.l m.pd.q)
       rw[a3];refine .lst _ _ _ _ _ _ (by rw[a1,t2,c2]) (by rw[a1,a2]) (by omega) rfl (fun j hj=>?_) (fun j t hj ht=>?_)
       ·rw[a1]at hj;refine⟨⟨q,a5 q (by simp),_,hn,.inl ⟨trivial,rfl⟩⟩,?_⟩
        have h1:=md hcl j _ (aj hj);rw[b_]at h1;have h3:=pX hm hn (o+j) _ h1
        show w.cell? ⟨(U q).b,(U q).sh+o+j,none⟩=_
        rw[cT,h3,(a4 j _ (aj hj)).1]
       ·rw[a1]at hj;exact(a4 j _ (aj hj)).2 t (by rw[bR];exact ht)
      ·cases h
    ·cases h
   ·cases h
theorem na(hm:b9 U (get H) w):∀ (n:Nat) (tys:List Ty) (i:Nat) (cs:List SC) (a:Tm) (ns:List Nat) (m:Tm) (ns':List Nat),lN H n tys i cs a ns=some (m,ns')->
  ∃ (us:List VT) (ds:List PD),us.length=cs.length/\ds.length=cs.length/\m.pd.q=a.pd.q++ds/\(∀j c,cs[j]?=some c->(us.getD j .no).v=c.val U/\∀t,tys[(i+j)%tys.length]?=some t->qX w (Zn U H ns') t (us.getD j .no) (ds.getD j (.i 0)))/\∀q∈ns,q∈ns'
 |0,tys,i,cs,a,ns,m,ns',h=>by simp[lN]at h
 |n+1,tys,i,[],a,ns,m,ns',h=>by
  simp only[lN,ad,aA]at h;obtain⟨rfl,rfl⟩:=h;exact⟨[],[],rfl,rfl,by simp,fun j c hj=>by simp at hj,fun q hq=>hq⟩
 |n+1,tys,i,c::r,a,ns,m,ns',h=>by
  simp only[lN]at h;split at h
  ·rename_i t ht;split at h
   ·rename_i u ms hu;obtain⟨vt,v1,v2⟩:=m_ hm n t c u ms hu;obtain⟨us,ds,h1,h2,h3,h4,h5⟩:=na hm n tys (i+1) r (ap0 t a u) (ns++ms) m ns' h;refine⟨vt::us,u.at t::ds,by simp[h1],by simp[h2],?_,fun j c' hj=>?_,fun q hq=>h5 q (cq _ hq)⟩
    ·rw[h3,amt,dg];rfl
    ·cases j with
     |zero=>
      simp only[bn,ad]at hj;subst hj;refine⟨v1,fun t' ht'=>?_⟩
      rw[ch,ht]at ht';cases ht';exact v2.keep (fun b _=>rfl) (Zn.more fun q hq=>h5 q (ci _ hq))
     |succ j=>
      rw[bk]at hj;obtain⟨g1,g2⟩:=h4 j c' hj;refine⟨by rw[iM];exact g1,fun t' ht'=>?_⟩
      rw[iM,iM];exact g2 t' (by rw[<-ht'];congr 2;omega)
   ·cases h
  ·cases h
end
end
end
section
def akg(g:TypeId->Option (List Ty)):List TypeId->Option (List Ty)
 | []=>some []
 |t::r=>match g t with
  |some l=>match akg g r with
   |some m=>some (l++m)
   |none=>none
  |none=>none
def oM(P:Program):Nat->TypeId->Option (List Ty)
 |0,_=>none
 |n+1,t=>match P.underlying t with
  |some (.int k)=>some [.int k]
  |some .bool=>some [.bool]
  |some (.slice e)=>match oM P n e with
   |some l=>some [.lst l]
   |none=>none
  |some (.array m e)=>match oM P n e with
   |some l=>some (List.replicate m l).flatten
   |none=>none
  |some (.struct fs)=>akg (oM P n) (fs.toList.map (·.type))
  |_=>none
variable [Sy][Fa][fN]
def frx:SB->Bool
 | .frz fr _ _=>fr
 | .row _ _ _ _ _ z=>z.fr
 | .rowL _ _ _ _ z _ _ _=>z.fr
 | .mapD _ _ z=>z.fr
 |_=>true
def ig(H:bt):List Nat->Bool
 | []=>true
 |n::r=>(match get H n with
  |some x=>frx x
  |none=>true)&&ig H r
def ownB:SB->Bool
 | .frz _ _ _=>false
 |_=>true
def ma:bt->List Nat->bt
 |H,[]=>H
 |H,n::r=>match get H n with
  |some x=>bif ownB x then ma (drop H n) r else ma H r
  |none=>ma H r
def Zp(U:Th)(H:bt)(zs ns:List Nat)(b:Nat):Prop:=Zz U H zs b\/Zn U H ns b
section
variable {P:Program}{o:Oper}{V:Operand->Value}{ev:Operand->Option SV}{U:Th}{H H':bt}{f f':Nat}{w:World}{v:SV}
theorem zh{n:Nat}:∀ {l:List Nat},n∈l->rA n l=true
 | [],h=>by cases h
 |m::r,h=>by
  simp only[rA,eQ];rcases aS.1 h with rfl|h
  ·exact .inl (lz rfl)
  ·exact .inr (zh h)
theorem gG.ownB{n:Nat}{x:SB}(h:gG U n x):ownB x=true:=by cases x<;>first|rfl|exact h.elim
theorem ag1(hm:b9 U (get H) w){n:Nat}{x:SB}(hn:get H n=some x)(hf:frx x=true){b:Nat}(hu:fc U n x b):IR b:=by
 rcases hu with⟨ho,rfl⟩|hu
 ·exact hm.far.fo n x hn ho
 ·cases x with
  |frz fr tys L=>exact((hm.ok n _ hn).2 b hu).2 hf
  |row kc es e ks L z=>exact((hm.ok n _ hn).2 b hu).2.2 hf
  |rowL kc e tys L z t q hi=>exact((hm.ok n _ hn).2 b hu).2.2 hf
  |mapD tys L z=>exact((hm.ok n _ hn).2 b hu).2.2 hf
  |_=>exact hu.elim
theorem GZ:∀ {ns:List Nat},ig H ns=true->∀n∈ns,∀x,get H n=some x->frx x=true
 | [],_,n,hn,_,_=>by cases hn
 |m::r,h,n,hn,x,hx=>by
  simp only[ig,ah]at h;rcases aS.1 hn with rfl|hn
  ·have h1:=h.1;rw[hx]at h1;exact h1
  ·exact GZ h.2 n hn x hx
theorem Zp.uses{zs ns:List Nat}{b:Nat}(h:Zp U H zs ns b):∃n x,(n∈zs\/n∈ns)/\get H n=some x/\fc U n x b:=by
 rcases h with⟨n,hn,x,hx,hz⟩|⟨n,hn,x,hx,hu⟩
 ·exact⟨n,x,.inl hn,hx,.inr hz⟩
 ·exact⟨n,x,.inr hn,hx,hu⟩
theorem Zp.fresh(hm:b9 U (get H) w){zs ns:List Nat}(h1:ig H zs=true)(h2:ig H ns=true){b:Nat}(h:Zp U H zs ns b):IR b:=by
 obtain⟨n,x,hn,hx,hu⟩:=h.uses;rcases hn with hn|hn
 ·exact ag1 hm hx (GZ h1 n hn x hx) hu
 ·exact ag1 hm hx (GZ h2 n hn x hx) hu
theorem mP:∀ {ns:List Nat} {H:bt} {m:Nat} {y:SB},get (ma H ns) m=some y->get H m=some y/\(ownB y=true->m∉ns)
 | [],H,m,y,h=>⟨h,fun _=>by simp⟩
 |n::r,H,m,y,h=>by
  simp only[ma]at h;split at h
  ·rename_i x hx;cases ho:ownB x with
   |true=>
    rw[ho]at h;simp only[aP]at h;obtain⟨h1,h2⟩:=mP h;rw[Px]at h1;split at h1
    ·cases h1
    ·rename_i hne;exact⟨h1,fun hy=>by simp only[aS,not_or];exact⟨fun e=>hne e.symm,h2 hy⟩⟩
   |false=>
    rw[ho]at h;simp only[cD]at h;obtain⟨h1,h2⟩:=mP h;refine⟨h1,fun hy=>?_⟩
    simp only[aS,not_or];refine⟨fun e=>?_,h2 hy⟩
    rw[e,hx]at h1;cases h1;rw[ho]at hy;cases hy
  ·rename_i hx;obtain⟨h1,h2⟩:=mP h;refine⟨h1,fun hy=>?_⟩
   simp only[aS,not_or];refine⟨fun e=>?_,h2 hy⟩
   rw[e,hx]at h1;cases h1
theorem Zp.far(hm:b9 U (get H) w){zs ns:List Nat}{b:Nat}(h:Zp U H zs ns b){m:Nat}{y:SB}(hy:get H m=some y)(ho:gG U m y)(hns:m∉ns):(U m).b≠b:=by
 rcases h with⟨n,hn,x,hx,hz⟩|⟨n,hn,x,hx,hu⟩
 ·by_cases hmn:m=n
  ·subst hmn;rw[hy]at hx;cases hx;cases y with
   |row kc es e ks L z=>exact fun e=>((hm.ok m _ hy).2 b hz).2.1 ho e.symm
   |rowL kc e tys L z t q hi=>exact fun e=>((hm.ok m _ hy).2 b hz).2.1 (hm.ok m _ hy).1.1 e.symm
   |mapD tys L z=>exact fun e=>((hm.ok m _ hy).2 b hz).2.1 e.symm
   |frz fr tys L=>exact ho.elim
   |_=>exact hz.elim
  ·exact hm.inj m n y x b hy hx hmn ho (.inr hz)
 ·exact hm.inj m n y x b hy hx (fun e=>hns (e▸hn)) ho hu
def aBj(H:bt)(fl es:Nat)(ks:List Ty)(c:SC):Option (Tm×Tm×List Nat×List Nat):=match ao_ H es c with
 |some (len,M,ks',zs)=>bif Ty.eqAll ks' ks then some (len,M,zs,[])else none
 |none=>match c with
  | .nils=>some (.lit 0,.nil,[],[])
  | .slice m p k d=>match get H m with
   |some (.cells _ _ cm)=>match nT (k*es) (cm.drop p)with
    |some news=>match lN H fl ks 0 news .nil []with
     |some (M,ns)=>bif Nat.blt 0 k&&Nat.beq ks.length es then some (.lit k,M,[],ns)else none
     |none=>none
    |none=>none
   |_=>none
  |_=>none
theorem avk{fl es:Nat}{c:SC}{len M:Tm}{ks:List Ty}{zs ns:List Nat}(h:aBj H fl es ks c=some (len,M,zs,ns))(hes:0<es)(hm:b9 U (get H) w):aA8 U w es (c.val U) len M ks (Zp U H zs ns):=by
 unfold aBj at h;split at h
 ·rename_i len' M' ks' zs' hs;cases hc:Ty.eqAll ks' ks with
  |false=>rw[hc]at h;cases h
  |true=>
   rw[hc]at h;simp only[aP,ad,aA]at h;obtain⟨rfl,rfl,rfl,rfl⟩:=h;have hc:=Ty.eqAll_eq _ _ hc;subst hc;obtain⟨a1,A,c',a2,a3,news,a4,a5,a6,a7,a8⟩:=V4 hs hes hm;exact⟨a1,A,c',a2,a3,news,a4,a5,a6,a7,fun j u hj=>by
    obtain⟨t,e1,e2⟩:=a8 j u hj;exact⟨t,e1,e2.keep (fun _ _=>rfl) fun b hb=> .inl hb⟩⟩
 ·split at h
  ·simp only[ad,aA]at h;obtain⟨rfl,rfl,rfl,rfl⟩:=h;have hnat:(Tm.lit 0).nat=0:=rfl;exact⟨by rw[hnat];rfl,none,0,by rw[hnat];rfl,fun _=>hnat,[],by rw[hnat];simp,fun a ha=>(by cases ha),fun u hu=>(by cases hu),by rw[hnat];simp[Tm.pd],fun j u hj=>by simp at hj⟩
  ·rename_i m p k d _;split at h
   ·rename_i es2 e2 cm hcm;split at h
    ·rename_i news hnews;split at h
     ·rename_i N ns' hr;cases hc:(Nat.blt 0 k&&Nat.beq ks.length es)with
      |false=>rw[hc]at h;cases h
      |true=>
       rw[hc]at h;simp only[aP,ad,aA]at h;obtain⟨rfl,rfl,rfl,rfl⟩:=h;rw[ah]at hc;have c2:=af hc.2;obtain⟨t1,t2⟩:=g9 hnews;obtain⟨us,ds,s1,s2,s3,s4,s5⟩:=na hm _ _ _ _ _ _ _ _ hr;have s3:N.pd.q=ds:=by rw[s3];rfl
       have hnat:(Tm.lit (k:Int)).nat=k:=au k;refine⟨by rw[hnat];rfl,some (U.addr m p),(U m).cap-d,by rw[hnat];rfl,fun e=>(by cases e),news.map (SC.val U),by rw[bO,hnat,t2],fun a ha j u hj=>?_,fun u hu=>?_,by rw[hnat,s3,s2,t2],fun j u hj=>?_⟩
       ·cases ha;rw[aM]at hj;obtain⟨q,hq,rfl⟩:=cA.1 hj;have:=md hnews j q hq;rw[b_]at this;have h3:=pX hm hcm (p+j) q this;rw[iw];exact h3
       ·obtain⟨q,_,rfl⟩:=eH.1 hu;exact SC.one q
       ·rw[aM]at hj;obtain⟨q,hq,rfl⟩:=cA.1 hj;obtain⟨e1,e2⟩:=s4 j q hq;have hmod:j%ks.length<ks.length:=eN _ (by omega)
        obtain⟨ty,hty⟩:∃ty,ks[j%ks.length]?=some ty:=⟨_,aj hmod⟩;refine⟨ty,by rw[<-c2];exact hty,us.getD j .no,e1,?_⟩
        rw[s3];exact(e2 ty (by rw[bR];exact hty)).keep (fun _ _=>rfl) fun b hb=> .inr hb
     ·cases h
    ·cases h
   ·cases h
  ·cases h
def aBu(H:bt)(fl es:Nat)(e:TypeId)(ks:List Ty)(s:Option SV):Option (Tm×Tm×Option Nat×List Nat×List Nat):=match avD H es e s with
 |some (len,L,on,ks0,_)=>bif aiz ks0 ks then some (len,L,on,on.toList,[])else none
 |none=>match s with
  |some (.r (.one (.slice n 0 l 0)))=>match get H n with
   |some (.cells es' e' cs)=>match lN H fl ks 0 cs .nil []with
    |some (M,ns)=>bif (Nat.beq es' es&&Nat.beq e' e)&&(Nat.beq cs.length (l*es)&&(Nat.beq ks.length es&&!(rA n ns)))then some (.lit l,M,some n,[],ns)else none
    |none=>none
   |_=>none
  |_=>none
structure aJ7(U:Th)(H:bt)(w:World)(es:Nat)(e:TypeId)(s:Value)(len L:Tm)(on:Option Nat)(ks:List Ty)(Z:Nat->Prop):Prop where
 ln0:(len.nat:Int)=len.den
 own:∃vs:List Value,w.ownsRow 0 e es s len.nat vs/\vs.length=len.nat*es/\L.pd.q.length=len.nat*es/\∀j,j<len.nat*es->∃t u,ks[j%es]?=some t/\gV w Z t (L.pd.q.getD j (.i 0)) u/\vs[j]?=some u
 blk:∀b,s.ownBlock=some b->∃n x,on=some n/\get H n=some x/\gG U n x/\(U n).b=b
theorem avE{fl es:Nat}{e:TypeId}{s:Operand}{len L:Tm}{on:Option Nat}{ks:List Ty}{zs ns:List Nat}(h:aBu H fl es e ks (ev s)=some (len,L,on,zs,ns))(hes:0<es)(hm:b9 U (get H) w)(ha:∀u,ev s=some u->V s=u.val U):aJ7 U H w es e (V s) len L on ks (Zp U H zs ns)/\∀n,on=some n->n∉ns:=by
 unfold aBu at h;split at h
 ·rename_i len' L' on' ks0 z hs;cases hc:aiz ks0 ks with
  |false=>rw[hc]at h;cases h
  |true=>
   rw[hc]at h;simp only[aP,ad,aA]at h;obtain⟨rfl,rfl,rfl,rfl,rfl⟩:=h;have O:=aju (V:=V) hs hes hm ha;obtain⟨vs,v1,v2,v3,v4⟩:=O.own;refine⟨⟨O.ln0,⟨vs,v1,v2,v3,fun j hj=>?_⟩,O.blk⟩,fun n _=>by simp⟩
   obtain⟨kl,t,u,k0,k1,k2,k3⟩:=v4 j hj;rw[k0]at hc;have hk:=Ty.eqAll_eq _ _ hc;subst hk;refine⟨t,u,k1,k2.keep (fun _ _=>rfl) (fun b hb=>?_),k3⟩
   obtain⟨_,_,_,n,x,g1,g2,g3⟩:=O.zb b hb;exact .inl ⟨n,by simp[g1],x,g2,g3⟩
 ·split at h
  ·rename_i n l hsv;split at h
   ·rename_i es' e' cs hn;split at h
    ·rename_i M ns' hr;cases hc:((Nat.beq es' es&&Nat.beq e' e)&&(Nat.beq cs.length (l*es)&&(Nat.beq ks.length es&&!(rA n ns'))))with
     |false=>rw[hc]at h;cases h
     |true=>
      rw[hc]at h;simp only[aP,ad,aA]at h;obtain⟨rfl,rfl,rfl,rfl,rfl⟩:=h;simp only[ah,d7]at hc;obtain⟨⟨c1,c2⟩,c3,c4,c5⟩:=hc;have c1:=af c1;have c2:=af c2;have c3:=af c3;have c4:=af c4;subst c1;subst c2;have hs:V s= .slice (some (U.addr n 0)) l ((U n).cap-0):=ha _ hsv;obtain⟨us,ds,s1,s2,s3,s4,s5⟩:=na hm _ _ _ _ _ _ _ _ hr;have s3:M.pd.q=ds:=by rw[s3];rfl
      have hnat:(Tm.lit (l:Int)).nat=l:=au l;obtain⟨b0,arr,b1,b2,b3⟩:=hm.ok n _ hn;have hcap:=Yn hm hn hes (k:=l) (by omega)
      have b3:(U n).sh=0/\arr.size=(U n).cap*es'/\(U n).cap<=maxLen:=b3.resolve_left (by omega)
      have hle:l*es'<=(U n).cap*es':=bM _ hcap;refine⟨⟨by rw[hnat];rfl,⟨arr.toList.take (l*es'),⟨by rw[bu,fe,hnat];omega,.inr ⟨(U n).b,(U n).cap,arr,?_,ec _,b1,by rw[hnat];exact hcap,b3.2.2,b3.2.1,by rw[hnat]⟩⟩,by rw[bu,fe,hnat];omega,by rw[hnat,s3,s2,c3],fun j hj=>?_⟩,fun b hb=>?_⟩,fun m hm'=>?_⟩
      ·rw[hs,hnat];simp[Th.addr,b3.1]
      ·rw[hnat]at hj;obtain⟨q,hq⟩:∃q,cs[j]?=some q:=⟨_,aj (by omega)⟩
       obtain⟨e1,e2⟩:=s4 j q hq;have hmod:j%ks.length<ks.length:=eN _ (by omega)
       obtain⟨ty,hty⟩:∃ty,ks[j%ks.length]?=some ty:=⟨_,aj hmod⟩;refine⟨ty,_,by rw[<-c4];exact hty,⟨us.getD j .no,e1,?_⟩,?_⟩
       ·rw[s3];exact(e2 ty (by rw[bR];exact hty)).keep (fun _ _=>rfl) fun b hb=> .inr hb
       ·rw[bX,ab hj,b8];have:=b2 j q hq;rw[b3.1,bR]at this;exact this
      ·rw[hs]at hb;have hb:(U n).b=b:=by simpa[Value.ownBlock,Th.addr]using hb
       exact⟨n,_,rfl,hn,trivial,hb⟩
      ·cases hm';exact fun hin=>by rw[zh hin]at c5;cases c5
    ·cases h
   ·cases h
  ·cases h
def afZ(on:Option Nat)(ns:List Nat):Bool:=match on with
 |some n=> !(rA n ns)
 |none=>true
def uw(H:bt)(zs ns:List Nat):Bool:=ig H zs&&ig H ns
def Yv(P:Program)(fl:Nat)(ts:List TypeId)(xs:List (Option SV))(f:Nat)(H:bt):Option (SV×bt×Nat):=match ts with
 | [t,t']=>bif Nat.beq t t' then(match xs with
  | [s,some (.r (.one c))]=>match P.underlying t with
   |some (.slice e)=>match P.info? e with
    |some i=>match o9 P e with
     |some z=>match oM P 10 e with
      |some ks=>match aBu H fl i.size e ks s with
       |some (len,L,on,zs0,ns0)=>match aBj H fl i.size ks c with
        |some (m,M,zs,ns)=>bif Nat.beq z.length i.size&&(Nat.blt 0 i.size&&(Nat.ble i.bytes 1024&&(afZ on ns&&oX (.pl len m) (.lit 1000000))))then
          some (.c (.osl f i.size (.lit 0) (.ln (.cat L M) i.size)),(f,.row true i.size e ks (.cat L M) ⟨some f,uw H (zs0++zs) (ns0++ns)⟩)::ma (xM H on) (ns0++ns),f+1)else none
        |none=>none
       |none=>none
      |none=>none
     |none=>none
    |none=>none
   |_=>none
  |_=>none)else none
 |_=>none
theorem Zp.left{zs ns zs' ns':List Nat}{b:Nat}(h:Zp U H zs ns b):Zp U H (zs++zs') (ns++ns') b:=by
 rcases h with⟨n,hn,x,hx,hz⟩|⟨n,hn,x,hx,hu⟩
 ·exact .inl ⟨n,cq _ hn,x,hx,hz⟩
 ·exact .inr ⟨n,cq _ hn,x,hx,hu⟩
theorem Zp.right{zs ns zs' ns':List Nat}{b:Nat}(h:Zp U H zs' ns' b):Zp U H (zs++zs') (ns++ns') b:=by
 rcases h with⟨n,hn,x,hx,hz⟩|⟨n,hn,x,hx,hu⟩
 ·exact .inl ⟨n,ci _ hn,x,hx,hz⟩
 ·exact .inr ⟨n,ci _ hn,x,hx,hu⟩
theorem Zp.lt(hm:b9 U (get H) w){zs ns:List Nat}{b:Nat}(h:Zp U H zs ns b):b<w.heap.size:=by obtain⟨n,x,_,hx,hu⟩:=h.uses;exact(hm.ok n x hx).uses_lt hu
theorem ahA{fl:Nat}{c:Call}(ho:o.op= .call c)(hc:c.callee= .builtin .append)(h:Yv P fl c.argTypes.toList (c.args.toList.map ev) f H=some (v,H',f'))(hm:b9 U (get H) w)(hl:ga f (get H))(ha:kA U f ev V o):bB P o V U H f w v H' f':=by
 obtain⟨cs,he⟩:=fO (V:=V) ho hc;have hA:∀x∈c.args.toList,∀s,ev x=some s->V x=s.val U/\s.ltB f=true:=fun x hx=>ha x (by simp only[ho,Op.operands,Call.operands,hc];simpa using hx)
 unfold Yv at h;split at h
 ·rename_i t t' hts;cases htt:Nat.beq t t' with
  |false=>rw[htt]at h;cases h
  |true=>
   rw[htt]at h;simp only[aP]at h;have htt:=af htt;subst htt;have hta:c.argTypes= #[t,t]:=by apply Array.ext';exact hts
   split at h
   ·rename_i s cc hxs;obtain⟨x,y,hargs,hx,hy⟩:=Kx hxs;rw[hargs]at hA;have hy:=hA y (by simp) _ hy
    split at h
    ·rename_i e hu;split at h
     ·rename_i i hi;split at h
      ·rename_i z hz;split at h
       ·rename_i ks hks;split at h
        ·rename_i len L on zs0 ns0 hold;split at h
         ·rename_i m M zs ns hsrc;cases hcc:(Nat.beq z.length i.size&&(Nat.blt 0 i.size&&(Nat.ble i.bytes 1024&&(afZ on ns&&oX (.pl len m) (.lit 1000000)))))with
          |false=>rw[hcc]at h;cases h
          |true=>
           rw[hcc]at h;simp only[aP,ad,aA]at h;obtain⟨rfl,rfl,rfl⟩:=h;simp only[ah]at hcc;obtain⟨c1,c2,c3,c4,c5⟩:=hcc;have c1:=af c1;rw[bT]at c2;have c3:=bY c3;have c5:=gj c5;rw[<-hx]at hold;obtain⟨O,hon0⟩:=avE (V:=V) hold c2 hm (fun u hu=>(hA x (by simp) u hu).1)
           have S:=avk hsrc c2 hm;have hyv:V y=cc.val U:=hy.1;rw[<-hyv]at S;obtain⟨vs,v1,v2,v3,v4⟩:=O.own;obtain⟨A,ccap,y1,y2,news,n1,n2,n3,n4,n5⟩:=S.val;have hsum:len.nat+m.nat<=1000000:=by have h1:=O.ln0;have h2:=S.ln0;have h3:len.den+m.den<=1000000:=c5;omega
           obtain⟨zv,z1,z2,z3⟩:=jz hz;have hzero:i.zero=some zv:=by
            have:=z1 w;simp only[zeroValue,typeInfo,Sem.run_bind,run_program,Result.andThen_ok,hi,Sem.run_pure]at this;cases hq:i.zero with
            |none=>rw[hq]at this;simp at this
            |some q=>rw[hq]at this;simp at this;rw[this]
           have hbb:(len.nat+m.nat)*i.bytes<=1000000*1024:=eu hsum c3;obtain⟨v',w',hr,r2,r3,r4⟩:=Qc (P:=P) (w:=w) t o.type e i zv hu hi hzero (by rw[z2 U];simp[c1]) c2 (V x) len.nat vs v1 A m.nat ccap y2 news n1 n2 n3 (mB hsum) (by omega)
           rw[<-y1]at hr;have hon:∀n,on=some n->n∉ns0++ns:=fun n hn hin=>by
            rcases cw.1 hin with h1|h1
            ·exact hon0 n hn h1
            ·rw[hn]at c4;simp only[afZ,d7]at c4;rw[zh h1]at c4;cases c4
           have hZd:∀b,Zp U H (zs0++zs) (ns0++ns) b->(V x).ownBlock≠some b:=fun b hb e=>by
            obtain⟨n,x',g1,g2,g3,g4⟩:=O.blk b e;exact hb.far hm g2 g3 (hon n g1) g4
           have hZk:∀b,Zp U H (zs0++zs) (ns0++ns) b->w'.heap[b]?=w.heap[b]? :=fun b hb=>r3.block b (hb.lt hm) fun e'=>hZd b hb e'.symm
           have hcat:(Tm.cat L M).pd.q=L.pd.q++M.pd.q:=rfl;have hcl:(Tm.cat L M).pd.q.length=(len.nat+m.nat)*i.size:=by rw[hcat,ba,v3,n4,co]
           have hnat:(Tm.ln (.cat L M) i.size).nat=len.nat+m.nat:=by
            show Int.toNat (((Tm.cat L M).pd.q.length/i.size:Nat):Int)=_
            rw[hcl,dQ _ c2];exact au _
           have hcell:∀j,j<(len.nat+m.nat)*i.size->∃ty u,ks[j%i.size]?=some ty/\gV w (Zp U H (zs0++zs) (ns0++ns)) ty ((Tm.cat L M).pd.q.getD j (.i 0)) u/\(vs++news)[j]?=some u:=fun j hj=>by
            by_cases hjl:j<len.nat*i.size
            ·obtain⟨ty,u,k1,k2,k3⟩:=v4 j hjl;refine⟨ty,u,k1,?_,?_⟩
             ·rw[hcat,ae,bl (by omega),<-ae];exact k2.keep (fun _ _=>rfl) fun b hb=>hb.left
             ·rw[bl (by omega)];exact k3
            ·rw[co]at hj;obtain⟨u,hu'⟩:∃u,news[j-len.nat*i.size]?=some u:=⟨_,aj (by omega)⟩
             obtain⟨ty,k1,k2⟩:=n5 _ u hu';have hmod:(j-len.nat*i.size)%i.size=j%i.size:=by
              have:j=len.nat*i.size+(j-len.nat*i.size):=by omega
              rw[this,cN,bU len.nat,gE]
             rw[hmod]at k1;refine⟨ty,u,k1,?_,?_⟩
             ·rw[hcat,ae,bA (by omega),v3,<-ae];exact k2.keep (fun _ _=>rfl) fun b hb=>hb.right
             ·rw[bA (by omega),v2];exact hu'
           have hrunv:∀U':Th,v'=SV.val U' (.c (.osl f i.size (.lit 0) (.ln (.cat L M) i.size)))->(execOp V o).run P w= .ok (.value (SV.val U' (.c (.osl f i.size (.lit 0) (.ln (.cat L M) i.size))))) w':=fun U' hv=>by
            rw[<-hv,he,hargs,hta];simp only[cL,fK,builtin,Sem.run_bind,hr,Result.andThen_ok,Sem.run_pure]
           generalize hG:ma (xM H on) (ns0++ns)=H2;have hold2:∀k y,get H2 k=some y->get H k=some y/\on≠some k/\(ownB y=true->k∉ns0++ns):=fun k y hk=>by
            rw[<-hG]at hk;obtain⟨h1,h2⟩:=mP hk;obtain⟨h3,h4⟩:=lF h1;exact⟨h3,h4,h2⟩
           have hcons:∀ (X:SB) k y,get ((f,X)::H2) k=some y->(k=f/\y=X)\/(k≠f/\get H k=some y):=fun X k y hk=>by
            rw[di]at hk;split at hk
            ·rename_i e';cases hk;exact .inl ⟨e'.symm,rfl⟩
            ·rename_i e';exact .inr ⟨fun e2=>e' e2.symm,(hold2 k y hk).1⟩
           have hstay:∀ (X:SB) k y,k≠f->get ((f,X)::H2) k=some y->get H k=some y/\on≠some k/\(ownB y=true->k∉ns0++ns):=fun X k y hne hk=>by
            rw[di,ak (fun e'=>hne e'.symm)]at hk
            exact hold2 k y hk
           have hkeep:∀ (X:SB) k y b,k≠f->get ((f,X)::H2) k=some y->fc U k y b->w'.heap[b]?=w.heap[b]? :=fun X k y b hne hk hu'=>by
            obtain⟨h1,h2,_⟩:=hstay X k y hne hk;refine r3.block b ((hm.ok k y h1).uses_lt hu') fun e'=>?_
            obtain⟨n,x',g1,g2,g3,g4⟩:=O.blk b e'.symm;exact hm.inj n k x' y b g2 h1 (fun e2=>h2 (by rw[g1,e2])) g3 hu' g4
           have hfr:∀b,b<w.heap.size->(∀n x,get H n=some x->gG U n x->(U n).b≠b)->w'.heap[b]?=w.heap[b]? :=fun b hb hno=>r3.block b hb fun e'=>by
            obtain⟨n,x',g1,g2,g3,g4⟩:=O.blk b e'.symm;exact hno n x' g2 g3 g4
           obtain⟨hxl,hform⟩:=r2;have hrz:(⟨some f,uw H (zs0++zs) (ns0++ns)⟩:RZ).ltB (f+1)=true:=by simp[RZ.ltB]
           rcases hform with⟨hv',hz0⟩|⟨g,cap,cur,hv',_,hg,hncap,hcap,hcsz,htake⟩
           ·
            have hL0:(Tm.cat L M).pd.q=[]:=dx (by rw[hcl,hz0,dc])
            refine⟨hU U f ⟨0,0,0,⟨true,.no,fun _=>False⟩⟩,w',.inl (hrunv _ ?_),?_,by simp[SV.ltB,SR.ltB,SC.ltB]⟩
            ·rw[hv']
             show _=fA (Th.row _ f) 0 _ _
             rw[hnat,hz0];simp[Th.row,bK,fA]
            ·have hzf:∀b,¬cu (hU U f ⟨0,0,0,⟨true,.no,fun _=>False⟩⟩) ⟨some f,uw H (zs0++zs) (ns0++ns)⟩ b:=fun b hb=>by
              simp only[cu,bK]at hb
             exact vG (n:=f) hm hl (fun k hk=>e9 hk) (Nat.le_succ f) (g7 f) hrz
              (y:= .row true i.size e ks (.cat L M) ⟨some f,uw H (zs0++zs) (ns0++ns)⟩)
              ⟨.inl ⟨by rw[bK],hL0,rfl⟩,fun b hb=>(hzf b hb).elim⟩ (hcons _)
              (fun o=>by have o:(hU U f _ f).x.nl=false:=o;rw[bK]at o;cases o) (fun o=>by have o:(hU U f _ f).x.nl=false:=o;rw[bK]at o;cases o)
              (fun b hb=>(hzf b hb).elim) (fun b hb=>(hzf b hb).elim) (hkeep _) hfr r3.size r3.os r3.tape r3.output
           ·have hgo:(∃n x',on=some n/\get H n=some x'/\gG U n x'/\(U n).b=g)\/g=w.heap.size:=by
             rcases r4 with r4|r4
             ·rw[hv']at r4;exact .inl (O.blk g r4.symm)
             ·rw[hv']at r4;exact .inr (by simpa[Value.ownBlock]using r4)
            generalize hθ:hU U f ⟨g,0,cap,⟨false,.no,Zp U H (zs0++zs) (ns0++ns)⟩⟩=U';have hf:U' f=⟨g,0,cap,⟨false,.no,Zp U H (zs0++zs) (ns0++ns)⟩⟩:=by rw[<-hθ,bK]
            have hzo:∀b,cu U' ⟨some f,uw H (zs0++zs) (ns0++ns)⟩ b↔Zp U H (zs0++zs) (ns0++ns) b:=fun b=>by simp only[cu,hf]
            have hZg:∀b,Zp U H (zs0++zs) (ns0++ns) b->b≠g:=fun b hb e'=>by
             rcases hgo with⟨n,x',g1,g2,g3,g4⟩|hgo
             ·exact hb.far hm g2 g3 (hon n g1) (by rw[g4,e'])
             ·have:=hb.lt hm;omega
            have hblk:ek U' w' f (.row true i.size e ks (.cat L M) ⟨some f,uw H (zs0++zs) (ns0++ns)⟩):=by
             refine⟨.inr ⟨by rw[hf],cur,by rw[hf];exact hg,fun j hj=>?_,fun _=>?_⟩,fun b hb=>?_⟩
             ·rw[hcl]at hj;obtain⟨ty,u,k1,k2,k3⟩:=hcell j hj;refine⟨ty,u,k1,k2.keep hZk fun b hb=>(hzo b).2 hb,?_⟩
              rw[hf]
              show cur[0+j]?=_
              rw[<-htake,bX,ab hj,b8]at k3;rw[bR,k3]
             ·rw[hf];exact⟨rfl,hcsz,hcap,_,hcl,hncap⟩
             ·have hb:=(hzo b).1 hb;refine⟨dm (hb.lt hm) r3.size,fun _=>by rw[hf];exact hZg b hb,fun hfre=>?_⟩
              have hfre:(ig H (zs0++zs)&&ig H (ns0++ns))=true:=hfre;rw[ah]at hfre;exact hb.fresh hm hfre.1 hfre.2
            refine⟨U',w',.inl (hrunv _ ?_),?_,by simp[SV.ltB,SR.ltB,SC.ltB]⟩
            ·rw[hv']
             show _=fA (Th.row _ f) 0 _ _
             rw[hnat];simp only[Th.row,hf,cD,fA,Th.addr,dc,dX,bR,de];split <;>simp[Addr.add]
            ·refine vG (n:=f) (y:= .row true i.size e ks (.cat L M) ⟨some f,uw H (zs0++zs) (ns0++ns)⟩) hm hl (fun k hk=>by rw[<-hθ];exact e9 hk) (Nat.le_succ f) (g7 f) hrz hblk (hcons _)
              (fun _=>?_) (fun _ k y' b hne hk hu'=>?_) (fun b hb k y' hne hk ho'=>?_) (fun b hb=>?_) (hkeep _) hfr r3.size r3.os r3.tape r3.output
             ·rw[hf];rcases hgo with⟨n,x',g1,g2,g3,g4⟩|hgo
              ·exact .inl ⟨n,x',g2,g3,g4⟩
              ·exact .inr (kr hgo.symm)
             ·rw[hf];obtain⟨h1,h2,_⟩:=hstay _ k y' hne hk;rcases hgo with⟨n,x',g1,g2,g3,g4⟩|hgo
              ·intro e';exact hm.inj n k x' y' b g2 h1 (fun e2=>h2 (by rw[g1,e2])) g3 hu' (by rw[g4,e'])
              ·have:=(hm.ok k y' h1).uses_lt hu'
               show b≠g
               omega
             ·have hb:=(hzo b).1 hb;obtain⟨h1,h2,h3⟩:=hstay _ k y' hne hk;exact hb.far hm h1 ho' (h3 ho'.ownB)
             ·obtain⟨n,x',_,g2,g3⟩:=((hzo b).1 hb).uses;exact .inl ⟨n,x',g2,g3⟩
         ·cases h
        ·cases h
       ·cases h
      ·cases h
     ·cases h
    ·cases h
   ·cases h
 ·cases h
end
end
end Go.Proofs.YtlchkibailfldaaGreat.Ex
