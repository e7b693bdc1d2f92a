/-
  The statement TopTilesSaid is proved: for every input that the row speaks of, the law returns true and leaves what it was given as it was. No condition beyond the row's own.
-/
import Derived.Test.YtlchkibailfldaaGreatM22
import Derived.Test.YtlchkibailfldaaGreatRows
set_option linter.unusedVariables false
set_option linter.unusedSimpArgs false
set_option linter.unusedSectionVars false
namespace Go.Proofs.YtlchkibailfldaaGreat.topTiles
open Go.ChangeShapes Go.WideShapes Go.ChangeAt Go.RowKit
theorem own:ownKnob Tryz.prog.godebug=none:=by kernel_rfl
theorem laidOut:laidOutB Tryz.prog=true:=by kernel_rfl
set_option maxRecDepth 100000 in
theorem lifted(os:Os)(started:os.Started)(H:Type)(enc:TypeId×Value->H):
  ReturnsInHanded {} Tryz.checked os 3 .any (Rows.topTilesSpec.pre6 enc Tryz.prog Tryz.f3 Rows.topTilesRow.domain false) (Rows.topTilesSpec.post enc Tryz.prog Tryz.f3 false true false false):=by
 refine returnsInHanded_of_change (C:=Tryz.checked) own started (by kernel_rfl) Tryz.func3
  (ChangeSpec.witness6 (enc:=enc) (C:=Tryz.checked) false ⟨#[],#[.slice none 0 0,.int .i64 0],[]⟩ 8 (by kernel_rfl) (by kernel_rfl) (by kernel_rfl) (by kernel_rfl)) ?_
 intro W base args ds gs before hval0 hW hcnd _;have hval:∀ (j:Nat) t v,Tryz.f3.params[j]?=some t->args[j]?=some v->Value.okWide Tryz.prog W .any base t v:=hval0;have hW':=hW;obtain⟨p,q,hA0,hV,rfl,hfz,hnd⟩:=hW;have hA:DataW.TrodAll enc Tryz.prog W 0 (fun _=>true) true Tryz.f3.params.toList args.toList ds p:=hA0
 rw[Tryz.params3]at hA hval;obtain⟨v0,vs0,d0,ds0,p0,q0,hargs,rfl,rfl,h0,r0⟩:=trodAll_cons hA;obtain⟨v1,vs1,d1,ds1,p1,q1,rfl,rfl,rfl,h1,r1⟩:=trodAll_cons r0;obtain⟨rfl,rfl,rfl⟩:=trodAll_nil r1;obtain rfl:args= #[v0,v1]:=by cases args;simp_all
 obtain⟨rfl,rfl⟩:=trodVars_none hV
 clear hA0 hval0
 simp only[List.append_nil]at hW';have hk0:=h0;have hlt0:∀x∈p0,x.block<W.heap.size:=fun x hx=>hW'.lt x (cq _ hx)
 obtain⟨A0,n0,c0,rfl,k0,s0,z0⟩:=Ru Tryz.underlying22 (hval 0 22 v0 rfl rfl);obtain⟨xs0,hx0,hn0⟩:=arn Tryz.underlying22 Tryz.underlying3 (by kernel_rfl) h0 hlt0
 have hk1:=h1;have hlt1:∀x∈p1,x.block<W.heap.size:=fun x hx=>hW'.lt x (ci _ (hx))
 obtain⟨a1,rfl,rfl,rfl,w1⟩:=open_int Tryz.underlying3 (hval 1 3 v1 rfl rfl) h1;obtain⟨b1,c1⟩:=UL w1;refine(aoZ (w:=W) A0 n0 c0 xs0 hx0 hn0 k0 s0 z0 a1).mono fun e W' ⟨he,hb⟩=>?_
 subst he;refine⟨_,rfl,_,_,_,[],_,[],hW',trodAll_cons_mk (shut_bool Tryz.underlying4 _) trodAll_mk0,(trodAll_cons_mk (Below.trod laidOut (by kernel_rfl) (of_decide_eq_true (by kernel_rfl)) hk0 hb hlt0) (trodAll_cons_mk (Below.trod laidOut (by kernel_rfl) (of_decide_eq_true (by kernel_rfl)) hk1 hb hlt1) trodAll_mk0)),rfl,hb.frame _,fun h=>by cases h⟩
theorem over:Rows.topTilesRow.holds Tryz.pinned (OpenSpec.ofChange Rows.topTilesSpec):=
 OpenClaim.holds_of_wide 3 Tryz.f3 rfl rfl rfl rfl rfl rfl rfl ⟨rfl,rfl,rfl,rfl,rfl⟩ rfl rfl rfl rfl rfl (by kernel_rfl) Tryz.func3 (by kernel_rfl)
  (of_decide_eq_true (by kernel_rfl)) (by unfold Func.isWrapper;first|(rw[ab (by decide+kernel)];kernel_rfl)|(rw[ak (by decide+kernel)];exact⟨rfl,rfl⟩))
  (fun os started H enc _=>lifted os started H enc)
theorem proved:Rows.TopTilesSaid:=over
end Go.Proofs.YtlchkibailfldaaGreat.topTiles
