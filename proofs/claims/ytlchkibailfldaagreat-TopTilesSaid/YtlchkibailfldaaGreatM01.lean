/-
  Part 1 of the proof that TopTiles returns true at every call and leaves what it was given as it was; no condition beyond the row's own.
-/
import Derived.Below
import Derived.BigFrame
import Derived.Deep.AppendLies
import Derived.Deep.MidRow
import Derived.KernelRfl
import Derived.Laws.CopyRow
import Derived.Laws.MakeOwn
import Derived.WalkKit
set_option linter.unusedVariables false
set_option linter.unusedSimpArgs false
set_option linter.unusedSectionVars false
set_option linter.defProp false
namespace Go.Proofs.YtlchkibailfldaaGreat
open Go Go.RowKit
def da:=@Array.getD_eq_getD_getElem?
def ca:=@Array.getElem?_eq_getElem
def cP:=@Array.getElem?_eq_some_iff
def fU:=@Array.getElem?_setIfInBounds_ne
def eI:=@Array.getElem?_setIfInBounds_self_of_lt
def b8:=@Array.getElem?_toList
def fe:=@Array.length_toList
def gt:=@Array.mem_toList_iff
def ah:=@Bool.and_eq_true
def jy:=@Bool.eq_iff_iff
def aw:=@Bool.false_eq_true
def jF:=@Bool.false_or
def d7:=@Bool.not_eq_true'
def jE:=@Bool.not_true
def eQ:=@Bool.or_eq_true
def dY:=@Bool.or_eq_true_iff
def g8:=@Int.ediv_le_self
def gF:=@Int.ediv_nonneg
def aN:=@Int.eq_ofNat_of_zero_le
def fM:=@Int.le_ediv_iff_mul_le
def iW:=@Int.mul_le_mul
def gr:=@Int.mul_nonneg
def aX:=@Int.natCast_mul
def js:=@Int.natCast_nonneg
def dn:=@Int.tdiv_eq_ediv_of_nonneg
def fL:=@Int.tmod_eq_emod_of_nonneg
def au:=@Int.toNat_natCast
def jD:=@List.all_cons
def be:=@List.all_eq_true
def d6:=@List.any_eq_false
def dg:=@List.append_assoc
def aZ:=@List.cons_append
def jr:=@List.countP_append
def eY:=@List.drop_eq_getElem_cons
def eO:=@List.drop_zero
def dx:=@List.eq_nil_of_length_eq_zero
def cF:=@List.ext_getElem?
def fg:=@List.flatMap_cons
def iN:=@List.flatten_append
def iM:=@List.getD_cons_succ
def ae:=@List.getD_eq_getElem?_getD
def gq:=@List.getElem?_append
def bl:=@List.getElem?_append_left
def bA:=@List.getElem?_append_right
def bk:=@List.getElem?_cons_succ
def bn:=@List.getElem?_cons_zero
def b_:=@List.getElem?_drop
def aj:=@List.getElem?_eq_getElem
def bp:=@List.getElem?_eq_none
def av:=@List.getElem?_eq_some_iff
def aM:=@List.getElem?_map
def dM:=@List.getElem?_of_mem
def cI:=@List.getElem?_range
def dh:=@List.getElem?_replicate
def dF:=@List.getElem?_set
def iB:=@List.getElem?_set_ne
def ej:=@List.getElem?_set_self
def bX:=@List.getElem?_take
def eF:=@List.getElem?_toArray
def ce:=@List.getElem_mem
def ba:=@List.length_append
def cj:=@List.length_cons
def cJ:=@List.length_drop
def bO:=@List.length_map
def dr:=@List.length_nil
def cR:=@List.length_replicate
def dJ:=@List.length_set
def bu:=@List.length_take
def fR:=@List.map_append
def cg:=@List.map_congr_left
def cL:=@List.map_cons
def fK:=@List.map_nil
def cw:=@List.mem_append
def cq:=@List.mem_append_left
def ci:=@List.mem_append_right
def aS:=@List.mem_cons
def aU:=@List.mem_cons_of_mem
def bN:=@List.mem_cons_self
def jw:=@List.mem_filter
def eH:=@List.mem_map
def bS:=@List.mem_of_getElem?
def fD:=@List.mem_of_mem_take
def ij:=@List.mem_or_eq_of_mem_set
def dv:=@List.mem_range
def ck:=@List.mem_singleton
def bg:=@List.nil_append
def eV:=@List.not_mem_nil
def ik:=@List.range_succ
def iA:=@List.size_toArray
def jP:=@List.take_add_one
def ez:=@List.take_length
def cf:=@List.take_of_length_le
def dy:=@List.take_succ_eq_append_getElem
def cT:=@Nat.add_assoc
def kv:=@Nat.add_comm
def co:=@Nat.add_mul
def jq:=@Nat.add_right_comm
def cN:=@Nat.add_sub_cancel_left
def ch:=@Nat.add_zero
def ku:=@Nat.beq_refl
def bT:=@Nat.blt_eq
def eP:=@Nat.div_add_mod
def fk:=@Nat.div_lt_iff_lt_mul
def gp:=@Nat.div_lt_of_lt_mul
def lL:=@Nat.div_one
def af:=@Nat.eq_of_beq_eq_true
def dR:=@Nat.eq_zero_or_pos
def bY:=@Nat.le_of_ble_eq_true
def kr:=@Nat.le_of_eq
def bD:=@Nat.le_refl
def dB:=@Nat.le_trans
def dm:=@Nat.lt_of_lt_of_le
def fJ:=@Nat.lt_or_ge
def g7:=@Nat.lt_succ_self
def fQ:=@Nat.min_eq_left
def kq:=@Nat.mod_eq_of_lt
def eN:=@Nat.mod_lt
def gn:=@Nat.mod_one
def gE:=@Nat.mul_add_mod
def bU:=@Nat.mul_comm
def dQ:=@Nat.mul_div_cancel
def eu:=@Nat.mul_le_mul
def bM:=@Nat.mul_le_mul_right
def ed:=@Nat.mul_one
def je:=@Nat.mul_pos
def dd:=@Nat.one_mul
def kp:=@Nat.sub_self
def dX:=@Nat.sub_zero
def bR:=@Nat.zero_add
def ec:=@Nat.zero_le
def dc:=@Nat.zero_mul
def dw:=@Option.getD_some
def cA:=@Option.map_eq_some_iff
def de:=@Option.map_some
def ad:=@Option.some.injEq
def aA:=@Prod.mk.injEq
def cD:=@cond_false
def aP:=@cond_true
def iS:=@if_false
def ak:=@if_neg
def ab:=@if_pos
def gN:=@if_true
def dP:=@not_not_intro
end Go.Proofs.YtlchkibailfldaaGreat
namespace Go.Proofs.YtlchkibailfldaaGreat.Ex
open Go Go.RowKit
section
inductive PD where
 |i (x:Int)
 |l (xs:List PD)
def PD.n:PD->Int
 | .i x=>x
 | .l _=>0
def PD.q:PD->List PD
 | .i _=>[]
 | .l xs=>xs
@[simp] theorem aec(x:Int):(PD.i x).n=x:=rfl
@[simp] theorem aJa(xs:List PD):(PD.l xs).q=xs:=rfl
inductive Ty where
 |int (k:IntKind)
 |bool
 |lst (tys:List Ty)
inductive VT where
 |mk (v:Value) (sub:List VT)
def VT.v:VT->Value
 | .mk v _=>v
def VT.sub:VT->List VT
 | .mk _ s=>s
def VT.no:VT:= .mk (.slice none 0 0) []
inductive Tm where
 |lit (x:Int)
 |sym (i:Nat)
 |len (i:Nat)
 |add (k:IntKind) (a b:Tm)
 |sub (k:IntKind) (a b:Tm)
 |mul (k:IntKind) (a b:Tm)
 |quo (k:IntKind) (a b:Tm)
 |rem (k:IntKind) (a b:Tm)
 |mn (a b:Tm)
 |mx (a b:Tm)
 |ap (f:Nat) (a b:Tm)
 |ds (i:Nat)
 |el (a t:Tm) (es j:Nat)
 |ln (a:Tm) (es:Nat)
 |nil
 |snoc (a x:Tm)
 |cat (a b:Tm)
 |rep (n x:Tm)
 |set (a t:Tm) (es j:Nat) (x:Tm)
 |cut (a lo hi:Tm) (es:Nat)
 |spl (a t b:Tm)
 |shl (k:IntKind) (a b:Tm)
 |shr (k:IntKind) (a b:Tm)
 |ind (a b:Tm) (c:Nat)
 |pl (a b:Tm)
 |mi (a b:Tm)
 |snocD (a x:Tm)
 |setD (a t:Tm) (es j:Nat) (x:Tm)
 |repL (n x:Tm)
 |mf (a k:Tm) (c:Nat)
inductive Bm where
 |lt (a b:Tm)
 |le (a b:Tm)
 |eq (a b:Tm)
 |tru (a:Tm)
inductive Pa where
 |root
 |el (p:Pa) (t:Tm) (es j:Nat)
 |cut (p:Pa) (lo hi:Tm) (es:Nat)
def lenOf:Value->Nat
 | .slice _ n _=>n
 |_=>0
inductive SC where
 |int (k:IntKind) (x:Int)
 |bool (b:Bool)
 |nilp
 |ptr (n o:Nat)
 |nils
 |slice (n o l d:Nat)
 |nilm
 |map (n:Nat)
 |str (s:ByteArray)
 |nilFn
 |nilIf
 |fn (f:Nat) (caps:List (Nat×Nat))
 |sym (k:IntKind) (t:Tm)
 |opq (i:Nat)
 |optr (p o:Nat)
 |bq (b:Bm)
 |dat (n:Nat) (p:Pa)
 |ep (n:Nat) (p:Pa) (t:Tm) (es o:Nat)
 |rp (n:Nat) (t:Tm) (es o:Nat)
 |osl (n es:Nat) (lo hi:Tm)
def SC.flat:SC->Bool
 | .int _ _| .bool _| .nilp| .nils| .nilm| .sym _ _| .opq _| .optr _ _=>true
 |_=>false
class Sy where
 n:Nat->Int
 fn:Nat->Int->Int->Int
 p:Nat->PD:=fun _=> .i 0
 v:Nat->{x:Value //x.oneCell'=true}
 B:Nat
 w0:World
 pt:Nat->Addr:=fun _=>⟨0,0,none⟩
 F:Nat:=0
 io:Nat:=0
@[reducible] def Sy.bare(w:World):Sy:={n:=fun _=>0,fn:=fun _ _ _=>0,v:=fun _=>⟨.bool false,rfl⟩,B:=0,w0:=w}
variable [Sy]
def lV:List PD->Int->Option PD
 |a::b::r,k=>if a.n=k then some b else lV r k
 |_,_=>none
def Tm.pd:Tm->PD
 | .lit x=> .i x
 | .sym i=> .i (Sy.n i)
 | .len i=> .i (lenOf (Sy.v i).1:Int)
 | .add k a b=> .i (k.wrap (a.pd.n+b.pd.n))
 | .sub k a b=> .i (k.wrap (a.pd.n-b.pd.n))
 | .mul k a b=> .i (k.wrap (a.pd.n*b.pd.n))
 | .quo k a b=> .i (k.wrap (a.pd.n.tdiv b.pd.n))
 | .rem _ a b=> .i (a.pd.n.tmod b.pd.n)
 | .mn a b=> .i (if b.pd.n<a.pd.n then b.pd.n else a.pd.n)
 | .mx a b=> .i (if a.pd.n<b.pd.n then b.pd.n else a.pd.n)
 | .ap f a b=> .i (Sy.fn f a.pd.n b.pd.n)
 | .ds i=>Sy.p i
 | .el a t es j=>a.pd.q.getD (t.pd.n.toNat*es+j) (.i 0)
 | .ln a es=> .i ((a.pd.q.length/es:Nat):Int)
 | .nil=> .l []
 | .snoc a x=> .l (a.pd.q++[.i x.pd.n])
 | .cat a b=> .l (a.pd.q++b.pd.q)
 | .rep n x=> .l (List.replicate n.pd.n.toNat (.i x.pd.n))
 | .set a t es j x=> .l (a.pd.q.set (t.pd.n.toNat*es+j) (.i x.pd.n))
 | .cut a lo hi es=> .l ((a.pd.q.take (hi.pd.n.toNat*es)).drop (lo.pd.n.toNat*es))
 | .spl a t b=> .l ((a.pd.q.take t.pd.n.toNat++b.pd.q++a.pd.q.drop (t.pd.n.toNat+b.pd.q.length)).take a.pd.q.length)
 | .shl k a b=> .i (k.wrap (a.pd.n*2^b.pd.n.toNat))
 | .shr _ a b=> .i (a.pd.n/2^b.pd.n.toNat)
 | .ind a b c=> .i (match c with
  |0=>if a.pd.n<b.pd.n then 1 else 0
  |1=>if a.pd.n<=b.pd.n then 1 else 0
  |2=>if a.pd.n=b.pd.n then 1 else 0
  |3=>if a.pd.n=b.pd.n then 0 else 1
  |_=>0)
 | .pl a b=> .i (a.pd.n+b.pd.n)
 | .mi a b=> .i (a.pd.n-b.pd.n)
 | .snocD a x=> .l (a.pd.q++[.l x.pd.q])
 | .setD a t es j x=> .l (a.pd.q.set (t.pd.n.toNat*es+j) (.l x.pd.q))
 | .repL n x=> .l (List.replicate n.pd.n.toNat x.pd.q).flatten
 | .mf a k c=>(match c with
  |0=> .i (if(lV a.pd.q k.pd.n).isSome then 1 else 0)
  |_=> .l ((lV a.pd.q k.pd.n).getD (.l [])).q)
def Tm.den(t:Tm):Int:=t.pd.n
def Tm.nat(t:Tm):Nat:=t.pd.n.toNat
def Bm.den:Bm->Bool
 | .lt a b=>decide (a.den<b.den)
 | .le a b=>decide (a.den<=b.den)
 | .eq a b=>decide (a.den=b.den)
 | .tru a=>decide (a.den≠0)
def adu:Value->Option Addr
 | .slice a _ _=>a
 |_=>none
def xY:Value->Value
 | .slice a n c=> .slice a n c
 |_=> .slice none 0 0
def fA(v:Value)(lo hi es:Nat):Value:=match v with
 | .slice a n c=> .slice (if c=lo then a else a.map (·.add (lo*es))) (hi-lo) (c-lo)
 |_=> .slice none 0 0
def Pa.vt(x:VT):Pa->VT
 | .root=>x
 | .el p t es j=>(p.vt x).sub.getD (t.nat*es+j) .no
 | .cut p lo hi es=> .mk (fA (p.vt x).v lo.nat hi.nat es) (((p.vt x).sub.take (hi.nat*es)).drop (lo.nat*es))
def Tm.eqB:Tm->Tm->Bool
 | .lit x,.lit y=>decide (x=y)
 | .sym i,.sym j=>Nat.beq i j
 | .len i,.len j=>Nat.beq i j
 | .add k a b,.add k' a' b'=>decide (k=k')&&(Tm.eqB a a'&&Tm.eqB b b')
 | .sub k a b,.sub k' a' b'=>decide (k=k')&&(Tm.eqB a a'&&Tm.eqB b b')
 | .mul k a b,.mul k' a' b'=>decide (k=k')&&(Tm.eqB a a'&&Tm.eqB b b')
 | .quo k a b,.quo k' a' b'=>decide (k=k')&&(Tm.eqB a a'&&Tm.eqB b b')
 | .rem k a b,.rem k' a' b'=>decide (k=k')&&(Tm.eqB a a'&&Tm.eqB b b')
 | .mn a b,.mn a' b'=>Tm.eqB a a'&&Tm.eqB b b'
 | .mx a b,.mx a' b'=>Tm.eqB a a'&&Tm.eqB b b'
 | .ap f a b,.ap f' a' b'=>Nat.beq f f'&&(Tm.eqB a a'&&Tm.eqB b b')
 | .ds i,.ds j=>Nat.beq i j
 | .el a t m j,.el a' t' m' j'=>Nat.beq m m'&&(Nat.beq j j'&&(Tm.eqB a a'&&Tm.eqB t t'))
 | .ln a m,.ln a' m'=>Nat.beq m m'&&Tm.eqB a a'
 | .nil,.nil=>true
 | .snoc a b,.snoc a' b'=>Tm.eqB a a'&&Tm.eqB b b'
 | .cat a b,.cat a' b'=>Tm.eqB a a'&&Tm.eqB b b'
 | .rep a b,.rep a' b'=>Tm.eqB a a'&&Tm.eqB b b'
 | .set a t m j x,.set a' t' m' j' x'=>Nat.beq m m'&&(Nat.beq j j'&&(Tm.eqB a a'&&(Tm.eqB t t'&&Tm.eqB x x')))
 | .cut a b c m,.cut a' b' c' m'=>Nat.beq m m'&&(Tm.eqB a a'&&(Tm.eqB b b'&&Tm.eqB c c'))
 | .spl a b c,.spl a' b' c'=>Tm.eqB a a'&&(Tm.eqB b b'&&Tm.eqB c c')
 | .shl k a b,.shl k' a' b'=>decide (k=k')&&(Tm.eqB a a'&&Tm.eqB b b')
 | .shr k a b,.shr k' a' b'=>decide (k=k')&&(Tm.eqB a a'&&Tm.eqB b b')
 | .ind a b c,.ind a' b' c'=>Nat.beq c c'&&(Tm.eqB a a'&&Tm.eqB b b')
 | .pl a b,.pl a' b'=>Tm.eqB a a'&&Tm.eqB b b'
 | .mi a b,.mi a' b'=>Tm.eqB a a'&&Tm.eqB b b'
 | .snocD a b,.snocD a' b'=>Tm.eqB a a'&&Tm.eqB b b'
 | .setD a t m j x,.setD a' t' m' j' x'=>Nat.beq m m'&&(Nat.beq j j'&&(Tm.eqB a a'&&(Tm.eqB t t'&&Tm.eqB x x')))
 | .repL a b,.repL a' b'=>Tm.eqB a a'&&Tm.eqB b b'
 | .mf a b c,.mf a' b' c'=>Nat.beq c c'&&(Tm.eqB a a'&&Tm.eqB b b')
 |_,_=>false
theorem Tm.eqB_eq:∀ {a b:Tm},Tm.eqB a b=true->a=b:=by
 intro a
 induction a with
 |lit x=>intro b h;cases b<;>simp only[Tm.eqB,aw,decide_eq_true_eq]at h;rw[h]
 |sym i=>intro b h;cases b<;>simp only[Tm.eqB,aw]at h;rw[af h]
 |len i=>intro b h;cases b<;>simp only[Tm.eqB,aw]at h;rw[af h]
 |add k a b iha ihb=>intro c h;cases c<;>simp only[Tm.eqB,aw,ah,decide_eq_true_eq]at h;rw[h.1,iha h.2.1,ihb h.2.2]
 |sub k a b iha ihb=>intro c h;cases c<;>simp only[Tm.eqB,aw,ah,decide_eq_true_eq]at h;rw[h.1,iha h.2.1,ihb h.2.2]
 |mul k a b iha ihb=>intro c h;cases c<;>simp only[Tm.eqB,aw,ah,decide_eq_true_eq]at h;rw[h.1,iha h.2.1,ihb h.2.2]
 |quo k a b iha ihb=>intro c h;cases c<;>simp only[Tm.eqB,aw,ah,decide_eq_true_eq]at h;rw[h.1,iha h.2.1,ihb h.2.2]
 |rem k a b iha ihb=>intro c h;cases c<;>simp only[Tm.eqB,aw,ah,decide_eq_true_eq]at h;rw[h.1,iha h.2.1,ihb h.2.2]
 |mn a b iha ihb=>intro c h;cases c<;>simp only[Tm.eqB,aw,ah]at h;rw[iha h.1,ihb h.2]
 |mx a b iha ihb=>intro c h;cases c<;>simp only[Tm.eqB,aw,ah]at h;rw[iha h.1,ihb h.2]
 |ap f a b iha ihb=>intro c h;cases c<;>simp only[Tm.eqB,aw,ah]at h;rw[af h.1,iha h.2.1,ihb h.2.2]
 |ds i=>intro b h;cases b<;>simp only[Tm.eqB,aw]at h;rw[af h]
 |el a t m j iha iht=>intro c h;cases c<;>simp only[Tm.eqB,aw,ah]at h;rw[af h.1,af h.2.1,iha h.2.2.1,iht h.2.2.2]
 |ln a m iha=>intro c h;cases c<;>simp only[Tm.eqB,aw,ah]at h;rw[af h.1,iha h.2]
 |nil=>intro c h;cases c<;>simp only[Tm.eqB,aw]at h;rfl
 |snoc a b iha ihb=>intro c h;cases c<;>simp only[Tm.eqB,aw,ah]at h;rw[iha h.1,ihb h.2]
 |cat a b iha ihb=>intro c h;cases c<;>simp only[Tm.eqB,aw,ah]at h;rw[iha h.1,ihb h.2]
 |rep a b iha ihb=>intro c h;cases c<;>simp only[Tm.eqB,aw,ah]at h;rw[iha h.1,ihb h.2]
 |set a t m j x iha iht ihx=>intro c h;cases c<;>simp only[Tm.eqB,aw,ah]at h;rw[af h.1,af h.2.1,iha h.2.2.1,iht h.2.2.2.1,ihx h.2.2.2.2]
 |cut a b c m iha ihb ihc=>intro d h;cases d<;>simp only[Tm.eqB,aw,ah]at h;rw[af h.1,iha h.2.1,ihb h.2.2.1,ihc h.2.2.2]
 |spl a b c iha ihb ihc=>intro d h;cases d<;>simp only[Tm.eqB,aw,ah]at h;rw[iha h.1,ihb h.2.1,ihc h.2.2]
 |shl k a b iha ihb=>intro c h;cases c<;>simp only[Tm.eqB,aw,ah,decide_eq_true_eq]at h;rw[h.1,iha h.2.1,ihb h.2.2]
 |shr k a b iha ihb=>intro c h;cases c<;>simp only[Tm.eqB,aw,ah,decide_eq_true_eq]at h;rw[h.1,iha h.2.1,ihb h.2.2]
 |pl a b iha ihb=>intro c h;cases c<;>simp only[Tm.eqB,aw,ah]at h;rw[iha h.1,ihb h.2]
 |mi a b iha ihb=>intro c h;cases c<;>simp only[Tm.eqB,aw,ah]at h;rw[iha h.1,ihb h.2]
 |snocD a b iha ihb=>intro c h;cases c<;>simp only[Tm.eqB,aw,ah]at h;rw[iha h.1,ihb h.2]
 |setD a t m j x iha iht ihx=>intro c h;cases c<;>simp only[Tm.eqB,aw,ah]at h;rw[af h.1,af h.2.1,iha h.2.2.1,iht h.2.2.2.1,ihx h.2.2.2.2]
 |repL a b iha ihb=>intro c h;cases c<;>simp only[Tm.eqB,aw,ah]at h;rw[iha h.1,ihb h.2]
 |mf a b c iha ihb=>intro d h;cases d<;>simp only[Tm.eqB,aw,ah]at h;rw[af h.1,iha h.2.1,ihb h.2.2]
 |ind a b c iha ihb=>intro d h;cases d<;>simp only[Tm.eqB,aw,ah]at h;rw[af h.1,iha h.2.1,ihb h.2.2]
def Bm.eqB:Bm->Bm->Bool
 | .lt a b,.lt c d=>Tm.eqB a c&&Tm.eqB b d
 | .le a b,.le c d=>Tm.eqB a c&&Tm.eqB b d
 | .eq a b,.eq c d=>Tm.eqB a c&&Tm.eqB b d
 | .tru a,.tru c=>Tm.eqB a c
 |_,_=>false
theorem Bm.eqB_eq{a b:Bm}(h:Bm.eqB a b=true):a=b:=by cases a<;>cases b<;>simp only[Bm.eqB,aw,ah]at h<;>first|rw[Tm.eqB_eq h.1,Tm.eqB_eq h.2]|rw[Tm.eqB_eq h]
def Pa.eqB:Pa->Pa->Bool
 | .root,.root=>true
 | .el p t m j,.el p' t' m' j'=>Nat.beq m m'&&(Nat.beq j j'&&(Pa.eqB p p'&&Tm.eqB t t'))
 | .cut p a b m,.cut p' a' b' m'=>Nat.beq m m'&&(Pa.eqB p p'&&(Tm.eqB a a'&&Tm.eqB b b'))
 |_,_=>false
theorem Pa.eqB_eq:∀ {a b:Pa},Pa.eqB a b=true->a=b:=by
 intro a
 induction a with
 |root=>intro b h;cases b<;>simp only[Pa.eqB,aw]at h;rfl
 |el p t m j ihp=>intro b h;cases b<;>simp only[Pa.eqB,aw,ah]at h;rw[af h.1,af h.2.1,ihp h.2.2.1,Tm.eqB_eq h.2.2.2]
 |cut p x y m ihp=>intro b h;cases b<;>simp only[Pa.eqB,aw,ah]at h;rw[af h.1,ihp h.2.1,Tm.eqB_eq h.2.2.1,Tm.eqB_eq h.2.2.2]
def acY:List (Bm×Bool)->Bm->Option Bool
 | [],_=>none
 |(c,d)::r,b=>bif Bm.eqB c b then some d else acY r b
theorem Hk:∀ {l:List (Bm×Bool)} {b:Bm} {d:Bool},acY l b=some d->(b,d)∈l
 | [],_,_,h=>by cases h
 |(c,e)::r,b,d,h=>by
  simp only[acY]at h;cases hc:Bm.eqB c b with
  |true=>rw[hc]at h;simp only[aP,ad]at h;subst h;rw[Bm.eqB_eq hc];exact bN ..
  |false=>rw[hc]at h;exact aU _ (Hk h)
structure aJe where
 nl:Bool
 t:VT
 z:Nat->Prop
structure VP where
 b:Nat
 sh:Nat
 cap:Nat
 x:aJe
def xd:aJe:=⟨false,.no,fun _=>False⟩
abbrev Th:=Nat->VP
def Th.addr(U:Th)(n o:Nat):Addr:=⟨(U n).b,(U n).sh+o,none⟩
def Th.row(U:Th)(n:Nat):Value:=bif (U n).x.nl then .slice none 0 0 else .slice (some (U.addr n 0)) 0 (U n).cap
def SC.val(U:Th):SC->Value
 | .int k x=> .int k x
 | .bool b=> .bool b
 | .nilp=> .pointer none
 | .ptr n o=> .pointer (some (U.addr n o))
 | .nils=> .slice none 0 0
 | .slice n o l d=> .slice (some (U.addr n o)) l ((U n).cap-d)
 | .nilm=> .map none
 | .map n=> .map (some (U n).b)
 | .str s=> .string s
 | .nilFn=> .nilFunc
 | .nilIf=> .nilIface
 | .fn f caps=> .func (.func f) #[] (caps.map fun p=> .pointer (some (U.addr p.1 p.2))).toArray
 | .sym k t=> .int k t.den
 | .opq i=>(Sy.v i).1
 | .optr p o=> .pointer (some ⟨(Sy.pt p).block,(Sy.pt p).off+o,none⟩)
 | .bq b=> .bool b.den
 | .dat n p=>xY (p.vt (U n).x.t).v
 | .ep n p t es o=> .pointer ((adu (xY (p.vt (U n).x.t).v)).map fun a=>⟨a.block,a.off+(t.nat*es+o),none⟩)
 | .rp n t es o=> .pointer (some (U.addr n (t.nat*es+o)))
 | .osl n es lo hi=>fA (U.row n) lo.nat hi.nat es
class Fa where
 A:List (Bm×Bool):=[]
 S:List Nat:=[]
 LD:List (Nat×List SC):=[]
 IX:List (Nat×Nat×Tm×Nat):=[]
 sy:Bool:=false
class fN[F:Fa]:Prop where
 hA:∀p∈F.A,p.1.den=p.2
 hS:∀i∈F.S,∃a m c,(Sy.v i).1= .slice a m c
 hLD:∀e∈F.LD,(Sy.pt e.1).block<Sy.B/\∀j c,e.2[j]?=some c->Sy.w0.cell? ⟨(Sy.pt e.1).block,(Sy.pt e.1).off+j,none⟩=some (c.val fun _=>⟨0,0,0,xd⟩)
 hIX:∀e∈F.IX,∃A m c,(Sy.v e.1).1= .slice (some A) m c/\A.spot=none/\Sy.pt e.2.2.2=⟨A.block,A.off+e.2.2.1.den.toNat*e.2.1,none⟩
@[reducible] def Fa.bare:Fa:=⟨[],[],[],[],false⟩
theorem fN.bare: @fN _ Fa.bare:=@fN.mk _ Fa.bare (fun e he=>by cases he) (fun e he=>by cases he) (fun e he=>by cases he) (fun e he=>by cases he)
theorem aea{c:SC}(h:c.flat=true)(U U':Th):c.val U=c.val U':=by cases c<;>first|rfl|(cases h)
def Rw:Bm->Bm
 | .lt a b=> .le b a
 | .le a b=> .lt b a
 | .eq a b=> .tru (.ind a b 3)
 | .tru a=> .eq a (.lit 0)
theorem On(b:Bm):(Rw b).den= !b.den:=by
 cases b with
 |lt a b=>by_cases h:a.den<b.den<;>simp[Rw,Bm.den,h]<;>omega
 |le a b=>by_cases h:a.den<=b.den<;>simp[Rw,Bm.den,h]<;>omega
 |eq a b=>
  have e:(Tm.ind a b 3).den=if a.den=b.den then 0 else 1:=rfl
  by_cases h:a.den=b.den<;>simp[Rw,Bm.den,e,h]
 |tru a=>
  have e:(Tm.lit 0).den=0:=rfl
  by_cases h:a.den=0<;>simp[Rw,Bm.den,e,h]
def aBG:Bm->Option Bool
 | .lt (.lit x) (.lit y)=>some (decide (x<y))
 | .le (.lit x) (.lit y)=>some (decide (x<=y))
 | .eq (.lit x) (.lit y)=>some (decide (x=y))
 | .tru (.lit x)=>some (decide (x≠0))
 |_=>none
theorem aqJ{b:Bm}{d:Bool}(h:aBG b=some d):b.den=d:=by unfold aBG at h;split at h<;>first|(cases h;done)|(simp only[ad]at h;rw[<-h];rfl)
def ask[Fa](b:Bm):Option Bool:=match aBG b with
 |some d=>some d
 |none=>match acY Fa.A b with
  |some d=>some d
  |none=>match acY Fa.A (Rw b)with
   |some d=>some (!d)
   |none=>none
theorem k_[Fa][fN]{b:Bm}{d:Bool}(h:ask b=some d):b.den=d:=by
 unfold ask at h;split at h
 ·rename_i q hq;simp only[ad]at h;rw[<-h];exact aqJ hq
 ·split at h
  ·rename_i q hq;simp only[ad]at h;rw[<-h];exact fN.hA _ (Hk hq)
  ·split at h
   ·rename_i q hq;simp only[ad]at h;have:(Rw b).den=q:=fN.hA _ (Hk hq);rw[On]at this;rw[<-h,<-this,Bool.not_not]
   ·cases h
inductive SR where
 |one (c:SC)
 |agg (l:List SC)
def SR.val(U:Th):SR->Value
 | .one c=>c.val U
 | .agg l=> .agg (l.map (SC.val U)).toArray
inductive SV where
 |r (x:SR)
 |tup (l:List SR)
 |unk
def SV.val(U:Th):SV->Value
 | .r x=>x.val U
 | .tup l=> .tuple (l.map (SR.val U)).toArray
 | .unk=>Go.undef
def SV.known:SV->Bool
 | .unk=>false
 |_=>true
@[reducible] def SV.c(c:SC):SV:= .r (.one c)
@[reducible] def SV.undef:SV:= .tup []
def SC.ltB(f:Nat):SC->Bool
 | .ptr n _| .slice n _ _ _| .map n| .dat n _| .ep n _ _ _ _| .rp n _ _ _| .osl n _ _ _=>Nat.blt n f
 | .fn _ caps=>caps.all fun p=>Nat.blt p.1 f
 |_=>true
def SR.ltB(f:Nat):SR->Bool
 | .one c=>c.ltB f
 | .agg l=>l.all (SC.ltB f)
def SV.ltB(f:Nat):SV->Bool
 | .r x=>x.ltB f
 | .tup l=>l.all (SR.ltB f)
 | .unk=>true
def xT:Value->Option SC
 | .int k x=>some (.int k x)
 | .bool b=>some (.bool b)
 | .pointer none=>some .nilp
 | .slice none 0 0=>some .nils
 | .map none=>some .nilm
 | .string s=>some (.str s)
 | .nilFunc=>some .nilFn
 | .nilIface=>some .nilIf
 |_=>none
def cellsOf:List Value->Option (List SC)
 | []=>some []
 |v::r=>match xT v with
  |none=>none
  |some c=>match cellsOf r with
   |none=>none
   |some l=>some (c::l)
def HB:Value->Option SV
 | .agg cs=>match cellsOf cs.toList with
  |none=>none
  |some l=>some (.r (.agg l))
 | .tuple vs=>match vs.toList with
  | []=>some (.tup [])
  |_=>none
 |v=>match xT v with
  |none=>none
  |some c=>some (.r (.one c))
def SC.clo:SC->Option Value
 | .int k x=>some (.int k x)
 | .bool b=>some (.bool b)
 | .nilp=>some (.pointer none)
 | .nils=>some (.slice none 0 0)
 | .nilm=>some (.map none)
 | .str s=>some (.string s)
 | .nilFn=>some .nilFunc
 | .nilIf=>some .nilIface
 |_=>none
def Yk:List SC->Option (List Value)
 | []=>some []
 |c::r=>match c.clo with
  |none=>none
  |some v=>match Yk r with
   |none=>none
   |some l=>some (v::l)
def SR.clo:SR->Option Value
 | .one c=>c.clo
 | .agg l=>match Yk l with
  |none=>none
  |some vs=>some (.agg vs.toArray)
def SV.clo:SV->Option Value
 | .r x=>x.clo
 | .tup []=>some (.tuple #[])
 | .tup _=>none
 | .unk=>none
theorem uI{v:Value}{c:SC}(h:xT v=some c)(U:Th):c.val U=v:=by unfold xT at h;split at h<;>cases h<;>rfl
theorem zV{v:Value}{c:SC}(h:xT v=some c)(f:Nat):c.ltB f=true:=by unfold xT at h;split at h<;>cases h<;>rfl
theorem II{vs:List Value}:∀ {l:List SC},cellsOf vs=some l->∀U,l.map (SC.val U)=vs:=by
 induction vs with
 |nil=>intro l h U;cases h;rfl
 |cons v r ih=>
  intro l h U;unfold cellsOf at h;split at h
  ·cases h
  ·rename_i c hc;split at h
   ·cases h
   ·rename_i l' hl;cases h;rw[cL,uI hc,ih hl]
theorem P2{vs:List Value}:∀ {l:List SC},cellsOf vs=some l->∀f,l.all (SC.ltB f)=true:=by
 induction vs with
 |nil=>intro l h f;cases h;rfl
 |cons v r ih=>
  intro l h f;unfold cellsOf at h;split at h
  ·cases h
  ·rename_i c hc;split at h
   ·cases h
   ·rename_i l' hl;cases h;rw[jD,zV hc,ih hl];rfl
theorem FB{v:Value}{s:SV}(h:HB v=some s)(U:Th):s.val U=v:=by
 unfold HB at h;split at h
 ·rename_i cs;split at h
  ·cases h
  ·rename_i l hl;cases h;simp only[SV.val,SR.val,II hl]
 ·rename_i vs;split at h
  ·rename_i he;cases h;have:vs= #[]:=by simpa using he
   subst this;rfl
  ·cases h
 ·split at h
  ·cases h
  ·rename_i c hc;cases h;exact uI hc U
theorem Kv{v:Value}{s:SV}(h:HB v=some s)(f:Nat):s.ltB f=true:=by
 unfold HB at h;split at h
 ·split at h
  ·cases h
  ·rename_i l hl;cases h;exact P2 hl f
 ·split at h
  ·cases h;rfl
  ·cases h
 ·split at h
  ·cases h
  ·rename_i c hc;cases h;exact zV hc f
theorem SC.clo_val{c:SC}{v:Value}(h:c.clo=some v)(U:Th):c.val U=v:=by cases c<;>simp only[SC.clo,ad,reduceCtorEq]at h<;>(subst h;rfl)
theorem aho:∀ {l:List SC} {vs:List Value},Yk l=some vs->∀U,l.map (SC.val U)=vs:=by
 intro l
 induction l with
 |nil=>intro vs h U;cases h;rfl
 |cons c r ih=>
  intro vs h U;unfold Yk at h;split at h
  ·cases h
  ·rename_i v hv;split at h
   ·cases h
   ·rename_i l' hl;cases h;rw[cL,SC.clo_val hv,ih hl]
theorem SV.clo_val{s:SV}{v:Value}(h:s.clo=some v)(U:Th):s.val U=v:=by
 cases s with
 |r x=>
  cases x with
  |one c=>exact SC.clo_val h U
  |agg l=>
   simp only[SV.clo,SR.clo]at h;split at h
   ·cases h
   ·rename_i vs hv;cases h;simp only[SV.val,SR.val,aho hv]
 |tup l=>
  cases l with
  |nil=>simp only[SV.clo,ad]at h;subst h;rfl
  |cons a b=>cases h
 |unk=>cases h
theorem SC.val_ext{c:SC}{f:Nat}{U U':Th}(hc:c.ltB f=true)(h:∀n,n<f->U' n=U n):c.val U'=c.val U:=by
 cases c with
 |ptr n o=>simp only[SC.ltB,bT]at hc;simp only[SC.val,Th.addr,h n hc]
 |slice n o l d=>simp only[SC.ltB,bT]at hc;simp only[SC.val,Th.addr,h n hc]
 |map n=>simp only[SC.ltB,bT]at hc;simp only[SC.val,h n hc]
 |dat n p=>simp only[SC.ltB,bT]at hc;simp only[SC.val,h n hc]
 |ep n p t m o=>simp only[SC.ltB,bT]at hc;simp only[SC.val,h n hc]
 |rp n t m o=>simp only[SC.ltB,bT]at hc;simp only[SC.val,Th.addr,h n hc]
 |osl n m a b=>simp only[SC.ltB,bT]at hc;simp only[SC.val,Th.row,Th.addr,h n hc]
 |fn g caps=>simp only[SC.ltB,be,bT]at hc;simp only[SC.val];rw[cg (g:=fun p=>Value.pointer (some (U.addr p.1 p.2))) fun p hp=>by simp only[Th.addr,h p.1 (hc p hp)]]
 |_=>rfl
theorem avO{l:List SC}{f:Nat}{U U':Th}(hl:l.all (SC.ltB f)=true)(h:∀n,n<f->U' n=U n):l.map (SC.val U')=l.map (SC.val U):=
 cg fun c hc=>SC.val_ext (be.1 hl c hc) h
theorem SR.val_ext{x:SR}{f:Nat}{U U':Th}(hx:x.ltB f=true)(h:∀n,n<f->U' n=U n):x.val U'=x.val U:=by
 cases x with
 |one c=>exact SC.val_ext hx h
 |agg l=>simp only[SR.val,avO hx h]
theorem SV.val_ext{s:SV}{f:Nat}{U U':Th}(hs:s.ltB f=true)(h:∀n,n<f->U' n=U n):s.val U'=s.val U:=by
 cases s with
 |r x=>exact SR.val_ext hs h
 |tup l=>simp only[SV.val];rw[cg fun x hx=>SR.val_ext (be.1 hs x hx) h]
 |unk=>rfl
theorem SC.ltB_le{c:SC}{f g:Nat}(h:c.ltB f=true)(hg:f<=g):c.ltB g=true:=by cases c<;>simp only[SC.ltB,bT,be]at h ⊢ <;>first|omega|(intro p hp;exact dm (h p hp) hg)|trivial
theorem SR.ltB_le{x:SR}{f g:Nat}(h:x.ltB f=true)(hg:f<=g):x.ltB g=true:=by
 cases x with
 |one c=>exact SC.ltB_le h hg
 |agg l=>exact be.2 fun c hc=>SC.ltB_le (be.1 h c hc) hg
theorem SV.ltB_le{s:SV}{f g:Nat}(h:s.ltB f=true)(hg:f<=g):s.ltB g=true:=by
 cases s with
 |r x=>exact SR.ltB_le h hg
 |tup l=>exact be.2 fun c hc=>SR.ltB_le (be.1 h c hc) hg
 |unk=>rfl
structure RZ where
 k:Option Nat
 fr:Bool
@[reducible] def RZ.no:RZ:=⟨none,true⟩
def RZ.ltB(f:Nat)(z:RZ):Bool:=match z.k with
 |none=>true
 |some k=>Nat.blt k f
def RZ.eqB(y z:RZ):Bool:=(y.fr==z.fr)&&(match y.k with
 |none=>(match z.k with
  |none=>true
  |some _=>false)
 |some a=>(match z.k with
  |none=>false
  |some b=>Nat.beq a b))
theorem RZ.eqB_eq{y z:RZ}(h:RZ.eqB y z=true):y=z:=by
 obtain⟨a,b⟩:=y;obtain⟨c,d⟩:=z;unfold RZ.eqB at h;rw[ah]at h;obtain⟨h1,h2⟩:=h;have h1:b=d:=by simpa using h1
 subst h1;cases a with
 |none=>cases c with
  |none=>rfl
  |some _=>cases h2
 |some a=>cases c with
  |none=>cases h2
  |some c=>rw[af h2]
inductive SB where
 |cells (es:Nat) (e:TypeId) (cs:List SC)
 |map (es:List (Value×SC×Nat)) (clock:Nat)
 |iter (m since last:Nat)
 |row (kc:Bool) (es:Nat) (e:TypeId) (ks:List Ty) (L:Tm) (z:RZ)
 |frz (fr:Bool) (tys:List Ty) (L:Tm)
 |rowL (kc:Bool) (e:TypeId) (tys:List Ty) (L:Tm) (z:RZ) (t:Tm) (q:Nat) (hi:Tm)
 |mapD (tys:List Ty) (L:Tm) (z:RZ)
def SB.ltB(f:Nat):SB->Bool
 | .cells _ _ cs=>cs.all (SC.ltB f)
 | .map es _=>es.all fun e=>e.2.1.ltB f
 | .iter m _ _=>Nat.blt m f
 | .row _ _ _ _ _ z=>z.ltB f
 | .frz _ _ _=>true
 | .rowL _ _ _ _ z _ q _=>Nat.blt q f&&z.ltB f
 | .mapD _ _ z=>z.ltB f
abbrev bt:=List (Nat×SB)
def get:bt->Nat->Option SB
 | [],_=>none
 |(m,x)::r,n=>bif Nat.beq m n then some x else get r n
def put:bt->Nat->SB->bt
 | [],_,_=>[]
 |(m,x)::r,n,y=>bif Nat.beq m n then(m,y)::r else(m,x)::put r n y
def drop:bt->Nat->bt
 | [],_=>[]
 |(m,x)::r,n=>bif Nat.beq m n then drop r n else(m,x)::drop r n
theorem jk{m n:Nat}(h:m≠n):Nat.beq m n=false:=by
 cases h':Nat.beq m n
 ·rfl
 ·exact absurd (af h') h
theorem lz{m n:Nat}(h:m=n):Nat.beq m n=true:=by subst h;exact ku m
theorem di(m:Nat)(x:SB)(r:bt)(n:Nat):get ((m,x)::r) n=if m=n then some x else get r n:=by
 show(bif Nat.beq m n then some x else get r n)=_
 by_cases h:m=n
 ·rw[lz h,ab h];rfl
 ·rw[jk h,ak h];rfl
theorem apZ(m:Nat)(x:SB)(r:bt)(n:Nat)(y:SB):put ((m,x)::r) n y=if m=n then(m,y)::r else(m,x)::put r n y:=by
 show(bif Nat.beq m n then(m,y)::r else(m,x)::put r n y)=_
 by_cases h:m=n
 ·rw[lz h,ab h];rfl
 ·rw[jk h,ak h];rfl
theorem anz(m:Nat)(x:SB)(r:bt)(n:Nat):drop ((m,x)::r) n=if m=n then drop r n else(m,x)::drop r n:=by
 show(bif Nat.beq m n then drop r n else(m,x)::drop r n)=_
 by_cases h:m=n
 ·rw[lz h,ab h];rfl
 ·rw[jk h,ak h];rfl
theorem ur{H:bt}{n:Nat}{y:SB}(m:Nat):get (put H n y) m=if n=m then(if(get H n).isSome then some y else none)else get H m:=by
 induction H with
 |nil=>simp[put,get]
 |cons p r ih=>
  obtain⟨k,x⟩:=p;rw[apZ,di,di]
  by_cases h:k=n
  ·subst h
   by_cases hm:k=m
   ·subst hm;simp[di]
   ·simp[di,hm]
  ·rw[ak h,di,ih]
   by_cases hm:n=m
   ·subst hm;simp[h]
   ·simp[hm]
theorem Px{H:bt}{n:Nat}(m:Nat):get (drop H n) m=if n=m then none else get H m:=by
 induction H with
 |nil=>simp[drop,get]
 |cons p r ih=>
  obtain⟨k,x⟩:=p;rw[anz,di]
  by_cases h:k=n
  ·subst h;rw[ab rfl,ih]
   by_cases hm:k=m<;>simp[hm]
  ·rw[ak h,di,ih]
   by_cases hm:n=m
   ·subst hm;simp[h]
   ·simp[hm]
def nU:Ty->PD->Option Value
 | .int k,.i x=>some (.int k x)
 | .bool,.i x=>some (.bool (decide (x≠0)))
 |_,_=>none
inductive qX(w:World)(z:Nat->Prop):Ty->VT->PD->Prop
 |int (k:IntKind) (x:Int) (us:List VT):qX w z (.int k) (.mk (.int k x) us) (.i x)
 |bool (b:Bool) (us:List VT) (x:Int) (h:b=decide (x≠0)):qX w z .bool (.mk (.bool b) us) (.i x)
 |nil (tys:List Ty):qX w z (.lst tys) (.mk (.slice none 0 0) []) (.l [])
 |lst (tys:List Ty) (a:Addr) (n c:Nat) (us:List VT) (xs:List PD) (h1:us.length=n*tys.length) (h2:xs.length=us.length) (h3:n<=c) (h4:a.spot=none)
   (h5:∀j,j<us.length->z a.block/\w.cell? ⟨a.block,a.off+j,none⟩=some (us.getD j .no).v)
   (h6:∀j t,j<us.length->tys[j%tys.length]?=some t->qX w z t (us.getD j .no) (xs.getD j (.i 0))):qX w z (.lst tys) (.mk (.slice (some a) n c) us) (.l xs)
theorem awW{w w':World}{b o:Nat}(h:w'.heap[b]?=w.heap[b]?):w'.cell? ⟨b,o,none⟩=w.cell? ⟨b,o,none⟩:=by unfold World.cell?;rw[h]
theorem qX.keep{w w':World}{z z':Nat->Prop}{t:Ty}{x:VT}{d:PD}(h:qX w z t x d)(hb:∀b,z b->w'.heap[b]?=w.heap[b]?)(hz:∀b,z b->z' b):qX w' z' t x d:=by
 induction h with
 |int k x us=>exact .int k x us
 |bool b us x e=>exact .bool b us x e
 |nil tys=>exact .nil tys
 |lst tys a n c us xs h1 h2 h3 h4 h5 h6 ih=>exact .lst tys a n c us xs h1 h2 h3 h4 (fun j hj=>⟨hz _ (h5 j hj).1,(awW (hb _ (h5 j hj).1)).trans (h5 j hj).2⟩) ih
def gV(w:World)(z:Nat->Prop)(t:Ty)(d:PD)(u:Value):Prop:=∃x:VT,x.v=u/\qX w z t x d
theorem gV.keep{w w':World}{z z':Nat->Prop}{t:Ty}{d:PD}{u:Value}(h:gV w z t d u)(hb:∀b,z b->w'.heap[b]?=w.heap[b]?)(hz:∀b,z b->z' b):gV w' z' t d u:=by obtain⟨x,h1,h2⟩:=h;exact⟨x,h1,h2.keep hb hz⟩
theorem gV.of{w:World}{z:Nat->Prop}{t:Ty}{d:PD}{u:Value}(h:nU t d=some u):gV w z t d u:=by
 unfold nU at h;split at h
 ·cases h;exact⟨.mk _ [],rfl,.int _ _ _⟩
 ·cases h;exact⟨.mk _ [],rfl,.bool _ _ _ rfl⟩
 ·cases h
theorem gV.flat{w:World}{z:Nat->Prop}{t:Ty}{d:PD}{u:Value}(h:gV w z t d u)(hf:∀us,t≠ .lst us):nU t d=some u:=by
 obtain⟨x,h1,h2⟩:=h;cases h2 with
 |int=>rw[<-h1];rfl
 |bool b us x e=>subst e;rw[<-h1];rfl
 |nil tys=>exact absurd rfl (hf _)
 |lst tys=>exact absurd rfl (hf _)
theorem gV.one{w:World}{z:Nat->Prop}{t:Ty}{d:PD}{u:Value}(h:gV w z t d u):u.oneCell'=true:=by obtain⟨x,h1,h2⟩:=h;subst h1;cases h2<;>rfl
def nS(w:World)(z:Nat->Prop)(tys:List Ty):List PD->List (Int×Value×Nat)->Prop
 | [],[]=>True
 |a::b::r,e::es=>a= .i e.1/\gV w z (.lst tys) b e.2.1/\nS w z tys r es
 |_,_=>False
theorem nS.keep{w w':World}{z z':Nat->Prop}{tys:List Ty}(hb:∀b,z b->w'.heap[b]?=w.heap[b]?)(hz:∀b,z b->z' b):∀ {l:List PD} {es:List (Int×Value×Nat)},nS w z tys l es->nS w' z' tys l es
 | [],[],_=>trivial
 | [],_::_,h=>h.elim
 | [_],[],h=>h.elim
 | [_],_::_,h=>h.elim
 |_::_::_,[],h=>h.elim
 |a::b::r,e::es,h=>⟨h.1,h.2.1.keep hb hz,h.2.2.keep hb hz⟩
def cu(U:Th)(z:RZ)(b:Nat):Prop:=match z.k with
 |none=>False
 |some k=>(U k).x.z b
theorem cu.ext{U U':Th}{z:RZ}{f b:Nat}(hz:z.ltB f=true)(he:∀k,k<f->U' k=U k):cu U' z b=cu U z b:=by
 unfold cu;unfold RZ.ltB at hz;split
 ·rfl
 ·rename_i k hk;rw[hk]at hz;simp only[bT]at hz;rw[he k hz]
def IR(b:Nat):Prop:=Sy.F<=b\/b=Sy.io
def ZOk(U:Th)(w:World)(n:Nat)(z:RZ):Prop:=∀b,cu U z b->b<w.heap.size/\((U n).x.nl=false->b≠(U n).b)/\(z.fr=true->IR b)
theorem ZOk.no{U:Th}{w:World}{n:Nat}:ZOk U w n .no:=fun b h=>h.elim
def gG(U:Th)(n:Nat):SB->Prop
 | .frz _ _ _=>False
 | .row _ _ _ _ _ _=>(U n).x.nl=false
 |_=>True
def Zb(U:Th)(n:Nat):SB->Nat->Prop
 | .frz _ _ _,b=>(U n).x.z b
 | .row _ _ _ _ _ z,b=>cu U z b
 | .rowL _ _ _ _ z _ _ _,b=>cu U z b
 | .mapD _ _ z,b=>cu U z b
 |_,_=>False
def fc(U:Th)(n:Nat)(x:SB)(b:Nat):Prop:=(gG U n x/\(U n).b=b)\/Zb U n x b
theorem gG.ext{U U':Th}{n:Nat}{x:SB}(h:U' n=U n):gG U' n x=gG U n x:=by cases x<;>simp only[gG,h]
theorem Zb.ext{U U':Th}{n f:Nat}{x:SB}{b:Nat}(h:n<f/\x.ltB f=true)(he:∀k,k<f->U' k=U k):Zb U' n x b=Zb U n x b:=by
 cases x with
 |row kc es e ks L z=>exact cu.ext h.2 he
 |rowL kc e tys L z t q hi=>have h2:(Nat.blt q f&&z.ltB f)=true:=h.2;rw[ah]at h2;exact cu.ext h2.2 he
 |mapD tys L z=>exact cu.ext h.2 he
 |frz fr tys L=>simp only[Zb,he n h.1]
 |_=>rfl
theorem fc.ext{U U':Th}{n f:Nat}{x:SB}{b:Nat}(h:n<f/\x.ltB f=true)(he:∀k,k<f->U' k=U k):fc U' n x b=fc U n x b:=by simp only[fc,gG.ext (he n h.1),Zb.ext h he,he n h.1]
theorem fc.own{U:Th}{n:Nat}{x:SB}(h:gG U n x):fc U n x (U n).b:= .inl ⟨h,rfl⟩
def ek(U:Th)(w:World)(n:Nat):SB->Prop
 | .cells es e cs=>(U n).x.nl=false/\∃arr,w.heap[(U n).b]?=some (.cells arr e (0,0))/\(∀j c,cs[j]?=some c->arr[(U n).sh+j]?=some (c.val U))/\(es=0\/(U n).sh=0/\arr.size=(U n).cap*es/\(U n).cap<=maxLen)
 | .map es clock=>w.heap[(U n).b]?=some (.map (es.map fun e=>{key:=e.1,val:=e.2.1.val U,born:=e.2.2:MapEntry}).toArray clock)
 | .iter m since last=>(U n).sh=0/\w.heap[(U n).b]?=some (.mapIter (some (U m).b) since #[] last)
 | .row kc es e ks L z=>(((U n).x.nl=true/\L.pd.q=[]/\kc=true)\/((U n).x.nl=false/\∃arr,w.heap[(U n).b]?=some (.cells arr e (0,0))/\
   (∀j,j<L.pd.q.length->∃t u,ks[j%es]?=some t/\gV w (cu U z) t (L.pd.q.getD j (.i 0)) u/\arr[(U n).sh+j]?=some u)/\
   (kc=true->(U n).sh=0/\arr.size=(U n).cap*es/\(U n).cap<=maxLen/\∃m,L.pd.q.length=m*es/\m<=(U n).cap)))/\ZOk U w n z
 | .frz fr tys L=>qX w (U n).x.z (.lst tys) (U n).x.t L.pd/\∀b,(U n).x.z b->b<w.heap.size/\(fr=true->IR b)
 | .rowL kc e tys L z t q hi=>((U n).x.nl=false/\∃arr,w.heap[(U n).b]?=some (.cells arr e (0,0))/\(∀j,j<L.pd.q.length->j≠t.nat->∃u,gV w (cu U z) (.lst tys) (L.pd.q.getD j (.i 0)) u/\arr[(U n).sh+j]?=some u)/\
   (t.nat<L.pd.q.length/\arr[(U n).sh+t.nat]?=some (fA (U.row q) 0 hi.nat tys.length))/\
   (kc=true->(U n).sh=0/\arr.size=(U n).cap*1/\(U n).cap<=maxLen/\∃m,L.pd.q.length=m*1/\m<=(U n).cap))/\ZOk U w n z
 | .mapD tys L z=>(∃ (es:List (Int×Value×Nat)) (clock:Nat),w.heap[(U n).b]?=some (.map (es.map fun e=>{key:= .int .i64 e.1,val:=e.2.1,born:=e.2.2:MapEntry}).toArray clock)/\nS w (cu U z) tys L.pd.q es)/\∀b,cu U z b->b<w.heap.size/\b≠(U n).b/\(z.fr=true->IR b)
abbrev C3:=Nat->Option SB
structure Far(U:Th)(G:C3)(w:World):Prop where
 nm:∀n x,G n=some x->gG U n x->Sy.B<=(U n).b
 bel:Below Sy.B Sy.w0 w
 sz:Sy.B<=w.heap.size
 fo:∀n x,G n=some x->gG U n x->IR (U n).b
 fs:Sy.F<=w.heap.size
def YU(U:Th)(G:C3)(s:Nat)(U':Th)(G':C3):Prop:=∀n x,G' n=some x->gG U' n x->(∃k y,G k=some y/\gG U k y/\(U k).b=(U' n).b)\/s<=(U' n).b
def aiu(U:Th)(G:C3)(s:Nat)(U':Th)(G':C3):Prop:=∀n x b,G' n=some x->Zb U' n x b->(∃k y,G k=some y/\fc U k y b)\/s<=b
theorem YU.refl{U:Th}{G:C3}{s:Nat}:YU U G s U G:=fun n x h o=> .inl ⟨n,x,h,o,rfl⟩
theorem aiu.refl{U:Th}{G:C3}{s:Nat}:aiu U G s U G:=fun n x b h o=> .inl ⟨n,x,h,.inr o⟩
theorem Far.next{U U':Th}{G G':C3}{w w':World}(h:Far U G w)(fr:∀b,b<w.heap.size->(∀n x,G n=some x->gG U n x->(U n).b≠b)->w'.heap[b]?=w.heap[b]?)(sz:w.heap.size<=w'.heap.size)(os:w'.os=w.os)(tape:w'.tape=w.tape)(output:w'.output=w.output)
  (nb:YU U G w.heap.size U' G'):Far U' G' w':=by
 refine⟨fun n x hx ho=>?_,h.bel.trans ⟨os,tape,output,sz,fun b hb=>fr b (dm hb h.sz) fun n x hn ho e=>?_⟩,dB h.sz sz,fun n x hx ho=>?_,dB h.fs sz⟩
 ·rcases nb n x hx ho with⟨k,y,hk,ok,he⟩|hge
  ·rw[<-he];exact h.nm k y hk ok
  ·exact dB h.sz hge
 ·have:=h.nm n x hn ho;omega
 ·rcases nb n x hx ho with⟨k,y,hk,ok,he⟩|hge
  ·rw[<-he];exact h.fo k y hk ok
  ·exact .inl (dB h.fs hge)
structure b9(U:Th)(G:C3)(w:World):Prop where
 ok:∀n x,G n=some x->ek U w n x
 inj:∀n m x y b,G n=some x->G m=some y->n≠m->gG U n x->fc U m y b->(U n).b≠b
 far:Far U G w
def ga(f:Nat)(G:C3):Prop:=∀n x,G n=some x->n<f/\x.ltB f=true
theorem mD{w:World}{b:Nat}{o:Obj}(ho:w.heap[b]?=some o):b<w.heap.size:=by
 rcases fJ b w.heap.size with hl|hg
 ·exact hl
 ·rw[Array.getElem?_eq_none hg]at ho;cases ho
theorem ek.lt{U:Th}{w:World}{n:Nat}{x:SB}(h:ek U w n x)(ow:gG U n x):(U n).b<w.heap.size:=by
 cases x with
 |cells es e cs=>obtain⟨_,arr,h1,_⟩:=h;exact mD h1
 |map es c=>exact mD h
 |iter m s l=>exact mD h.2
 |row kc es e ks L z=>
  rcases h.1 with⟨h1,_⟩|⟨_,arr,h1,_⟩
  ·have:(U n).x.nl=false:=ow;rw[this]at h1;cases h1
  ·exact mD h1
 |frz fr tys L=>exact ow.elim
 |rowL kc e tys L z t q hi=>obtain⟨⟨_,arr,h1,_⟩,_⟩:=h;exact mD h1
 |mapD tys L z=>obtain⟨⟨es,c,h1,_⟩,_⟩:=h;exact mD h1
theorem ek.uses_lt{U:Th}{w:World}{n:Nat}{x:SB}{b:Nat}(h:ek U w n x)(u:fc U n x b):b<w.heap.size:=by
 rcases u with⟨o,rfl⟩|u
 ·exact h.lt o
 ·cases x with
  |frz fr tys L=>exact(h.2 b u).1
  |row kc es e ks L z=>exact(h.2 b u).1
  |rowL kc e tys L z t q hi=>exact(h.2 b u).1
  |mapD tys L z=>exact(h.2 b u).1
  |_=>exact u.elim
theorem ek.keep{U U':Th}{w w':World}{n f:Nat}{x:SB}(h:ek U w n x)(hn:n<f)(hx:x.ltB f=true)(he:∀n,n<f->U' n=U n)(hb:∀b,fc U n x b->w'.heap[b]?=w.heap[b]?)(hs:w.heap.size<=w'.heap.size):ek U' w' n x:=by
 cases x with
 |cells es e cs=>
  obtain⟨h0,arr,h1,h2,h3⟩:=h;refine⟨by rw[he n hn];exact h0,arr,by rw[he n hn,hb _ (.inl ⟨trivial,rfl⟩),h1],fun j c hj=>?_,by rw[he n hn];exact h3⟩
  rw[he n hn,h2 j c hj,SC.val_ext (be.1 hx c (bS hj)) he]
 |map es c=>
  have h':w.heap[(U n).b]?=_:=h
  show w'.heap[(U' n).b]?=_
  rw[he n hn,hb _ (.inl ⟨trivial,rfl⟩),h'];refine congrArg some (congrArg (fun l=>Obj.map (List.toArray l) c) ?_)
  refine cg fun e hm=>?_
  rw[SC.val_ext (be.1 hx e hm) he]
 |iter m s l=>
  obtain⟨h0,h'⟩:=h;have hm:m<f:=by simpa[SB.ltB]using hx
  refine⟨by rw[he n hn];exact h0,?_⟩
  rw[he n hn,hb _ (.inl ⟨trivial,rfl⟩),h',he m hm]
 |row kc es e ks L z=>
  have hx:z.ltB f=true:=hx;obtain⟨h,hz⟩:=h;refine⟨?_,fun b hb'=>?_⟩
  ·rcases h with⟨h1,h2⟩|⟨h1,arr,h2,h3,h4⟩
   ·exact .inl ⟨by rw[he n hn];exact h1,h2⟩
   ·refine .inr ⟨by rw[he n hn];exact h1,arr,?_,fun j hj=>?_,?_⟩
    ·rw[he n hn,hb _ (.inl ⟨h1,rfl⟩),h2]
    ·obtain⟨t,u,k1,k2,k3⟩:=h3 j hj;exact⟨t,u,k1,k2.keep (fun b hz'=>hb b (.inr hz')) fun b hz'=>by rw[cu.ext hx he];exact hz',by rw[he n hn];exact k3⟩
    ·rw[he n hn];exact h4
  ·rw[cu.ext hx he]at hb';obtain⟨g1,g2,g3⟩:=hz b hb';exact⟨dm g1 hs,by rw[he n hn];exact g2,g3⟩
 |rowL kc e tys L z t q hi=>
  have hx:(Nat.blt q f&&z.ltB f)=true:=hx;rw[ah,bT]at hx;obtain⟨⟨h1,arr,h2,h3,h5,h4⟩,hz⟩:=h;refine⟨⟨by rw[he n hn];exact h1,arr,by rw[he n hn,hb _ (.inl ⟨trivial,rfl⟩),h2],fun j hj hne=>?_,?_,by rw[he n hn];exact h4⟩,fun b hb'=>?_⟩
  ·obtain⟨u,k2,k3⟩:=h3 j hj hne;exact⟨u,k2.keep (fun b hz'=>hb b (.inr hz')) fun b hz'=>by rw[cu.ext hx.2 he];exact hz',by rw[he n hn];exact k3⟩
  ·have e1:U'.row q=U.row q:=by simp only[Th.row,Th.addr,he q hx.1]
   rw[he n hn,e1];exact h5
  ·rw[cu.ext hx.2 he]at hb';obtain⟨g1,g2,g3⟩:=hz b hb';exact⟨dm g1 hs,by rw[he n hn];exact g2,g3⟩
 |mapD tys L z=>
  have hx:z.ltB f=true:=hx;obtain⟨⟨es,c,h2,h3⟩,hz⟩:=h;refine⟨⟨es,c,by rw[he n hn,hb _ (.inl ⟨trivial,rfl⟩),h2],?_⟩,fun b hb'=>?_⟩
  ·exact h3.keep (fun b hz'=>hb b (.inr hz')) fun b hz'=>by rw[cu.ext hx he];exact hz'
  ·rw[cu.ext hx he]at hb';obtain⟨g1,g2,g3⟩:=hz b hb';exact⟨dm g1 hs,by rw[he n hn];exact g2,g3⟩
 |frz fr tys L=>
  obtain⟨h1,h2⟩:=h;refine⟨?_,?_⟩
  ·rw[he n hn];exact h1.keep (fun b hz=>hb b (.inr hz)) fun b hz=>hz
  ·rw[he n hn];exact fun b hz=>⟨dm (h2 b hz).1 hs,(h2 b hz).2⟩
theorem SB.ltB_le{x:SB}{f g:Nat}(h:x.ltB f=true)(hg:f<=g):x.ltB g=true:=by
 cases x with
 |cells es e cs=>exact be.2 fun c hc=>SC.ltB_le (be.1 h c hc) hg
 |map es c=>exact be.2 fun e he=>SC.ltB_le (be.1 h e he) hg
 |iter m s l=>simp only[SB.ltB,bT]at h ⊢;omega
 |row _ _ _ _ _ z=>
  have h:z.ltB f=true:=h
  show z.ltB g=true
  unfold RZ.ltB at h ⊢;split
  ·rfl
  ·rename_i k hk;rw[hk]at h;simp only[bT]at h ⊢;omega
 |frz _ _ _=>rfl
 |rowL kc e tys L z t q hi=>
  have h:(Nat.blt q f&&z.ltB f)=true:=h;rw[ah,bT]at h;have hz:z.ltB g=true:=by
   have h:=h.2;unfold RZ.ltB at h ⊢;split
   ·rfl
   ·rename_i k hk;rw[hk]at h;simp only[bT]at h ⊢;omega
  show(Nat.blt q g&&z.ltB g)=true
  rw[ah,bT];exact⟨by omega,hz⟩
 |mapD tys L z=>
  have h:z.ltB f=true:=h
  show z.ltB g=true
  unfold RZ.ltB at h ⊢;split
  ·rfl
  ·rename_i k hk;rw[hk]at h;simp only[bT]at h ⊢;omega
structure dA(U:Th)(G:C3)(f:Nat)(w:World)(U':Th)(G':C3)(f':Nat)(w':World):Prop where
 m:b9 U' G' w'
 lt:ga f' G'
 le:f<=f'
 ext:∀n,n<f->U' n=U n
 fr:∀b,b<w.heap.size->(∀n x,G n=some x->gG U n x->(U n).b≠b)->w'.heap[b]?=w.heap[b]?
 sz:w.heap.size<=w'.heap.size
 os:w'.os=w.os
 tape:w'.tape=w.tape
 output:w'.output=w.output
 nb:YU U G w.heap.size U' G'
 nz:aiu U G w.heap.size U' G'
theorem dA.of{U U':Th}{G G':C3}{f f':Nat}{w w':World}(h0:Far U G w)(ok:∀n x,G' n=some x->ek U' w' n x)(inj:∀n m x y b,G' n=some x->G' m=some y->n≠m->gG U' n x->fc U' m y b->(U' n).b≠b)(lt:ga f' G')(le:f<=f')(ext:∀n,n<f->U' n=U n)
  (fr:∀b,b<w.heap.size->(∀n x,G n=some x->gG U n x->(U n).b≠b)->w'.heap[b]?=w.heap[b]?) (sz:w.heap.size<=w'.heap.size) (os:w'.os=w.os) (tape:w'.tape=w.tape) (output:w'.output=w.output)
  (nb:YU U G w.heap.size U' G') (nz:aiu U G w.heap.size U' G'):dA U G f w U' G' f' w':=
 ⟨⟨ok,inj,h0.next fr sz os tape output nb⟩,lt,le,ext,fr,sz,os,tape,output,nb,nz⟩
theorem dA.refl{U:Th}{G:C3}{f:Nat}{w:World}(hm:b9 U G w)(hl:ga f G):dA U G f w U G f w:=
 ⟨hm,hl,bD _,fun _ _=>rfl,fun _ _ _=>rfl,bD _,rfl,rfl,rfl,YU.refl,aiu.refl⟩
theorem ek.heap{U:Th}{w w':World}{n:Nat}{x:SB}(h:ek U w n x)(he:w'.heap=w.heap):ek U w' n x:=by
 cases x with
 |frz fr tys L=>exact⟨h.1.keep (fun b _=>by rw[he]) fun b hz=>hz,fun b hz=>by rw[he];exact h.2 b hz⟩
 |rowL kc e tys L z t q hi=>
  obtain⟨⟨h1,arr,h2,h3,h5,h4⟩,hz⟩:=h;refine⟨⟨h1,arr,by rw[he];exact h2,fun j hj hne=>?_,h5,h4⟩,fun b hb=>by rw[he];exact hz b hb⟩
  obtain⟨u,k2,k3⟩:=h3 j hj hne;exact⟨u,k2.keep (fun b _=>by rw[he]) fun b hz'=>hz',k3⟩
 |mapD tys L z=>obtain⟨⟨es,c,h2,h3⟩,hz⟩:=h;exact⟨⟨es,c,by rw[he];exact h2,h3.keep (fun b _=>by rw[he]) fun b hz'=>hz'⟩,fun b hb=>by rw[he];exact hz b hb⟩
 |cells es e cs=>unfold ek at h ⊢;rw[he];exact h
 |map es c=>unfold ek at h ⊢;rw[he];exact h
 |iter m s l=>unfold ek at h ⊢;rw[he];exact h
 |row kc es e ks L z=>
  obtain⟨h,hz⟩:=h;refine⟨?_,fun b hb=>by rw[he];exact hz b hb⟩
  rcases h with h|⟨h1,arr,h2,h3,h4⟩
  ·exact .inl h
  ·refine .inr ⟨h1,arr,by rw[he];exact h2,fun j hj=>?_,h4⟩
   obtain⟨t,u,k1,k2,k3⟩:=h3 j hj;exact⟨t,u,k1,k2.keep (fun b _=>by rw[he]) fun b hz'=>hz',k3⟩
theorem dA.drew{U U':Th}{G G':C3}{f f':Nat}{w w':World}(h:dA U G f w U' G' f' w')(k:Nat):dA U G f w U' G' f' {w' with drawn:=k}:=by refine⟨⟨fun n x hx=>(h.m.ok n x hx).heap rfl,h.m.inj,⟨h.m.far.nm,h.m.far.bel.trans ⟨rfl,rfl,rfl,bD _,fun _ _=>rfl⟩,h.m.far.sz,h.m.far.fo,h.m.far.fs⟩⟩,h.lt,h.le,h.ext,h.fr,h.sz,h.os,h.tape,h.output,h.nb,h.nz⟩
theorem dA.then{θ0 θ1 θ2:Th}{G0 G1 S S' G2:C3}{f0 f1 g1 f2:Nat}{w0 w1 w2:World}(h1:dA θ0 G0 f0 w0 θ1 G1 f1 w1)(hS:∀n x,S n=some x->G1 n=some x)(hg:f1<=g1)
  (h2:dA θ1 S g1 w1 θ2 S' f2 w2) (h3:∀n x,G2 n=some x->S' n=some x\/(G1 n=some x/\S n=none)):dA θ0 G0 f0 w0 θ2 G2 f2 w2:=by
 have ext1:∀n,n<f1->θ2 n=θ1 n:=fun n hn=>h2.ext n (by omega)
 have ne:∀n x m y,G1 n=some x->S n=none->S m=some y->m≠n:=fun n x m y hn hno hm e=>by rw[e,hno]at hm;cases hm
 have far:∀n x b,G1 n=some x->S n=none->fc θ1 n x b->∀m y,S m=some y->gG θ1 m y->(θ1 m).b≠b:=fun n x b hn hno hu m y hm ho=>h1.m.inj m n y x b (hS m y hm) hn (ne n x m y hn hno hm) ho hu
 have kept:∀n x b,G1 n=some x->S n=none->fc θ1 n x b->w2.heap[b]?=w1.heap[b]? :=fun n x b hn hno hu=>h2.fr _ ((h1.m.ok n x hn).uses_lt hu) (fun m y hm ho=>far n x b hn hno hu m y hm ho)
 have e1:∀n x,G1 n=some x->θ2 n=θ1 n:=fun n x h=>ext1 n (h1.lt n x h).1
 have ho:YU θ1 G1 w1.heap.size θ2 G2:=fun n x hx o=>by
  rcases h3 n x hx with h|⟨h,hno⟩
  ·rcases h2.nb n x h o with⟨k,z,hk,ok,he⟩|hge
   ·exact .inl ⟨k,z,hS k z hk,ok,he⟩
   ·exact .inr hge
  ·rw[gG.ext (e1 n x h)]at o;exact .inl ⟨n,x,h,o,by rw[e1 n x h]⟩
 have hz:aiu θ1 G1 w1.heap.size θ2 G2:=fun n x b hx o=>by
  rcases h3 n x hx with h|⟨h,hno⟩
  ·rcases h2.nz n x b h o with⟨k,z,hk,ok⟩|hge
   ·exact .inl ⟨k,z,hS k z hk,ok⟩
   ·exact .inr hge
  ·rw[Zb.ext (h1.lt n x h) ext1]at o;exact .inl ⟨n,x,h,.inr o⟩
 have hfar:Far θ2 G2 w2:=h1.m.far.next (fun b hb hno=>h2.fr b hb fun n x hn o=>hno n x (hS n x hn) o) h2.sz h2.os h2.tape h2.output ho
 refine⟨⟨fun n x hx=>?_,fun n m x y b hx hy hne o u=>?_,hfar⟩,fun n x hx=>?_,by have:=h1.le;have:=h2.le;omega,fun n hn=>?_,fun b hb hno=>?_,dB h1.sz h2.sz,h2.os.trans h1.os,h2.tape.trans h1.tape,h2.output.trans h1.output,fun n x hx o=>?_,fun n x b hx o=>?_⟩
 ·rcases h3 n x hx with h|⟨h,hno⟩
  ·exact h2.m.ok n x h
  ·have:=h1.lt n x h;exact(h1.m.ok n x h).keep this.1 this.2 ext1 (fun b hu=>kept n x b h hno hu) h2.sz
 ·
  rcases h3 n x hx with h|⟨h,hno⟩
  ·rcases h3 m y hy with h'|⟨h',hno'⟩
   ·exact h2.m.inj n m x y b h h' hne o u
   ·rw[fc.ext (h1.lt m y h') ext1]at u;rcases h2.nb n x h o with⟨k,z,hk,ok,he⟩|hge
    ·rw[<-he];exact far m y b h' hno' u k z hk ok
    ·have:=(h1.m.ok m y h').uses_lt u;omega
  ·rw[gG.ext (e1 n x h)]at o;rw[e1 n x h];rcases h3 m y hy with h'|⟨h',hno'⟩
   ·
    rcases u with⟨oy,rfl⟩|u
    ·rcases h2.nb m y h' oy with⟨k,z,hk,ok,he⟩|hge
     ·rw[<-he];exact(far n x _ h hno (fc.own o) k z hk ok).symm
     ·have:=(h1.m.ok n x h).lt o;omega
    ·rcases h2.nz m y b h' u with⟨k,z,hk,uk⟩|hge
     ·exact h1.m.inj n k x z b h (hS k z hk) (ne n x k z h hno hk).symm o uk
     ·have:=(h1.m.ok n x h).lt o;omega
   ·rw[fc.ext (h1.lt m y h') ext1]at u;exact h1.m.inj n m x y b h h' hne o u
 ·rcases h3 n x hx with h|⟨h,hno⟩
  ·exact h2.lt n x h
  ·have:=h1.lt n x h;have:=h2.le;exact⟨by omega,SB.ltB_le (h1.lt n x h).2 (by omega)⟩
 ·rw[ext1 n (by have:=h1.le;omega),h1.ext n hn]
 ·rw[h2.fr b (dm hb h1.sz) (fun n x hn o=>?_),h1.fr b hb hno]
  rcases h1.nb n x (hS n x hn) o with⟨k,y,hk,ok,he⟩|hge
  ·rw[<-he];exact hno k y hk ok
  ·omega
 ·rcases ho n x hx o with⟨k,z,hk,ok,he⟩|hge
  ·rcases h1.nb k z hk ok with⟨k',z',hk',ok',he'⟩|hge
   ·exact .inl ⟨k',z',hk',ok',by rw[he',he]⟩
   ·exact .inr (by rw[<-he];exact hge)
  ·exact .inr (dB h1.sz hge)
 ·have old:∀k z,G1 k=some z->fc θ1 k z b->(∃k y,G0 k=some y/\fc θ0 k y b)\/w0.heap.size<=b:=fun k z hk u=>by
   rcases u with⟨ok,rfl⟩|u
   ·rcases h1.nb k z hk ok with⟨k',z',hk',ok',he'⟩|hge
    ·exact .inl ⟨k',z',hk',.inl ⟨ok',he'⟩⟩
    ·exact .inr hge
   ·exact h1.nz k z b hk u
  rcases hz n x b hx o with⟨k,z,hk,u⟩|hge
  ·exact old k z hk u
  ·exact .inr (dB h1.sz hge)
theorem dA.trans{θ0 θ1 θ2:Th}{G0 G1 G2:C3}{f0 f1 f2:Nat}{w0 w1 w2:World}(h1:dA θ0 G0 f0 w0 θ1 G1 f1 w1)(h2:dA θ1 G1 f1 w1 θ2 G2 f2 w2):dA θ0 G0 f0 w0 θ2 G2 f2 w2:=
 h1.then (fun _ _ h=>h) (bD _) h2 (fun _ _ h=> .inl h)
theorem b9.less{U:Th}{G S:C3}{w:World}(h:b9 U G w)(hs:∀n x,S n=some x->G n=some x):b9 U S w:=
 ⟨fun n x hx=>h.ok n x (hs n x hx),fun n m x y b hx hy=>h.inj n m x y b (hs n x hx) (hs m y hy),⟨fun n x hx=>h.far.nm n x (hs n x hx),h.far.bel,h.far.sz,fun n x hx=>h.far.fo n x (hs n x hx),h.far.fs⟩⟩
theorem dA.less{U U':Th}{G G' G2:C3}{f f':Nat}{w w':World}(h:dA U G f w U' G' f' w')(hs:∀n x,G2 n=some x->G' n=some x):dA U G f w U' G2 f' w':=
 ⟨h.m.less hs,fun n x hx=>h.lt n x (hs n x hx),h.le,h.ext,h.fr,h.sz,h.os,h.tape,h.output,fun n x hx=>h.nb n x (hs n x hx),fun n x b hx=>h.nz n x b (hs n x hx)⟩
theorem ga.less{f:Nat}{G S:C3}(h:ga f G)(hs:∀n x,S n=some x->G n=some x):ga f S:=fun n x hx=>h n x (hs n x hx)
end
section
variable [Sy]
def hU(U:Th)(n:Nat)(L:VP):Th:=fun m=>if m=n then L else U m
theorem bK(U:Th)(n:Nat)(L:VP):hU U n L n=L:=by simp[hU]
theorem cQ{U:Th}{n m:Nat}{L:VP}(h:m≠n):hU U n L m=U m:=by simp[hU,h]
theorem e9{U:Th}{n m:Nat}{L:VP}(h:m<n):hU U n L m=U m:=cQ (by omega)
theorem vG{U U':Th}{H:bt}{G':C3}{f f':Nat}{w w':World}(hm:b9 U (get H) w)(hl:ga f (get H))(hθ:∀k,k<f->U' k=U k)(hff:f<=f'){n:Nat}{y:SB}(hn:n<f')(hy:y.ltB f'=true)(hb:ek U' w' n y)
  (hG:∀m z,G' m=some z->(m=n/\z=y)\/(m≠n/\get H m=some z))
  (ho:gG U' n y->(∃k x,get H k=some x/\gG U k x/\(U k).b=(U' n).b)\/w.heap.size<=(U' n).b)
  (hf:gG U' n y->∀m z b,m≠n->G' m=some z->fc U m z b->b≠(U' n).b)
  (hz1:∀b,Zb U' n y b->∀m z,m≠n->G' m=some z->gG U m z->(U m).b≠b)
  (hz2:∀b,Zb U' n y b->(∃k x,get H k=some x/\fc U k x b)\/w.heap.size<=b)
  (keep:∀m z b,m≠n->G' m=some z->fc U m z b->w'.heap[b]?=w.heap[b]?)
  (fr:∀b,b<w.heap.size->(∀n x,get H n=some x->gG U n x->(U n).b≠b)->w'.heap[b]?=w.heap[b]?)
  (sz:w.heap.size<=w'.heap.size) (os:w'.os=w.os) (tape:w'.tape=w.tape) (output:w'.output=w.output):dA U (get H) f w U' G' f' w':=by
 refine dA.of hm.far (fun m z h=>?_) (fun m k z u b h h' hne o uk=>?_) (fun m z h=>?_) hff hθ fr sz os tape output (fun m z h o=>?_) (fun m z b h o=>?_)
 ·rcases hG m z h with⟨rfl,rfl⟩|⟨hne,hg⟩
  ·exact hb
  ·exact(hm.ok m z hg).keep (hl m z hg).1 (hl m z hg).2 hθ (fun b u=>keep m z b hne h u) sz
 ·rcases hG m z h with⟨rfl,rfl⟩|⟨hne1,hg⟩
  ·rcases hG k u h' with⟨rfl,_⟩|⟨hne2,hg'⟩
   ·exact absurd rfl hne
   ·rw[fc.ext (hl k u hg') hθ]at uk;exact(hf o k u b hne2 h' uk).symm
  ·rw[gG.ext (hθ m (hl m z hg).1)]at o;rw[hθ m (hl m z hg).1];rcases hG k u h' with⟨rfl,rfl⟩|⟨hne2,hg'⟩
   ·rcases uk with⟨oy,rfl⟩|uk
    ·exact hf oy m z _ hne1 h (fc.own o)
    ·exact hz1 b uk m z hne1 h o
   ·rw[fc.ext (hl k u hg') hθ]at uk;exact hm.inj m k z u b hg hg' hne o uk
 ·rcases hG m z h with⟨rfl,rfl⟩|⟨hne,hg⟩
  ·exact⟨hn,hy⟩
  ·exact⟨by have:=(hl m z hg).1;omega,SB.ltB_le (hl m z hg).2 hff⟩
 ·rcases hG m z h with⟨rfl,rfl⟩|⟨hne,hg⟩
  ·exact ho o
  ·rw[gG.ext (hθ m (hl m z hg).1)]at o;rw[hθ m (hl m z hg).1];exact .inl ⟨m,z,hg,o,rfl⟩
 ·rcases hG m z h with⟨rfl,rfl⟩|⟨hne,hg⟩
  ·exact hz2 b o
  ·rw[Zb.ext (hl m z hg) hθ]at o;exact .inl ⟨m,z,hg,.inr o⟩
theorem FH{U:Th}{H H2:bt}{f:Nat}{w w':World}(hm:b9 U (get H) w)(hl:ga f (get H))(L:VP)(x:SB)(dead:Nat->Prop)(hd1:∀b,dead b->∃k y,get H k=some y/\gG U k y/\(U k).b=b)(hd2:∀m y b,get H2 m=some y->fc U m y b->¬dead b)
  (h1:∀m y,get H2 m=some y->get H m=some y) (h2:∀m y b,get H2 m=some y->fc U m y b->b≠L.b) (h3:∀b,b<w.heap.size->b≠L.b->¬dead b->w'.heap[b]?=w.heap[b]?)
  (h4:(∃k y,get H k=some y/\gG U k y/\(U k).b=L.b)\/w.heap.size<=L.b) (hb:ek (hU U f L) w' f x) (hx:x.ltB f=true) (hz:∀b,¬Zb (hU U f L) f x b)
  (sz:w.heap.size<=w'.heap.size) (os:w'.os=w.os) (tape:w'.tape=w.tape) (output:w'.output=w.output):
  dA U (get H) f w (hU U f L) (get ((f,x)::H2)) (f+1) w':=by
 have hold:∀m y,get H2 m=some y->m<f:=fun m y h=>(hl m y (h1 m y h)).1
 have hu:∀m y,get H2 m=some y->hU U f L m=U m:=fun m y h=>e9 (hold m y h)
 refine dA.of hm.far (fun n y hn=>?_) (fun n m y z b hn hz' hne o u=>?_) (fun n y hn=>?_) (by omega) (fun n hn=>e9 hn) (fun b hbl hno=>?_) sz os tape output (fun n y hn o=>?_) (fun n y b hn o=>?_)
 ·rw[di]at hn;split at hn
  ·rename_i he;subst he;cases hn;exact hb
  ·have hg:=h1 n y hn;exact(hm.ok n y hg).keep (hl n y hg).1 (hl n y hg).2 (fun k hk=>e9 hk) (fun b hb'=>h3 _ ((hm.ok n y hg).uses_lt hb') (h2 n y b hn hb') (hd2 n y b hn hb')) sz
 ·rw[di]at hn hz';split at hn
  ·rename_i he;subst he;rw[ak hne]at hz';rw[fc.ext (hl m z (h1 m z hz')) (fun k hk=>e9 hk)]at u
   rw[bK];exact(h2 m z b hz' u).symm
  ·rename_i he;rw[gG.ext (hu n y hn)]at o;rw[hu n y hn];split at hz'
   ·rename_i he';subst he';cases hz';rcases u with⟨_,rfl⟩|u
    ·rw[bK];exact h2 n y _ hn (fc.own o)
    ·exact absurd u (hz b)
   ·rw[fc.ext (hl m z (h1 m z hz')) (fun k hk=>e9 hk)]at u
    exact hm.inj n m y z b (h1 n y hn) (h1 m z hz') hne o u
 ·rw[di]at hn;split at hn
  ·rename_i he;subst he;cases hn;exact⟨by omega,SB.ltB_le hx (by omega)⟩
  ·have:=hl n y (h1 n y hn);exact⟨by omega,SB.ltB_le this.2 (by omega)⟩
 ·refine h3 b hbl (fun e=>?_) (fun hd=>by obtain⟨k,y,hk,ok,he⟩:=hd1 b hd;exact hno k y hk ok he)
  rcases h4 with⟨k,y,hk,ok,he⟩|hge
  ·exact hno k y hk ok (by rw[he,e])
  ·omega
 ·rw[di]at hn;split at hn
  ·rename_i he;subst he;rw[bK];exact h4
  ·rw[gG.ext (hu n y hn)]at o;rw[hu n y hn];exact .inl ⟨n,y,h1 n y hn,o,rfl⟩
 ·rw[di]at hn;split at hn
  ·rename_i he;subst he;cases hn;exact absurd o (hz b)
  ·rw[Zb.ext (hl n y (h1 n y hn)) (fun k hk=>e9 hk)]at o
   exact .inl ⟨n,y,h1 n y hn,.inr o⟩
theorem Zh{U:Th}{H:bt}{f:Nat}{w:World}(hm:b9 U (get H) w)(hl:ga f (get H))(L:VP)(x:SB)(hno:¬gG (hU U f L) f x)(hb:ek (hU U f L) w f x)(hx:x.ltB (f+1)=true)
  (h1:∀b,Zb (hU U f L) f x b->∀m y,get H m=some y->gG U m y->(U m).b≠b) (h2:∀b,Zb (hU U f L) f x b->(∃k y,get H k=some y/\fc U k y b)\/w.heap.size<=b):
  dA U (get H) f w (hU U f L) (get ((f,x)::H)) (f+1) w:=by
 have hold:∀m y,get H m=some y->m<f:=fun m y h=>(hl m y h).1
 have hu:∀m y,get H m=some y->hU U f L m=U m:=fun m y h=>e9 (hold m y h)
 refine dA.of hm.far (fun n y hn=>?_) (fun n m y z b hn hz' hne o u=>?_) (fun n y hn=>?_) (by omega) (fun n hn=>e9 hn) (fun b hbl hno=>rfl) (bD _) rfl rfl rfl (fun n y hn o=>?_) (fun n y b hn o=>?_)
 ·rw[di]at hn;split at hn
  ·rename_i he;subst he;cases hn;exact hb
  ·exact(hm.ok n y hn).keep (hl n y hn).1 (hl n y hn).2 (fun k hk=>e9 hk) (fun b _=>rfl) (bD _)
 ·rw[di]at hn hz';split at hn
  ·rename_i he;subst he;cases hn;exact absurd o hno
  ·rename_i he;rw[gG.ext (hu n y hn)]at o;rw[hu n y hn];split at hz'
   ·rename_i he';subst he';cases hz';rcases u with⟨u,_⟩|u
    ·exact absurd u hno
    ·exact h1 b u n y hn o
   ·rw[fc.ext (hl m z hz') (fun k hk=>e9 hk)]at u
    exact hm.inj n m y z b hn hz' hne o u
 ·rw[di]at hn;split at hn
  ·rename_i he;subst he;cases hn;exact⟨by omega,hx⟩
  ·have:=hl n y hn;exact⟨by omega,SB.ltB_le this.2 (by omega)⟩
 ·rw[di]at hn;split at hn
  ·rename_i he;subst he;cases hn;exact absurd o hno
  ·rw[gG.ext (hu n y hn)]at o;rw[hu n y hn];exact .inl ⟨n,y,hn,o,rfl⟩
 ·rw[di]at hn;split at hn
  ·rename_i he;subst he;cases hn;exact h2 b o
  ·rw[Zb.ext (hl n y hn) (fun k hk=>e9 hk)]at o
   exact .inl ⟨n,y,hn,.inr o⟩
theorem rQ{U:Th}{H:bt}{f:Nat}{w:World}(hm:b9 U (get H) w)(hl:ga f (get H))(o:Obj)(L:VP)(hL:L.b=w.heap.size)(x:SB)(hb:ek (hU U f L) (w.alloc o) f x)(hx:x.ltB f=true)(hz:∀b,¬Zb (hU U f L) f x b):
  dA U (get H) f w (hU U f L) (get ((f,x)::H)) (f+1) (w.alloc o):=
 FH hm hl L x (fun _=>False) (fun _ h=>h.elim) (fun _ _ _ _ _ h=>h) (fun _ _ h=>h) (fun m y b h u=>by have:=(hm.ok m y h).uses_lt u;omega) (fun b hb _ _=>by show(w.heap.push o)[b]?=_;rw[Array.getElem?_push,ak (by omega)]) (.inr (by omega)) hb hx hz (by show w.heap.size<=(w.heap.push o).size;simp) rfl rfl rfl
theorem sx(w:World)(o:Obj):(w.alloc o).heap[w.heap.size]?=some o:=by show(w.heap.push o)[w.heap.size]?=_;simp
theorem Si{U:Th}{H:bt}{f:Nat}{w:World}(hm:b9 U (get H) w)(hl:ga f (get H))(L:VP):dA U (get H) f w (hU U f L) (get H) (f+1) w:=by
 have hu:∀m y,get H m=some y->hU U f L m=U m:=fun m y h=>e9 (hl m y h).1
 refine dA.of hm.far (fun n y hn=>(hm.ok n y hn).keep (hl n y hn).1 (hl n y hn).2 (fun k hk=>e9 hk) (fun b _=>rfl) (bD _)) (fun n m y z b hn hz hne o u=>?_) (fun n y hn=>?_) (by omega) (fun n hn=>e9 hn) (fun b hb _=>rfl) (bD _) rfl rfl rfl (fun n y hn o=>?_) (fun n y b hn o=>?_)
 ·rw[gG.ext (hu n y hn)]at o;rw[fc.ext (hl m z hz) (fun k hk=>e9 hk)]at u
  rw[hu n y hn];exact hm.inj n m y z b hn hz hne o u
 ·exact⟨by have:=(hl n y hn).1;omega,SB.ltB_le (hl n y hn).2 (by omega)⟩
 ·rw[gG.ext (hu n y hn)]at o;rw[hu n y hn];exact .inl ⟨n,y,hn,o,rfl⟩
 ·rw[Zb.ext (hl n y hn) (fun k hk=>e9 hk)]at o
  exact .inl ⟨n,y,hn,.inr o⟩
theorem Dd{U:Th}{H:bt}{f:Nat}{w w':World}(hm:b9 U (get H) w)(hl:ga f (get H)){n:Nat}{x y:SB}(hn:get H n=some x)(ox:gG U n x)(hz:∀b,Zb U n y b->Zb U n x b)(hb:ek U w' n y)(hy:y.ltB f=true)
  (h3:∀b,b≠(U n).b->w'.heap[b]?=w.heap[b]?) (sz:w'.heap.size=w.heap.size) (os:w'.os=w.os) (tape:w'.tape=w.tape) (output:w'.output=w.output):
  dA U (get H) f w U (get (put H n y)) f w':=by
 have hg:∀m z,get (put H n y) m=some z->(m=n/\z=y)\/(m≠n/\get H m=some z):=fun m z h=>by
  rw[ur]at h;split at h
  ·rename_i e;subst e;rw[hn]at h;simp at h;exact .inl ⟨rfl,h.symm⟩
  ·rename_i e;exact .inr ⟨fun e'=>e e'.symm,h⟩
 have hex:∀m z b,get (put H n y) m=some z->fc U m z b->∃z',get H m=some z'/\fc U m z' b:=fun m z b h u=>by
  rcases hg m z h with⟨rfl,rfl⟩|⟨_,h'⟩
  ·rcases u with⟨_,rfl⟩|u
   ·exact⟨x,hn,fc.own ox⟩
   ·exact⟨x,hn,.inr (hz b u)⟩
  ·exact⟨z,h',u⟩
 have hex2:∀m z,get (put H n y) m=some z->gG U m z->∃z',get H m=some z'/\gG U m z':=fun m z h u=>by
  rcases hg m z h with⟨rfl,rfl⟩|⟨_,h'⟩
  ·exact⟨x,hn,ox⟩
  ·exact⟨z,h',u⟩
 refine dA.of hm.far (fun m z hz=>?_) (fun m k z u b hz hu hne om uk=>?_) (fun m z hz=>?_) (bD _) (fun _ _=>rfl) (fun b hb' hno=>h3 b (fun e=>hno n x hn ox e.symm)) (kr sz.symm) os tape output (fun m z hz o=>?_) (fun m z b hz o=>?_)
 ·rcases hg m z hz with⟨rfl,rfl⟩|⟨hne,h'⟩
  ·exact hb
  ·exact(hm.ok m z h').keep (hl m z h').1 (hl m z h').2 (fun _ _=>rfl) (fun b u=>h3 _ (fun e=>hm.inj n m x z b hn h' (Ne.symm hne) ox u e.symm)) (kr sz.symm)
 ·obtain⟨z',hz',oz⟩:=hex2 m z hz om;obtain⟨u',hu',uu⟩:=hex k u b hu uk;exact hm.inj m k z' u' b hz' hu' hne oz uu
 ·rcases hg m z hz with⟨rfl,rfl⟩|⟨hne,h'⟩
  ·exact⟨(hl m x hn).1,hy⟩
  ·exact hl m z h'
 ·obtain⟨z',hz',oz⟩:=hex2 m z hz o;exact .inl ⟨m,z',hz',oz,rfl⟩
 ·obtain⟨z',hz',oz⟩:=hex m z b hz (.inr o);exact .inl ⟨m,z',hz',oz⟩
def kA(U:Th)(f:Nat)(ev:Operand->Option SV)(V:Operand->Value)(o:Oper):Prop:=∀x∈o.op.operands,∀s,ev x=some s->V x=s.val U/\s.ltB f=true
def bB(P:Program)(o:Oper)(V:Operand->Value)(U:Th)(H:bt)(f:Nat)(w:World)(v:SV)(H':bt)(f':Nat):Prop:=
 ∃U' w',((execOp V o).run P w= .ok (.value (v.val U')) w'\/((execOp V o).run P w= .ok .skip w'/\v= .undef))/\dA U (get H) f w U' (get H') f' w'/\v.ltB f'=true
section
variable {P:Program}{o:Oper}{V:Operand->Value}{U:Th}{H:bt}{f:Nat}{w:World}{v:SV}
theorem bB.same(hm:b9 U (get H) w)(hl:ga f (get H))(h:(execOp V o).run P w= .ok (.value (v.val U)) w)(hv:v.ltB f=true):bB P o V U H f w v H f:=
 ⟨U,w,.inl h,dA.refl hm hl,hv⟩
end
def kX(P:Program){α:Type}:Sem α->Option α
 | .pure a=>some a
 | .program k=>kX P (k P)
 | .mark _ k=>kX P k
 | .choose q k=>if q.forced then kX P (k 0)else none
 |_=>none
theorem Ih(P:Program){α:Type}(s:Sem α):∀ {a:α},kX P s=some a->∀w,s.run P w= .ok a w:=by
 induction s with
 |pure a=>intro b h w;simp only[kX,ad]at h;subst h;rfl
 |program k ih=>intro b h w;simp only[kX]at h;simp only[Sem.run];exact ih P h w
 |mark m k ih=>intro b h w;simp only[kX]at h;simp only[Sem.run];exact ih h w
 |choose q k ih=>
  intro b h w;simp only[kX]at h;split at h
  ·rename_i hf;simp only[Sem.run,hf,gN];exact ih 0 h w
  ·cases h
 |_=>intro b h w;simp[kX]at h
def apw(ev:Operand->Option SV)(x:Operand):Value:=match ev x with
 |some s=>(match s.clo with|some v=>v|none=>Go.undef)
 |none=>Go.undef
def su(ev:Operand->Option SV):List Operand->Bool
 | []=>true
 |x::r=>match ev x with
  |some s=>(match s.clo with|some _=>su ev r|none=>false)
  |none=>false
def IQ:Op->Bool
 | .select .. =>true
 |_=>false
def afK(P:Program)(o:Oper)(ev:Operand->Option SV):Option SV:=
 bif su ev o.op.operands.toList&&!IQ o.op then
  match kX P (execOp (apw ev) o)with
  |some (.value v)=>HB v
  |_=>none
 else none
theorem PZ{ev:Operand->Option SV}{l:List Operand}(h:su ev l=true):∀x∈l,∃s v,ev x=some s/\s.clo=some v:=by
 induction l with
 |nil=>intro x hx;cases hx
 |cons y r ih=>
  unfold su at h;split at h
  ·rename_i s hs;split at h
   ·rename_i v hv;intro x hx;rcases aS.1 hx with rfl|hx
    ·exact⟨s,v,hs,hv⟩
    ·exact ih h x hx
   ·cases h
  ·cases h
theorem amu{P:Program}{o:Oper}{ev:Operand->Option SV}{v:SV}(h:afK P o ev=some v){V:Operand->Value}{U:Th}{H:bt}{f:Nat}{w:World}
  (hm:b9 U (get H) w) (hl:ga f (get H)) (ha:kA U f ev V o):bB P o V U H f w v H f:=by
 unfold afK at h;cases hc:(su ev o.op.operands.toList&&!IQ o.op)with
 |false=>rw[hc]at h;cases h
 |true=>
  rw[hc]at h;simp only[aP]at h;rw[ah]at hc;obtain⟨h1,h2⟩:=hc;have hsp:=PZ h1;have he:execOp V o=execOp (apw ev) o:=execOp_congr o (fun cs b e=>by rw[e]at h2;cases h2) fun x hx=>by
   obtain⟨s,u,hs,hu⟩:=hsp x (by simpa using hx)
   rw[(ha x hx s hs).1,SV.clo_val hu U];simp[apw,hs,hu]
  split at h
  ·rename_i u hu;refine bB.same hm hl ?_ (Kv h f);rw[he,Ih P _ hu w,FB h U]
  ·cases h
end
section
variable [Sy]
def nT{α:Type}:Nat->List α->Option (List α)
 |0,_=>some []
 |_+1,[]=>none
 |n+1,c::r=>match nT n r with
  |some l=>some (c::l)
  |none=>none
theorem g9{α:Type}:∀ {n:Nat} {l r:List α},nT n l=some r->r=l.take n/\r.length=n:=by
 intro n
 induction n with
 |zero=>intro l r h;simp only[nT,ad]at h;subst h;simp
 |succ n ih=>
  intro l r h;cases l with
  |nil=>simp[nT]at h
  |cons c s=>
   simp only[nT]at h;split at h
   ·rename_i l' hl;cases h;obtain⟨h1,h2⟩:=ih hl;exact⟨by rw[List.take_succ_cons,<-h1],by rw[cj,h2]⟩
   ·cases h
theorem md{α:Type}{n:Nat}{l r:List α}(h:nT n l=some r)(j:Nat)(c:α)(hj:r[j]?=some c):l[j]?=some c:=by
 obtain⟨rfl,_⟩:=g9 h;rw[bX]at hj;split at hj
 ·exact hj
 ·cases hj
theorem vF{n f:Nat}{l r:List SC}(h:nT n l=some r)(hl:l.all (SC.ltB f)=true):r.all (SC.ltB f)=true:=by obtain⟨rfl,_⟩:=g9 h;exact be.2 fun c hc=>be.1 hl c (fD hc)
theorem E0{n f:Nat}{l:List SC}(hl:l.all (SC.ltB f)=true):(l.drop n).all (SC.ltB f)=true:=
 be.2 fun c hc=>be.1 hl c (List.mem_of_mem_drop hc)
theorem nA{f:Nat}{a b:List SC}(h1:a.all (SC.ltB f)=true)(h2:b.all (SC.ltB f)=true):(a++b).all (SC.ltB f)=true:=by rw[List.all_append,h1,h2];rfl
def ja{α:Type}(cs:List α)(o:Nat)(l:List α):List α:=cs.take o++l++cs.drop (o+l.length)
theorem aaO{cs l:List SC}{o f:Nat}(h1:cs.all (SC.ltB f)=true)(h2:l.all (SC.ltB f)=true):(ja cs o l).all (SC.ltB f)=true:=
 nA (nA (be.2 fun c hc=>be.1 h1 c (fD hc)) h2) (E0 h1)
theorem ly{α:Type}{cs l:List α}{o:Nat}(h:o+l.length<=cs.length)(j:Nat):(ja cs o l)[j]?=if j<o then cs[j]? else if j<o+l.length then l[j-o]? else cs[j]? :=by
 unfold ja;rw[dg,gq];simp only[bu,fQ (by omega:o<=cs.length)]
 split
 ·rw[bX,ab (by assumption)]
 ·rw[gq];split
  ·rename_i h2;rw[ab (by omega)]
  ·rename_i h2;rw[ak (by omega),b_]
   congr 1
   omega
theorem od{α:Type}{cs l:List α}{o:Nat}(h:o+l.length<=cs.length):(ja cs o l).length=cs.length:=by unfold ja;simp only[ba,bu,cJ];omega
def aJF:TypeDesc->Bool
 | .struct _=>true
 | .array _ _=>true
 |_=>false
def pf(P:Program)(t:TypeId):Option (Nat×Bool):=match P.info? t with
 |none=>none
 |some i=>match P.underlying t with
  |none=>none
  |some d=>some (i.size,aJF d)
theorem iQ{P:Program}{t:TypeId}{n:Nat}{b:Bool}(h:pf P t=some (n,b))(w:World):(isAgg t).run P w= .ok b w/\(sizeOf t).run P w= .ok n w:=by
 unfold pf at h;split at h
 ·cases h
 ·rename_i i hi;have hs:(sizeOf t).run P w= .ok i.size w:=by simp[sizeOf,typeInfo,hi]
  split at h
  ·cases h
  ·rename_i d hd;cases h;refine⟨?_,hs⟩;unfold isAgg;rw[Sem.run_bind,run_underlying hd w];cases d<;>rfl
section
variable {P:Program}{o:Oper}{V:Operand->Value}{ev:Operand->Option SV}{U:Th}{H H':bt}{f f':Nat}{w:World}{v:SV}
theorem ajz{x:Operand}(ho:o.op= .move x\/o.op= .assign x)(h:ev x=some v)(hm:b9 U (get H) w)(hl:ga f (get H))(ha:kA U f ev V o):bB P o V U H f w v H f:=by
 have hx:=ha x (by rcases ho with ho|ho<;>simp[ho,Op.operands]) v h
 refine bB.same hm hl ?_ hx.2;rcases ho with ho|ho<;>simp[execOp,ho,hx.1]
def aBx(x:Option SV):Option SV:=match x with
 |some (.r (.one (.ptr n o)))=>some (.c (.ptr n o))
 |some (.r (.one (.fn g l)))=>some (.c (.fn g l))
 |_=>none
theorem aBw{x:Operand}(ho:o.op= .nilCheck x)(h:aBx (ev x)=some v)(hm:b9 U (get H) w)(hl:ga f (get H))(ha:kA U f ev V o):bB P o V U H f w v H f:=by
 unfold aBx at h;split at h
 ·rename_i n o' he;cases h;have hx:=ha x (by simp[ho,Op.operands]) _ he
  refine bB.same hm hl ?_ hx.2;simp[execOp,ho,hx.1,SV.val,SR.val,SC.val]
 ·rename_i g l he;cases h;have hx:=ha x (by simp[ho,Op.operands]) _ he
  refine bB.same hm hl ?_ hx.2;simp[execOp,ho,hx.1,SV.val,SR.val,SC.val]
 ·cases h
def abj(P:Program)(H:bt)(t:TypeId)(x:Option SV):Option SV:=match x with
 |some (.r (.one (.ptr n off)))=>match get H n with
  |some (.cells _ _ cs)=>match pf P t with
   |some (s,true)=>match nT s (cs.drop off)with
    |some l=>some (.r (.agg l))
    |none=>none
   |some (_,false)=>match cs.drop off with
    |c::_=>some (.c c)
    | []=>none
   |none=>none
  |_=>none
 |_=>none
theorem pX{n es:Nat}{e:TypeId}{cs:List SC}(hm:b9 U (get H) w)(hn:get H n=some (.cells es e cs))(j:Nat)(c:SC)(hj:cs[j]?=some c):w.cell? ⟨(U n).b,(U n).sh+j,none⟩=some (c.val U):=by obtain⟨_,arr,h1,h2,_⟩:=hm.ok n _ hn;unfold World.cell?;rw[h1];exact h2 j c hj
theorem abi{P:Program}{t:TypeId}{x:Option SV}(h:abj P H t x=some v)(hm:b9 U (get H) w)(hl:ga f (get H)):∃n off,x=some (.c (.ptr n off))/\(loadVar t (U.addr n off)).run P w= .ok (v.val U) w/\v.ltB f=true:=by
 unfold abj at h;split at h
 ·rename_i n off;refine⟨n,off,rfl,?_⟩;split at h
  ·rename_i es e cs hn;have hlt:=(hl n _ hn).2;split at h
   ·rename_i s hs;obtain⟨g1,g2⟩:=iQ hs w;split at h
    ·rename_i l hk;cases h;obtain⟨hl1,hl2⟩:=g9 hk;have hcells:=run_loadCells_list (P:=P) w (U.addr n off) (l.map (SC.val U)) (fun j u hu=>by
      rw[aM]at hu;obtain⟨c,hc,rfl⟩:=cA.1 hu;have:=md hk j c hc;rw[b_]at this;have h3:=pX hm hn (off+j) c this;unfold Th.addr;rw[Addr.add_mid];rw[<-h3]
      congr 2
      omega)
     rw[bO,hl2]at hcells;refine⟨?_,vF hk (E0 hlt)⟩;simp[loadVar,g1,g2,hcells,SV.val,SR.val]
    ·cases h
   ·rename_i s hs;obtain⟨g1,g2⟩:=iQ hs w;split at h
    ·rename_i c r hd;cases h;have hc:cs[off]?=some c:=by
      have:(cs.drop off)[0]?=some c:=by rw[hd];rfl
      rwa [b_,ch]at this
     refine⟨?_,be.1 hlt c (bS hc)⟩;have:=pX hm hn off c hc;simp[loadVar,g1,Th.addr,this,SV.val,SR.val]
    ·cases h
   ·cases h
  ·cases h
 ·cases h
theorem avS{t:TypeId}{x:Operand}(ho:o.op= .load t x)(h:abj P H t (ev x)=some v)(hm:b9 U (get H) w)(hl:ga f (get H))(ha:kA U f ev V o):bB P o V U H f w v H f:=by
 obtain⟨n,off,hx,hr,hv⟩:=abi h hm hl;have hx:=ha x (by simp[ho,Op.operands]) _ hx
 refine bB.same hm hl ?_ hv;simp[execOp,ho,hx.1,SV.val,SR.val,SC.val,Instr.loadAt,Instr.sureAddr,hr]
def ff:SR->List SC
 | .one c=>[c]
 | .agg l=>l
def aey(P:Program)(H:bt)(t:TypeId)(x y:Option SV):Option bt:=match x with
 |some (.r (.one (.ptr n off)))=>match y with
  |some (.r u)=>match get H n with
   |some (.cells es e cs)=>match pf P t with
    |some (s,_)=>bif Nat.beq (ff u).length s&&Nat.blt 0 s&&Nat.ble (off+(ff u).length) cs.length then some (put H n (.cells es e (ja cs off (ff u))))else none
    |none=>none
   |_=>none
  |_=>none
 |_=>none
theorem anL{v:Value}(h:v.oneCell'=true):v.cells= #[v]:=by cases v<;>first|rfl|(cases h)
theorem ar6(v:Value):(xY v).oneCell'=true:=by cases v<;>rfl
theorem arV(v:Value)(a b c:Nat):(fA v a b c).oneCell'=true:=by cases v<;>rfl
theorem SC.one(c:SC):(c.val U).oneCell'=true:=by cases c<;>first|rfl|exact(Sy.v _).2|exact ar6 _|exact arV _ _ _ _
theorem ko(u:SR):(u.val U).cells=((ff u).map (SC.val U)).toArray:=by
 cases u with
 |one c=>exact anL (SC.one c)
 |agg l=>rfl
theorem A1{u:SR}(h:u.ltB f=true):(ff u).all (SC.ltB f)=true:=by
 cases u with
 |one c=>simpa[ff,SR.ltB]using h
 |agg l=>exact h
theorem ajn{n es off:Nat}{e:TypeId}{cs l:List SC}(hm:b9 U (get H) w)(hl:ga f (get H))(hn:get H n=some (.cells es e cs))(hlt:l.all (SC.ltB f)=true)(hpos:0<l.length)(hfit:off+l.length<=cs.length):
  ∃w',(storeCells (U.addr n off) (l.map (SC.val U))).run P w= .ok () w'/\dA U (get H) f w U (get (put H n (.cells es e (ja cs off l)))) f w':=by
 obtain⟨h0,arr,h1,h2,h3⟩:=hm.ok n _ hn;have hsz:(U n).sh+cs.length<=arr.size:=by
  have:=h2 (cs.length-1) _ (aj (by omega))
  obtain⟨h4,_⟩:=cP.1 this;omega
 have hfit':(U n).sh+off+(l.map (SC.val U)).length<=arr.toList.length:=by simp;omega
 have hst:=run_storeCells_at P (U n).b ((U n).sh+off) e (l.map (SC.val U)) 0 arr w h1 (by simp;omega) (fun v hv=>by
  obtain⟨c,_,rfl⟩:=eH.1 hv;exact SC.one c)
 refine⟨_,hst,Dd hm hl hn trivial (fun _ h=>h) ⟨h0,_,setRow_heap w _ _ _ _ _ h1,fun j c hj=>?_,?_⟩ (aaO (hl n _ hn).2 hlt) (fun b hb=>setRow_other w _ b _ hb) (by simp[World.setRow]) rfl rfl rfl⟩
 ·rw[ly hfit]at hj
  show(ja arr.toList ((U n).sh+off) (l.map (SC.val U))).toArray[(U n).sh+j]?=_
  rw[eF,ly hfit',bO];split at hj
  ·rw[ab (by omega),b8]
   exact h2 j c hj
  ·rw[ak (by omega)]
   split at hj
   ·rw[ab (by omega),aM,show(U n).sh+j-((U n).sh+off)=j-off by omega,hj]
    rfl
   ·rw[ak (by omega),b8]
    exact h2 j c hj
 ·rcases h3 with h3|⟨h3,h4,h5⟩
  ·exact .inl h3
  ·refine .inr ⟨h3,?_,h5⟩
   show(ja arr.toList ((U n).sh+off) (l.map (SC.val U))).toArray.size=_
   rw[iA,od hfit',fe,h4]
theorem ao8{t:TypeId}{x y:Operand}(ho:o.op= .store t x y)(h:aey P H t (ev x) (ev y)=some H')(hm:b9 U (get H) w)(hl:ga f (get H))(ha:kA U f ev V o):bB P o V U H f w .undef H' f:=by
 unfold aey at h;split at h
 ·rename_i n off hx;split at h
  ·rename_i u hy;split at h
   ·rename_i es e cs hn;split at h
    ·rename_i s b hs;cases hc:(Nat.beq (ff u).length s&&Nat.blt 0 s&&Nat.ble (off+(ff u).length) cs.length)with
     |false=>rw[hc]at h;cases h
     |true=>
      rw[hc]at h;simp only[aP,ad]at h;subst h;rw[ah,ah]at hc;obtain⟨⟨c1,c2⟩,c3⟩:=hc;have c1:=af c1;rw[bT]at c2;have c3:=bY c3;have hx:=ha x (by simp[ho,Op.operands]) _ hx
      have hy:=ha y (by simp[ho,Op.operands]) _ hy
      obtain⟨w',hr,hst⟩:=ajn (P:=P) hm hl hn (A1 hy.2) (by omega) c3
      refine⟨U,w',.inr ⟨?_,rfl⟩,hst,rfl⟩;have hcl:(u.val U).cells=((ff u).map (SC.val U)).toArray:=ko u;simp[execOp,ho,hx.1,hy.1,SV.val,Instr.storeAt,Instr.sureAddr,storeVar,hcl,c1];simp[SR.val,SC.val,(iQ hs w).2,hr]
    ·cases h
   ·cases h
  ·cases h
 ·cases h
end
end
section
variable [Sy]
section
variable {P:Program}{o:Oper}{V:Operand->Value}{ev:Operand->Option SV}{U:Th}{H H':bt}{f f':Nat}{w:World}{v:SV}
def CI(P:Program)(s:TypeId)(x:Option SV)(fld:Nat):Option SV:=match x with
 |some (.r (.one (.ptr n off)))=>match P.underlying s with
  |some (.struct fields)=>match fields.toList[fld]? with
   |some fd=>match P.info? fd.type with
    |some i=>bif Nat.beq i.size 0 then none else some (.c (.ptr n (off+fd.offset)))
    |none=>none
   |none=>none
  |_=>none
 |_=>none
theorem iw(U:Th)(n off k:Nat):(U.addr n off).add k=U.addr n (off+k):=by unfold Th.addr;rw[Addr.add_mid,cT]
theorem Ya{s:TypeId}{x:Operand}{fld:Nat}(ho:o.op= .fieldAddr s x fld)(h:CI P s (ev x) fld=some v)(hm:b9 U (get H) w)(hl:ga f (get H))(ha:kA U f ev V o):bB P o V U H f w v H f:=by
 unfold CI at h;split at h
 ·rename_i n off hx;split at h
  ·rename_i fields hu;split at h
   ·rename_i fd hf;split at h
    ·rename_i i hi;cases hz:Nat.beq i.size 0 with
     |true=>rw[hz]at h;cases h
     |false=>
      rw[hz]at h;simp only[cD,ad]at h;subst h;have hx:=ha x (by simp[ho,Op.operands]) _ hx
      have hz':¬i.size=0:=fun e=>by rw[e]at hz;cases hz
      rw[b8]at hf;refine bB.same hm hl ?_ hx.2;simp[execOp,ho,hx.1,SV.val,SR.val,SC.val,Instr.fieldAt,run_underlying hu,hf,Instr.sureAddr,fieldPlace,sizeOf,typeInfo,hi,hz',iw]
    ·cases h
   ·cases h
  ·cases h
 ·cases h
def Cj(P:Program)(t:TypeId)(x ix:Option SV):Option SV:=match ix with
 |some (.r (.one (.int _ i)))=>match P.underlying t with
  |some (.slice elem)=>match x with
   |some (.r (.one (.slice n off l d)))=>match P.info? elem with
    |some e=>bif decide (0<=i/\i<(l:Int))then some (.c (.ptr n (off+i.toNat*e.size)))else none
    |none=>none
   |_=>none
  |some (.array len elem)=>match x with
   |some (.r (.one (.ptr n off)))=>match P.info? elem with
    |some e=>bif decide (0<=i/\i<(len:Int))then some (.c (.ptr n (off+i.toNat*e.size)))else none
    |none=>none
   |_=>none
  |_=>none
 |_=>none
theorem XO{t:TypeId}{x ix:Operand}(ho:o.op= .indexAddr t x ix)(h:Cj P t (ev x) (ev ix)=some v)(hm:b9 U (get H) w)(hl:ga f (get H))(ha:kA U f ev V o):bB P o V U H f w v H f:=by
 unfold Cj at h;split at h
 ·rename_i k i hi;have hi:=ha ix (by simp[ho,Op.operands]) _ hi
  split at h
  ·rename_i elem hu;split at h
   ·rename_i n off l d hx;have hx:=ha x (by simp[ho,Op.operands]) _ hx
    split at h
    ·rename_i e he;cases hz:decide (0<=i/\i<(l:Int))with
     |false=>rw[hz]at h;cases h
     |true=>rw[hz]at h;simp only[aP,ad]at h;subst h;have hz:=of_decide_eq_true hz;refine bB.same hm hl ?_ hx.2;simp[execOp,ho,hx.1,hi.1,SV.val,SR.val,SC.val,Instr.indexAt,asIntOf,run_underlying hu,hz,sizeOf,typeInfo,he,iw]
    ·cases h
   ·cases h
  ·rename_i len elem hu;split at h
   ·rename_i n off hx;have hx:=ha x (by simp[ho,Op.operands]) _ hx
    split at h
    ·rename_i e he;cases hz:decide (0<=i/\i<(len:Int))with
     |false=>rw[hz]at h;cases h
     |true=>rw[hz]at h;simp only[aP,ad]at h;subst h;have hz:=of_decide_eq_true hz;refine bB.same hm hl ?_ hx.2;simp[execOp,ho,hx.1,hi.1,SV.val,SR.val,SC.val,Instr.indexAt,asIntOf,run_underlying hu,hz,sizeOf,typeInfo,he,iw,Instr.sureAddr]
    ·cases h
   ·cases h
  ·cases h
 ·cases h
def Ii(P:Program)(t:TypeId)(l:List SC)(off:Nat):Option SV:=match pf P t with
 |some (s,true)=>match nT s (l.drop off)with
  |some r=>some (.r (.agg r))
  |none=>none
 |some (_,false)=>match l.drop off with
  |c::_=>some (.c c)
  | []=>none
 |none=>none
theorem wG{t:TypeId}{l:List SC}{off:Nat}(h:Ii P t l off=some v)(hlt:l.all (SC.ltB f)=true)(w:World):(part t (l.map (SC.val U)).toArray off).run P w= .ok (v.val U) w/\v.ltB f=true:=by
 unfold Ii at h;split at h
 ·rename_i s hs;obtain⟨g1,g2⟩:=iQ hs w;split at h
  ·rename_i r hr;cases h;refine⟨?_,vF hr (E0 hlt)⟩;obtain⟨rfl,hlen⟩:=g9 hr;have:((l.map (SC.val U)).toArray.extract off (off+s))=(((l.drop off).take s).map (SC.val U)).toArray:=by
    rw[List.extract_toArray,List.extract_eq_take_drop,List.map_take,List.map_drop]
    congr 2
    omega
   simp[part,g1,g2,SV.val,SR.val]
  ·cases h
 ·rename_i s hs;obtain⟨g1,g2⟩:=iQ hs w;split at h
  ·rename_i c r hd;cases h;have hc:l[off]?=some c:=by
    have:(l.drop off)[0]?=some c:=by rw[hd];rfl
    rwa [b_,ch]at this
   refine⟨?_,be.1 hlt c (bS hc)⟩;simp[part,g1,hc,SV.val,SR.val]
  ·cases h
 ·cases h
def ag6(P:Program)(s:TypeId)(x:Option SV)(fld:Nat):Option SV:=match x with
 |some (.r (.agg l))=>match P.underlying s with
  |some (.struct fields)=>match fields.toList[fld]? with
   |some fd=>Ii P fd.type l fd.offset
   |none=>none
  |_=>none
 |_=>none
theorem arE{s:TypeId}{x:Operand}{fld:Nat}(ho:o.op= .field s x fld)(h:ag6 P s (ev x) fld=some v)(hm:b9 U (get H) w)(hl:ga f (get H))(ha:kA U f ev V o):bB P o V U H f w v H f:=by
 unfold ag6 at h;split at h
 ·rename_i l hx;split at h
  ·rename_i fields hu;split at h
   ·rename_i fd hf;have hx:=ha x (by simp[ho,Op.operands]) _ hx
    rw[b8]at hf;obtain⟨h1,h2⟩:=wG (U:=U) h hx.2 w;refine bB.same hm hl ?_ h2;simp[execOp,ho,hx.1,SV.val,SR.val,Instr.field,run_underlying hu,hf,asAgg,-List.map_toArray];rw[h1];rfl
   ·cases h
  ·cases h
 ·cases h
def agA(P:Program)(t:TypeId)(x ix:Option SV):Option SV:=match ix with
 |some (.r (.one (.int _ i)))=>match x with
  |some (.r (.agg l))=>match P.underlying t with
   |some (.array len elem)=>match P.info? elem with
    |some e=>bif decide (0<=i/\i<(len:Int))then Ii P elem l (i.toNat*e.size)else none
    |none=>none
   |_=>none
  |_=>none
 |_=>none
theorem aro{t:TypeId}{x ix:Operand}(ho:o.op= .index t x ix)(h:agA P t (ev x) (ev ix)=some v)(hm:b9 U (get H) w)(hl:ga f (get H))(ha:kA U f ev V o):bB P o V U H f w v H f:=by
 unfold agA at h;split at h
 ·rename_i k i hi;have hi:=ha ix (by simp[ho,Op.operands]) _ hi
  split at h
  ·rename_i l hx;have hx:=ha x (by simp[ho,Op.operands]) _ hx
   split at h
   ·rename_i len elem hu;split at h
    ·rename_i e he;cases hz:decide (0<=i/\i<(len:Int))with
     |false=>rw[hz]at h;cases h
     |true=>rw[hz]at h;simp only[aP]at h;have hz:=of_decide_eq_true hz;obtain⟨h1,h2⟩:=wG (U:=U) h hx.2 w;refine bB.same hm hl ?_ h2;simp[execOp,ho,hx.1,hi.1,SV.val,SR.val,SC.val,Instr.index,asIntOf,run_underlying hu,hz,sizeOf,typeInfo,he,-List.map_toArray];rw[h1];rfl
    ·cases h
   ·cases h
  ·cases h
 ·cases h
def PP(x:Option SV)(i:Nat):Option SV:=match x with
 |some (.tup l)=>match l[i]? with
  |some s=>some (.r s)
  |none=>none
 |_=>none
theorem ahb{x:Operand}{i:Nat}(ho:o.op= .extract x i)(h:PP (ev x) i=some v)(hm:b9 U (get H) w)(hl:ga f (get H))(ha:kA U f ev V o):bB P o V U H f w v H f:=by
 unfold PP at h;split at h
 ·rename_i l hx;split at h
  ·rename_i s hs;cases h;have hx:=ha x (by simp[ho,Op.operands]) _ hx
   refine bB.same hm hl ?_ (be.1 hx.2 s (bS hs));simp[execOp,ho,hx.1,SV.val,Instr.extract,hs]
  ·cases h
 ·cases h
def o9(P:Program)(t:TypeId):Option (List SC):=match P.info? t with
 |some i=>match i.zero with
  |some z=>cellsOf z.cells.toList
  |none=>none
 |none=>none
theorem jz{t:TypeId}{l:List SC}(h:o9 P t=some l):∃z,(∀w,(zeroValue t).run P w= .ok z w)/\(∀U:Th,z.cells=(l.map (SC.val U)).toArray)/\∀f,l.all (SC.ltB f)=true:=by
 unfold o9 at h;split at h
 ·rename_i i hi;split at h
  ·rename_i z hz;refine⟨z,fun w=>by simp[zeroValue,typeInfo,hi,hz],fun U=>?_,fun f=>P2 h f⟩
   rw[II h U]
  ·cases h
 ·cases h
theorem Ij{l:List SC}{t:TypeId}(hm:b9 U (get H) w)(hl:ga f (get H))(hlt:l.all (SC.ltB f)=true):
  dA U (get H) f w (hU U f ⟨w.heap.size,0,0,xd⟩) (get ((f,.cells 0 t l)::H)) (f+1) (w.alloc (.cells (l.map (SC.val U)).toArray t)):=by
 refine rQ hm hl _ ⟨w.heap.size,0,0,xd⟩ rfl (.cells 0 t l) ⟨by rw[bK];rfl,_,by rw[bK];exact sx w _,fun j c hj=>?_,.inl rfl⟩ hlt (fun _ h=>h)
 rw[bK,bR,eF,aM,hj]
 show some _=some _
 rw[SC.val_ext (be.1 hlt c (bS hj)) fun n hn=>e9 hn]
theorem ar9{t:TypeId}{l:List SC}(ho:o.op= .alloc t)(h:o9 P t=some l)(hm:b9 U (get H) w)(hl:ga f (get H)):bB P o V U H f w (.c (.ptr f 0)) ((f,.cells 0 t l)::H) (f+1):=by
 obtain⟨z,h1,h2,h3⟩:=jz h;refine⟨_,_,.inl ?_,Ij hm hl (h3 f),by simp[SV.ltB,SR.ltB,SC.ltB]⟩
 rw[<-h2 U];simp[execOp,ho,Instr.alloc,h1,newVar,newRow,SV.val,SR.val,SC.val,Th.addr,bK]
theorem aCi{t:TypeId}{x:Operand}{u:SR}(ho:o.op= .box t x)(h:ev x=some (.r u))(hm:b9 U (get H) w)(hl:ga f (get H))(ha:kA U f ev V o):bB P o V U H f w (.c (.ptr f 0)) ((f,.cells 0 t (ff u))::H) (f+1):=by
 have hx:=ha x (by simp[ho,Op.operands]) _ h
 refine⟨_,_,.inl ?_,Ij hm hl (A1 hx.2),by simp[SV.ltB,SR.ltB,SC.ltB]⟩
 rw[<-ko];have:V x=u.val U:=hx.1;simp[execOp,ho,Instr.box,newVar,newRow,this,SV.val,SR.val,SC.val,Th.addr,bK]
end
end
section
variable [Sy]
def AI(place:Nat->Option (Nat×Nat))(cells:List SC):List (Nat×List SC)->Option (List SC)
 | []=>some cells
 |(i,l)::rest=>match place i with
  |none=>none
  |some (off,size)=>bif Nat.beq l.length size&&Nat.ble (off+l.length) cells.length then AI place (ja cells off l) rest else none
theorem anq{α:Type}:∀ (l:List α) (k off:Nat) (cs:Array α),off+k+l.length<=cs.size->((l.zipIdx k).foldl (fun cs (p:α×Nat)=>cs.setIfInBounds (off+p.2) p.1) cs)=(ja cs.toList (off+k) l).toArray:=by
 intro l
 induction l with
 |nil=>intro k off cs h;simp[ja]
 |cons c r ih=>
  intro k off cs h;simp only[cj]at h;rw[List.zipIdx_cons,List.foldl_cons,ih (k+1) off _ (by simp;omega)]
  apply Array.ext';simp only[Array.toList_setIfInBounds];refine cF fun j=>?_
  rw[ly (by simp;omega),ly (by simp;omega)]
  simp only[cj]
  by_cases h1:j<off+k
  ·rw[ab (by omega),ab h1,iB (by omega)]
  ·rw[ak h1]
   by_cases h2:j=off+k
   ·subst h2;rw[ab (by omega),ab (by omega),ej (by simp;omega)]
    simp
   ·rw[ak (by omega)]
    by_cases h3:j<off+k+(r.length+1)
    ·rw[ab (by omega),ab h3,show j-(off+k)=(j-(off+(k+1)))+1 by omega,bk]
    ·rw[ak (by omega),ak h3,iB (by omega)]
theorem Ha{place:Nat->Option (Nat×Nat)}(U:Th):∀ {parts:List (Nat×List SC)} {vals:List (Nat×Value)} {cells r:List SC},AI place cells parts=some r->
  (vals.map fun p=>(p.1,p.2.cells))=(parts.map fun p=>(p.1,(p.2.map (SC.val U)).toArray))->Instr.fill place (cells.map (SC.val U)).toArray vals=some (r.map (SC.val U)).toArray:=by
 intro parts
 induction parts with
 |nil=>
  intro vals cells r h hv;cases vals with
  |nil=>simp only[AI,ad]at h;subst h;rfl
  |cons a b=>simp at hv
 |cons p rest ih=>
  intro vals cells r h hv;cases vals with
  |nil=>simp at hv
  |cons q vals=>
   obtain⟨i,l⟩:=p;obtain⟨i',u⟩:=q;simp only[cL,List.cons.injEq,aA]at hv;obtain⟨⟨rfl,hu⟩,hv⟩:=hv;simp only[AI]at h;unfold Instr.fill;split at h
   ·cases h
   ·rename_i off size hp;rw[hp];cases hc:(Nat.beq l.length size&&Nat.ble (off+l.length) cells.length)with
    |false=>rw[hc]at h;cases h
    |true=>
     rw[hc]at h;simp only[aP]at h;rw[ah]at hc;have c1:=af hc.1;have c2:=bY hc.2;have hs:u.cells.size=size:=by rw[hu];simp[c1]
     have hnot:(decide (u.cells.size≠size)||decide (off+u.cells.size>(cells.map (SC.val U)).toArray.size))=false:=by simp only[hs,ne_eq,not_true,decide_false,jF,decide_eq_false_iff_not,iA,bO];omega
     simp only[hnot];rw[ak (by simp)]
     have hfold:(u.cells.zipIdx.foldl (fun cs (p:Value×Nat)=>cs.setIfInBounds (off+p.2) p.1) (cells.map (SC.val U)).toArray)=((ja cells off l).map (SC.val U)).toArray:=by
      have hz:(u.cells.zipIdx.foldl (fun cs (p:Value×Nat)=>cs.setIfInBounds (off+p.2) p.1) (cells.map (SC.val U)).toArray)=((l.map (SC.val U)).zipIdx.foldl (fun cs (p:Value×Nat)=>cs.setIfInBounds (off+p.2) p.1) (cells.map (SC.val U)).toArray):=by rw[hu,<-Array.foldl_toList];simp
      rw[hz,anq _ 0 off _ (by simp;omega)]
      congr 1
      simp only[ch];unfold ja;simp[fR,List.map_take,List.map_drop]
     have:=ih h hv;rw[<-hfold]at this;exact this
theorem PO{place:Nat->Option (Nat×Nat)}{f:Nat}:∀ {parts:List (Nat×List SC)} {cells r:List SC},AI place cells parts=some r->cells.all (SC.ltB f)=true->(∀p∈parts,p.2.all (SC.ltB f)=true)->r.all (SC.ltB f)=true:=by
 intro parts
 induction parts with
 |nil=>intro cells r h hc _;simp only[AI,ad]at h;subst h;exact hc
 |cons p rest ih=>
  intro cells r h hc hp;obtain⟨i,l⟩:=p;simp only[AI]at h;split at h
  ·cases h
  ·rename_i off size hpl;cases hcc:(Nat.beq l.length size&&Nat.ble (off+l.length) cells.length)with
   |false=>rw[hcc]at h;cases h
   |true=>rw[hcc]at h;exact ih h (aaO hc (hp (i,l) (bN ..))) fun p hp'=>hp p (aU _ hp')
def wF(ev:Operand->Option SV):List (Nat×Operand)->Option (List (Nat×List SC))
 | []=>some []
 |(i,x)::r=>match ev x with
  |some (.r u)=>match wF ev r with
   |some l=>some ((i,ff u)::l)
   |none=>none
  |_=>none
theorem Oe{ev:Operand->Option SV}{V:Operand->Value}{U:Th}{f:Nat}:∀ {ps:List (Nat×Operand)} {l:List (Nat×List SC)},wF ev ps=some l->(∀x∈ps.map (·.2),∀s,ev x=some s->V x=s.val U/\s.ltB f=true)->
  ((ps.map fun p=>(p.1,V p.2)).map fun p=>(p.1,p.2.cells))=(l.map fun p=>(p.1,(p.2.map (SC.val U)).toArray))/\∀p∈l,p.2.all (SC.ltB f)=true:=by
 intro ps
 induction ps with
 |nil=>intro l h _;simp only[wF,ad]at h;subst h;simp
 |cons p r ih=>
  intro l h ha;obtain⟨i,x⟩:=p;simp only[wF]at h;split at h
  ·rename_i u hu;split at h
   ·rename_i l' hl';cases h;obtain⟨h1,h2⟩:=ih hl' fun x hx=>ha x (by simp only[cL];exact aU _ hx)
    have hx:=ha x (by simp) _ hu
    refine⟨?_,fun p hp=>?_⟩
    ·simp only[cL];rw[h1,hx.1]
     show(i,(u.val U).cells)::_=_
     rw[ko]
    ·rcases aS.1 hp with rfl|hp
     ·exact A1 hx.2
     ·exact h2 p hp
   ·cases h
  ·cases h
section
variable {P:Program}{o:Oper}{V:Operand->Value}{ev:Operand->Option SV}{U:Th}{H H':bt}{f f':Nat}{w:World}{v:SV}
def D4(P:Program):List Field->Option (List (Nat×Nat))
 | []=>some []
 |fd::r=>match P.info? fd.type with
  |some i=>match D4 P r with
   |some l=>some ((fd.offset,i.size)::l)
   |none=>none
  |none=>none
def ahr(P:Program)(t:TypeId)(parts:List (Nat×List SC)):Option (List SC):=match o9 P t with
 |none=>none
 |some z=>match P.underlying t with
  |some (.struct fields)=>match D4 P fields.toList with
   |some pl=>AI (fun i=>pl[i]?) z parts
   |none=>none
  |some (.array _ elem)=>match P.info? elem with
   |some e=>AI (fun i=>some (i*e.size,e.size)) z parts
   |none=>none
  |_=>none
theorem afN{w:World}:∀ {fs:List Field} {pl:List (Nat×Nat)},D4 P fs=some pl->((fs.mapM fun(fd:Field)=>Functor.map (Prod.mk fd.offset) (sizeOf fd.type)):Sem (List (Nat×Nat))).run P w= .ok pl w:=by
 intro fs
 induction fs with
 |nil=>intro pl h;simp only[D4,ad]at h;subst h;rfl
 |cons fd r ih=>
  intro pl h;simp only[D4]at h;split at h
  ·rename_i i hi;split at h
   ·rename_i l hl;cases h;have hs:(sizeOf fd.type).run P w= .ok i.size w:=by simp[sizeOf,typeInfo,hi]
    rw[List.mapM_cons];simp[hs,ih hl]
   ·cases h
  ·cases h
theorem ar4{t:TypeId}{parts:Array (Nat×Operand)}{ps:List (Nat×List SC)}{l:List SC}(ho:o.op= .build t parts)(hp:wF ev parts.toList=some ps)(h:ahr P t ps=some l)(hm:b9 U (get H) w)(hl:ga f (get H))(ha:kA U f ev V o):bB P o V U H f w (.r (.agg l)) H f:=by
 obtain⟨p1,p2⟩:=Oe (U:=U) (f:=f) hp fun x hx=>ha x (by simp only[ho,Op.operands];simpa using hx)
 unfold ahr at h;split at h
 ·cases h
 ·rename_i z hz;obtain⟨zv,z1,z2,z3⟩:=jz hz;split at h
  ·rename_i fields hu;split at h
   ·rename_i pl hpl;have hf:=Ha U h p1;refine bB.same hm hl ?_ (PO h (z3 f) p2);have hpl':((fields.mapM fun(fd:Field)=>Functor.map (Prod.mk fd.offset) (sizeOf fd.type)):Sem (Array (Nat×Nat))).run P w= .ok pl.toArray w:=by
     rw[Array.mapM_eq_mapM_toList];simp[afN hpl]
    simp[execOp,ho,Instr.build,z1,run_underlying hu,z2 U,SV.val,SR.val,-List.map_toArray,hpl'];simp[hf]
   ·cases h
  ·rename_i n elem hu;split at h
   ·rename_i e he;have hf:=Ha U h p1;refine bB.same hm hl ?_ (PO h (z3 f) p2);simp[execOp,ho,Instr.build,z1,run_underlying hu,z2 U,SV.val,SR.val,sizeOf,typeInfo,he,-List.map_toArray];simp[hf]
   ·cases h
  ·cases h
end
end
section
variable [Sy]
def Ln{α:Type}:Nat->List α->List α
 |0,_=>[]
 |n+1,l=>l++Ln n l
theorem vU{α:Type}(l:List α):∀n,(Ln n l).length=n*l.length
 |0=>by simp[Ln]
 |n+1=>by simp only[Ln,ba,vU l n];rw[co,dd,kv]
theorem ZV{α:Type}(l:List α):∀n j,j<n*l.length->(Ln n l)[j]?=l[j%l.length]?
 |0,j,h=>by simp at h
 |n+1,j,h=>by
  rw[co,dd]at h;simp only[Ln]
  by_cases hj:j<l.length
  ·rw[bl hj,kq hj]
  ·rw[bA (by omega),ZV l n _ (by omega),Nat.mod_eq_sub_mod (by omega:l.length<=j)]
theorem Lm{l:List SC}{f:Nat}(h:l.all (SC.ltB f)=true):∀n,(Ln n l).all (SC.ltB f)=true
 |0=>rfl
 |n+1=>nA h (Lm h n)
theorem ajD{l:List SC}(U:Th){z:Array Value}(hz:z=(l.map (SC.val U)).toArray)(n:Nat):madeCells z (n*z.size)=((Ln n l).map (SC.val U)).toArray:=by
 subst hz;apply Array.ext';refine cF fun j=>?_
 simp only[iA,bO];unfold madeCells;rw[aM]
 by_cases hj:j<n*l.length
 ·rw[ZV l n j hj];have hp:0<l.length:=by
   rcases dR l.length with h0|hp
   ·rw[h0]at hj;omega
   ·exact hp
  have hm:=eN j hp;simp[hj,hm]
 ·have h1:(Ln n l)[j]?=none:=bp (by rw[vU];omega)
  rw[h1];simp;omega
section
variable {P:Program}{o:Oper}{V:Operand->Value}{ev:Operand->Option SV}{U:Th}{H H':bt}{f f':Nat}{w:World}{v:SV}
theorem Gl{l:List SC}{t:TypeId}{s n:Nat}(hm:b9 U (get H) w)(hl:ga f (get H))(hlt:l.all (SC.ltB f)=true)(hlen:l.length=n*s)(hn:n<=maxLen):
  dA U (get H) f w (hU U f ⟨w.heap.size,0,n,xd⟩) (get ((f,.cells s t l)::H)) (f+1) (w.alloc (.cells (l.map (SC.val U)).toArray t)):=by
 refine rQ hm hl _ ⟨w.heap.size,0,n,xd⟩ rfl (.cells s t l) ⟨by rw[bK];rfl,_,by rw[bK];exact sx w _,fun j c hj=>?_,.inr ⟨by rw[bK],by rw[bK];simp[hlen],by rw[bK];exact hn⟩⟩ hlt (fun _ h=>h)
 rw[bK,bR,eF,aM,hj]
 show some _=some _
 rw[SC.val_ext (be.1 hlt c (bS hj)) fun n hn=>e9 hn]
def xL(P:Program)(t:TypeId)(f:Nat)(H:bt):Option (SV×bt×Nat):=match P.underlying t with
 |some (.slice elem)=>match P.info? elem with
  |some e=>some (.c (.slice f 0 0 0),(f,.cells e.size elem [])::H,f+1)
  |none=>none
 |_=>none
theorem RI{t:TypeId}{parts:Array (Nat×Operand)}(ho:o.op= .buildSlice t 0 parts)(hp:parts.toList=[])(h:xL P t f H=some (v,H',f'))(hm:b9 U (get H) w)(hl:ga f (get H)):bB P o V U H f w v H' f':=by
 have hp:parts= #[]:=by apply Array.ext';exact hp
 subst hp;unfold xL at h;split at h
 ·rename_i elem hu;split at h
  ·rename_i e he;simp only[ad,aA]at h;obtain⟨rfl,rfl,rfl⟩:=h;refine⟨_,_,.inl ?_,Gl (l:=[]) (n:=0) (s:=e.size) (t:=elem) hm hl rfl (by simp) (ec _),by simp[SV.ltB,SR.ltB,SC.ltB]⟩
   simp[execOp,ho,Instr.buildSlice,run_underlying hu,sizeOf,typeInfo,he,Instr.fill,newRow,SV.val,SR.val,SC.val,Th.addr,bK,Array.range_zero']
  ·cases h
 ·cases h
def xW(P:Program)(t:TypeId)(len:Nat)(parts:List (Nat×List SC))(f:Nat)(H:bt):Option (SV×bt×Nat):=match P.underlying t with
 |some (.slice elem)=>match P.info? elem with
  |some e=>match o9 P elem with
   |some z=>bif Nat.beq z.length e.size&&Nat.blt 0 (len*e.size)&&Nat.ble (len*e.size) 1000000&&Nat.ble len 1000000 then
     match AI (fun i=>some (i*e.size,e.size)) (Ln len z) parts with
     |some l=>bif Nat.beq l.length (len*e.size)then some (.c (.slice f 0 len 0),(f,.cells e.size elem l)::H,f+1)else none
     |none=>none
    else none
   |none=>none
  |none=>none
 |_=>none
theorem mB{n:Nat}(h:n<=1000000):n<=maxLen:=by unfold maxLen;omega
theorem RJ{t:TypeId}{len:Nat}{parts:Array (Nat×Operand)}{ps:List (Nat×List SC)}(ho:o.op= .buildSlice t len parts)(hp:wF ev parts.toList=some ps)(h:xW P t len ps f H=some (v,H',f'))
  (hm:b9 U (get H) w) (hl:ga f (get H)) (ha:kA U f ev V o):bB P o V U H f w v H' f':=by
 obtain⟨p1,p2⟩:=Oe (U:=U) (f:=f) hp fun x hx=>ha x (by simp only[ho,Op.operands];simpa using hx)
 unfold xW at h;split at h
 ·rename_i elem hu;split at h
  ·rename_i e he;split at h
   ·rename_i z hz;obtain⟨zv,z1,z2,z3⟩:=jz hz;cases hc:(Nat.beq z.length e.size&&Nat.blt 0 (len*e.size)&&Nat.ble (len*e.size) 1000000&&Nat.ble len 1000000)with
    |false=>rw[hc]at h;cases h
    |true=>
     rw[hc]at h;simp only[aP]at h;simp only[ah]at hc;obtain⟨⟨⟨c1,c2⟩,c3⟩,c4⟩:=hc;have c1:=af c1;rw[bT]at c2;have c3:=bY c3;have c4:=bY c4;split at h
     ·rename_i l hf;cases hlen:Nat.beq l.length (len*e.size)with
      |false=>rw[hlen]at h;cases h
      |true=>
       rw[hlen]at h;simp only[aP,ad,aA]at h;obtain⟨rfl,rfl,rfl⟩:=h;have hlen:=af hlen;have hf':=Ha U hf p1;have hzs:zv.cells.size=e.size:=by rw[z2 U];simp[c1]
       have hmade:=ajD U (z2 U) len;rw[hzs]at hmade;rw[<-hmade]at hf';unfold madeCells at hf';refine⟨_,_,.inl ?_,Gl hm hl (PO hf (Lm (z3 f) len) p2) hlen (mB c4),by simp[SV.ltB,SR.ltB,SC.ltB]⟩
       have n1:¬ (2^24<len*e.size):=by omega
       have n2:¬ (len*e.size=0):=by omega
       have n1':¬ (16777216<len*e.size):=by omega
       simp[execOp,ho,Instr.buildSlice,run_underlying hu,sizeOf,typeInfo,he,n1',n2,z1,-List.map_toArray];simp[hf',newRow,SV.val,SR.val,SC.val,Th.addr,bK]
     ·cases h
   ·cases h
  ·cases h
 ·cases h
def B0(P:Program)(t:TypeId)(x y:Option SV)(f:Nat)(H:bt):Option (SV×bt×Nat):=match x with
 |some (.r (.one (.int _ l)))=>match y with
  |some (.r (.one (.int _ c)))=>match P.underlying t with
   |some (.slice elem)=>match P.info? elem with
    |some e=>match o9 P elem with
     |some z=>bif Nat.beq z.length e.size&&Nat.blt 0 e.size&&decide (0<=l/\l<=c/\c<=1000000)&&Nat.ble e.bytes 1024 then some (.c (.slice f 0 l.toNat 0),(f,.cells e.size elem (Ln c.toNat z))::H,f+1)else none
     |none=>none
    |none=>none
   |_=>none
  |_=>none
 |_=>none
theorem Xb{t:TypeId}{x y:Operand}(ho:o.op= .makeSlice t x y)(h:B0 P t (ev x) (ev y) f H=some (v,H',f'))(hm:b9 U (get H) w)(hl:ga f (get H))(ha:kA U f ev V o):bB P o V U H f w v H' f':=by
 unfold B0 at h;split at h
 ·rename_i k l hx;split at h
  ·rename_i k' c hy;have hx:=ha x (by simp[ho,Op.operands]) _ hx
   have hy:=ha y (by simp[ho,Op.operands]) _ hy
   split at h
   ·rename_i elem hu;split at h
    ·rename_i e he;split at h
     ·rename_i z hz;cases hc:(Nat.beq z.length e.size&&Nat.blt 0 e.size&&decide (0<=l/\l<=c/\c<=1000000)&&Nat.ble e.bytes 1024)with
      |false=>rw[hc]at h;cases h
      |true=>
       rw[hc]at h;simp only[aP,ad,aA]at h;obtain⟨rfl,rfl,rfl⟩:=h;simp only[ah]at hc;obtain⟨⟨⟨c1,c2⟩,c3⟩,c4⟩:=hc;have c1:=af c1;rw[bT]at c2;obtain⟨d1,d2,d3⟩:=of_decide_eq_true c3;have c4:=bY c4;obtain⟨zv,z1,z2,z3⟩:=jz hz;have hzs:zv.cells.size=e.size:=by rw[z2 U];simp[c1]
       have hmade:=ajD U (z2 U) c.toNat;rw[hzs]at hmade;have hzero:e.zero=some zv:=by
        have:=z1 w;simp only[zeroValue,typeInfo,Sem.run_bind,run_program,Result.andThen_ok,he,Sem.run_pure]at this;cases hq:e.zero with
        |none=>rw[hq]at this;simp at this
        |some q=>rw[hq]at this;simp at this;rw[this]
       have hbytes:(e.bytes:Int)*c<=281474976710656:=by
        have:(e.bytes:Int)*c<=1024*1000000:=iW (by omega) d3 (by omega) (by omega)
        omega
       have hr:=run_make (P:=P) w t elem e zv hu he hzero k k' l c d1 d2 hbytes (by omega)
       rw[hmade]at hr;refine⟨_,_,.inl ?_,Gl (n:=c.toNat) hm hl (Lm (z3 f) _) (by rw[vU,c1]) (mB (by omega)),by simp[SV.ltB,SR.ltB,SC.ltB]⟩
       simp[execOp,ho,hx.1,hy.1,SV.val,SR.val,SC.val,hr,Th.addr,bK]
     ·cases h
    ·cases h
   ·cases h
  ·cases h
 ·cases h
def P8(x:Option (Option SV))(d:Nat):Option Nat:=match x with
 |none=>some d
 |some (some (.r (.one (.int _ i))))=>bif decide (0<=i)then some i.toNat else none
 |_=>none
def aeG(P:Program)(t:TypeId)(x:Option SV)(lo hi:Option (Option SV))(f:Nat)(H:bt):Option (SV×Nat):=match x with
 |some (.r (.one (.slice n off l d)))=>match P.underlying t with
  |some (.slice elem)=>match P.info? elem with
   |some e=>match get H n with
    |some (.cells es _ cs)=>match P8 lo 0 with
     |some a=>match P8 hi l with
      |some b=>bif Nat.blt 0 es&&Nat.ble ((d+l)*es) cs.length&&Nat.ble a b&&Nat.ble b l then
        (bif Nat.beq a 0 then some (.c (.slice n off b d),f)
         else bif Nat.blt a l then some (.c (.slice n (off+a*e.size) (b-a) (d+a)),f)
         else some (.c (.slice f 0 0 0),f+1))
       else none
      |none=>none
     |none=>none
    |_=>none
   |none=>none
  |_=>none
 |_=>none
theorem Yn{n es:Nat}{e:TypeId}{cs:List SC}(hm:b9 U (get H) w)(hn:get H n=some (.cells es e cs))(hes:0<es){k:Nat}(hk:k*es<=cs.length):k<=(U n).cap:=by
 obtain⟨h0,arr,h1,h2,h3⟩:=hm.ok n _ hn;rcases h3 with h3|⟨h3,h4,h5⟩
 ·omega
 ·rcases dR cs.length with h0|hp
  ·rw[h0]at hk;have:k*es=0:=by omega
   rcases Nat.mul_eq_zero.1 this with h|h<;>omega
  ·have:=h2 (cs.length-1) _ (aj (by omega))
   obtain⟨h6,_⟩:=cP.1 this;have:k*es<=(U n).cap*es:=by omega
   exact Nat.le_of_mul_le_mul_right this hes
theorem Vo{x:Option Operand}{d a:Nat}(h:P8 (x.map ev) d=some a)(ha:∀y∈x.toList,∀s,ev y=some s->V y=s.val U/\s.ltB f=true):
  (x=none/\a=d)\/∃y k,x=some y/\V y= .int k (a:Int):=by
 cases x with
 |none=>simp only[Option.map_none,P8,ad]at h;exact .inl ⟨rfl,h.symm⟩
 |some y=>
  right
  simp only[de]at h;unfold P8 at h;split at h
  ·rename_i he;cases he
  ·rename_i k i he;simp only[ad]at he;cases hc:decide (0<=i)with
   |false=>rw[hc]at h;cases h
   |true=>
    rw[hc]at h;simp only[aP,ad]at h;have hc:=of_decide_eq_true hc;have:=(ha y (by simp) _ he).1
    refine⟨y,k,rfl,?_⟩;rw[this]
    show Value.int k i=_
    rw[<-h,Int.toNat_of_nonneg hc]
  ·cases h
theorem P5{isSlice:Bool}{len cap:Nat}{lo hi:Option Operand}{a b:Nat}(h1:(lo=none/\a=0)\/∃y k,lo=some y/\V y= .int k (a:Int))(h2:(hi=none/\b=len)\/∃y k,hi=some y/\V y= .int k (b:Int))
  (hab:a<=b) (hbc:b<=cap):(Instr.sliceBounds isSlice len cap (lo.map V) (hi.map V) none).run P w= .ok (a,b,cap) w:=by
 have g1:∀y k c,V y=Value.int k (b:Int)->(Instr.sliceBound (V y) cap c).run P w= .ok b w:=fun y k c hy=>by
  rw[hy];simp[Instr.sliceBound,asIntOf,hbc]
 have g2:∀y k c,V y=Value.int k (a:Int)->(Instr.sliceBound (V y) b c).run P w= .ok a w:=fun y k c hy=>by
  rw[hy];simp[Instr.sliceBound,asIntOf,hab]
 rcases h1 with⟨rfl,rfl⟩|⟨y,k,rfl,hy⟩
 ·rcases h2 with⟨rfl,rfl⟩|⟨y',k',rfl,hy'⟩
  ·simp[Instr.sliceBounds]
  ·simp[Instr.sliceBounds,g1 y' k' _ hy']
 ·rcases h2 with⟨rfl,rfl⟩|⟨y',k',rfl,hy'⟩
  ·simp[Instr.sliceBounds,g2 y k _ hy]
  ·simp[Instr.sliceBounds,g1 y' k' _ hy',g2 y k _ hy]
theorem apd{t:TypeId}{x:Operand}{lo hi:Option Operand}(ho:o.op= .slice t x lo hi none)(h:aeG P t (ev x) (lo.map ev) (hi.map ev) f H=some (v,f'))(hm:b9 U (get H) w)(hl:ga f (get H))(ha:kA U f ev V o):bB P o V U H f w v H f':=by
 unfold aeG at h;split at h
 ·rename_i n off l d hx;have hx:=ha x (by simp[ho,Op.operands]) _ hx
  split at h
  ·rename_i elem hu;split at h
   ·rename_i e he;split at h
    ·rename_i es e' cs hn;split at h
     ·rename_i a hlo;split at h
      ·rename_i b hhi;have b1:=Vo (V:=V) (U:=U) (f:=f) hlo fun y hy=>ha y (by simp[ho,Op.operands];simp at hy;simp[hy])
       have b2:=Vo (V:=V) (U:=U) (f:=f) hhi fun y hy=>ha y (by simp[ho,Op.operands];simp at hy;simp[hy])
       cases hc:(Nat.blt 0 es&&Nat.ble ((d+l)*es) cs.length&&Nat.ble a b&&Nat.ble b l)with
       |false=>rw[hc]at h;cases h
       |true=>
        rw[hc]at h;simp only[aP]at h;simp only[ah]at hc;obtain⟨⟨⟨c1,c2⟩,c3⟩,c4⟩:=hc;rw[bT]at c1;have c2:=bY c2;have c3:=bY c3;have c4:=bY c4;have hcap:=Yn hm hn c1 c2;have hb:=P5 (P:=P) (w:=w) (isSlice:=true) (len:=l) (cap:=(U n).cap-d) b1 b2 c3 (by omega)
        have hrun:∀u,(if(U n).cap-d=a then(some (U.addr n off):Option Addr)else some ((U.addr n off).add (a*e.size)))=u->(execOp V o).run P w= .ok (.value (.slice u (b-a) ((U n).cap-d-a))) w:=fun u hu'=>by
         subst hu';simp[execOp,ho,hx.1,SV.val,SR.val,SC.val,Instr.sliceAt,Instr.slice,run_underlying hu,sizeOf,typeInfo,he];rw[hb];simp
        cases hz:Nat.beq a 0 with
        |true=>
         rw[hz]at h;simp only[aP,ad,aA]at h;obtain⟨rfl,rfl⟩:=h;have hz:=af hz;subst hz;refine bB.same hm hl ?_ hx.2;rw[hrun (some (U.addr n off)) (by split <;>simp[Addr.add])]
         simp[SV.val,SR.val,SC.val]
        |false=>
         rw[hz]at h;simp only[cD]at h;have hz:a≠0:=fun e=>by rw[e]at hz;cases hz
         cases hlt:Nat.blt a l with
         |true=>
          rw[hlt]at h;simp only[aP,ad,aA]at h;obtain⟨rfl,rfl⟩:=h;rw[bT]at hlt;refine bB.same hm hl ?_ hx.2;rw[hrun (some (U.addr n (off+a*e.size))) (by rw[ak (by omega),iw])]
          simp[SV.val,SR.val,SC.val,Nat.sub_sub]
         |false=>
          rw[hlt]at h;simp only[cD,ad,aA]at h;obtain⟨rfl,rfl⟩:=h;have hge:¬a<l:=fun e=>by
           have h9:Nat.blt a l=true:=by rw[bT];exact e
           rw[h9]at hlt;cases hlt
          have hab:b-a=0:=by omega
          by_cases hcc:(U n).cap-d=a
          ·refine⟨hU U f ⟨(U n).b,(U n).sh+off,(U n).cap-d-a,xd⟩,w,.inl ?_,Si hm hl _,by simp[SV.ltB,SR.ltB,SC.ltB]⟩
           rw[hrun (some (U.addr n off)) (by rw[ab hcc]),hab]
           simp[SV.val,SR.val,SC.val,Th.addr,bK]
          ·refine⟨hU U f ⟨(U n).b,(U n).sh+(off+a*e.size),(U n).cap-d-a,xd⟩,w,.inl ?_,Si hm hl _,by simp[SV.ltB,SR.ltB,SC.ltB]⟩
           rw[hrun (some (U.addr n (off+a*e.size))) (by rw[ak hcc,iw]),hab]
           simp[SV.val,SR.val,SC.val,Th.addr,bK]
      ·cases h
     ·cases h
    ·cases h
   ·cases h
  ·cases h
 ·cases h
end
end
section
variable [Sy]
section
variable {P:Program}{o:Oper}{V:Operand->Value}{ev:Operand->Option SV}{U:Th}{H H':bt}{f f':Nat}{w:World}{v:SV}
def Vm(ev:Operand->Option SV):List Operand->Option (List (Nat×Nat))
 | []=>some []
 |x::r=>match ev x with
  |some (.r (.one (.ptr n o)))=>match Vm ev r with
   |some l=>some ((n,o)::l)
   |none=>none
  |_=>none
theorem anM:∀ {xs:List Operand} {l:List (Nat×Nat)},Vm ev xs=some l->(∀x∈xs,∀s,ev x=some s->V x=s.val U/\s.ltB f=true)->
  xs.map V=(l.map fun p=>Value.pointer (some (U.addr p.1 p.2)))/\(l.all fun p=>Nat.blt p.1 f)=true:=by
 intro xs
 induction xs with
 |nil=>intro l h _;simp only[Vm,ad]at h;subst h;simp
 |cons x r ih=>
  intro l h ha;simp only[Vm]at h;split at h
  ·rename_i n o' hx;split at h
   ·rename_i l' hl';cases h;obtain⟨h1,h2⟩:=ih hl' fun y hy=>ha y (aU _ hy)
    have hx:=ha x (bN ..) _ hx;refine⟨?_,?_⟩
    ·simp only[cL,h1];rw[hx.1];rfl
    ·rw[jD,h2];have:=hx.2;simpa[SV.ltB,SR.ltB,SC.ltB]using this
   ·cases h
  ·cases h
theorem abb{g:Nat}{caps:Array Operand}{l:List (Nat×Nat)}(ho:o.op= .makeFunc (.func g) #[] caps)(h:Vm ev caps.toList=some l)(hm:b9 U (get H) w)(hl:ga f (get H))(ha:kA U f ev V o):bB P o V U H f w (.c (.fn g l)) H f:=by
 obtain⟨h1,h2⟩:=anM (V:=V) (U:=U) (f:=f) h fun x hx=>ha x (by simp only[ho,Op.operands];simpa using hx)
 refine bB.same hm hl ?_ h2;have:caps.map V=(l.map fun p=>Value.pointer (some (U.addr p.1 p.2))).toArray:=by apply Array.ext';rw[Array.toList_map,h1]
 simp[execOp,ho,Instr.makeFunc,SV.val,SR.val,SC.val,this,-List.map_toArray]
theorem fO{c:Call}{b:Builtin}(ho:o.op= .call c)(hc:c.callee= .builtin b):∃cs,execOp V o=builtin b c.argTypes o.type cs (c.args.toList.map V).toArray:=by
 obtain⟨dst,op,ty,pos,after,guard⟩:=o;obtain⟨callee,args,ats⟩:=c;simp only at ho hc;subst ho;subst hc;have e1:args.map V=(args.toList.map V).toArray:=by apply Array.ext';simp
 refine⟨args.map fun| .const _=>true|_=>false,?_⟩
 show _=builtin b ats ty (args.map fun| .const _=>true|_=>false) (args.toList.map V).toArray
 rw[<-e1];rfl
def aBJ(P:Program)(ts:List TypeId)(xs:List (Option SV)):Option SV:=match ts,xs with
 | [t],[some (.r (.one (.slice _ _ l _)))]=>match P.underlying t with
  |some (.slice _)=>some (.c (.int .i64 l))
  |_=>none
 | [t],[some (.r (.one .nils))]=>match P.underlying t with
  |some (.slice _)=>some (.c (.int .i64 0))
  |_=>none
 |_,_=>none
theorem aBI{c:Call}(ho:o.op= .call c)(hc:c.callee= .builtin .len)(h:aBJ P c.argTypes.toList (c.args.toList.map ev)=some v)(hm:b9 U (get H) w)(hl:ga f (get H))(ha:kA U f ev V o):bB P o V U H f w v H f:=by
 obtain⟨cs,he⟩:=fO (V:=V) ho hc;unfold aBJ at h;split at h
 ·rename_i t n o' l d hts hxs;split at h
  ·rename_i e hu;cases h;obtain⟨x,hx1,hx2⟩:∃x,c.args.toList=[x]/\ev x=some (.c (.slice n o' l d)):=by
    cases hq:c.args.toList with
    |nil=>rw[hq]at hxs;simp at hxs
    |cons x r=>rw[hq]at hxs;cases r<;>simp at hxs;exact⟨x,rfl,hxs⟩
   have hx:=ha x (by have:x∈c.args:=(by rw[<-gt,hx1];simp);simp[ho,Op.operands,Call.operands,this]) _ hx2
   have hta:c.argTypes= #[t]:=by apply Array.ext';exact hts
   refine bB.same hm hl ?_ rfl;rw[he,hx1,hta];simp[builtin,Builtin.len_,run_underlying hu,hx.1,SV.val,SR.val,SC.val,goInt]
  ·cases h
 ·rename_i t hts hxs;split at h
  ·rename_i e hu;cases h;obtain⟨x,hx1,hx2⟩:∃x,c.args.toList=[x]/\ev x=some (.c .nils):=by
    cases hq:c.args.toList with
    |nil=>rw[hq]at hxs;simp at hxs
    |cons x r=>rw[hq]at hxs;cases r<;>simp at hxs;exact⟨x,rfl,hxs⟩
   have hx:=ha x (by have:x∈c.args:=(by rw[<-gt,hx1];simp);simp[ho,Op.operands,Call.operands,this]) _ hx2
   have hta:c.argTypes= #[t]:=by apply Array.ext';exact hts
   refine bB.same hm hl ?_ rfl;rw[he,hx1,hta];simp[builtin,Builtin.len_,run_underlying hu,hx.1,SV.val,SR.val,SC.val,goInt]
  ·cases h
 ·cases h
def qP:List (Option SV)->Option (List Value)
 | []=>some []
 |some s::r=>match s.clo with
  |some v=>match qP r with
   |some l=>some (v::l)
   |none=>none
  |none=>none
 |none::_=>none
def ajo(P:Program)(b:Builtin)(ts:Array TypeId)(ty:TypeId)(xs:List (Option SV)):Option SV:=match b with
 | .min| .max| .len=>match qP xs with
  |some vs=>match kX P (builtin b ts ty #[] vs.toArray)with
   |some (.value u)=>HB u
   |_=>none
  |none=>none
 |_=>none
theorem acR:∀ {xs:List Operand} {vs:List Value},qP (xs.map ev)=some vs->(∀x∈xs,∀s,ev x=some s->V x=s.val U/\s.ltB f=true)->xs.map V=vs:=by
 intro xs
 induction xs with
 |nil=>intro vs h _;simp only[fK,qP,ad]at h;subst h;rfl
 |cons x r ih=>
  intro vs h ha;simp only[cL]at h;cases hx:ev x with
  |none=>rw[hx]at h;simp[qP]at h
  |some s=>
   rw[hx]at h;simp only[qP]at h;split at h
   ·rename_i u hu;split at h
    ·rename_i l hl;cases h;rw[cL,ih hl fun y hy=>ha y (aU _ hy),(ha x (bN ..) s hx).1,SV.clo_val hu]
    ·cases h
   ·cases h
theorem aaP{c:Call}{b:Builtin}(ho:o.op= .call c)(hc:c.callee= .builtin b)(h:ajo P b c.argTypes o.type (c.args.toList.map ev)=some v)(hm:b9 U (get H) w)(hl:ga f (get H))(ha:kA U f ev V o):bB P o V U H f w v H f:=by
 obtain⟨cs,he⟩:=fO (V:=V) ho hc;have key:∀vs,qP (c.args.toList.map ev)=some vs->c.args.toList.map V=vs:=fun vs hv=>acR hv fun x hx=>ha x (by simp only[ho,Op.operands,Call.operands,hc];simpa using hx)
 have fin:∀ (vs:List Value) (hb:∀cs,builtin b c.argTypes o.type cs vs.toArray=builtin b c.argTypes o.type #[] vs.toArray),qP (c.args.toList.map ev)=some vs->∀u,kX P (builtin b c.argTypes o.type #[] vs.toArray)=some (.value u)->HB u=some v->bB P o V U H f w v H f:=fun vs hb hv u hu hvu=>by
  refine bB.same hm hl ?_ (Kv hvu f);rw[he,key vs hv,hb,Ih P _ hu w,FB hvu U]
 unfold ajo at h;split at h
 all_goals first
  |(split at h
    ·rename_i vs hv;split at h
     ·rename_i u hu;exact fin vs (fun _=>rfl) hv u hu h
     ·cases h
    ·cases h)
  |cases h
def ahd(P:Program)(b:BinOp)(t:TypeId)(x y:Option SV):Option SV:=
 let r:=match b with
  | .eql=>some false
  | .neq=>some true
  |_=>none
 match r with
 |none=>none
 |some r=>match x,y with
  |some (.r (.one (.ptr _ _))),some (.r (.one .nilp))=>match P.underlying t with
   |some (.pointer _)=>some (.c (.bool r))
   |_=>none
  |some (.r (.one .nilp)),some (.r (.one (.ptr _ _)))=>match P.underlying t with
   |some (.pointer _)=>some (.c (.bool r))
   |_=>none
  |some (.r (.one (.slice _ _ _ _))),some (.r (.one .nils))=>match P.underlying t with
   |some (.slice _)=>some (.c (.bool r))
   |_=>none
  |_,_=>none
theorem uH(t:TypeId)(x y:Value):Op.equal t x y=Op.equalIn (9999+1) t x y:=rfl
theorem RG{t e:TypeId}(h:P.underlying t=some (.pointer e))(a:Addr)(w:World):(Op.equal t (.pointer (some a)) (.pointer none)).run P w= .ok false w:=by rw[uH];unfold Op.equalIn;rw[Sem.run_bind,run_underlying h];rfl
theorem RH{t e:TypeId}(h:P.underlying t=some (.pointer e))(a:Addr)(w:World):(Op.equal t (.pointer none) (.pointer (some a))).run P w= .ok false w:=by rw[uH];unfold Op.equalIn;rw[Sem.run_bind,run_underlying h];rfl
theorem u_{t e:TypeId}(h:P.underlying t=some (.slice e))(a:Addr)(l c:Nat)(w:World):(Op.equal t (.slice (some a) l c) (.slice none 0 0)).run P w= .ok false w:=by rw[uH];unfold Op.equalIn;rw[Sem.run_bind,run_underlying h];rfl
theorem Kl{t:TypeId}{x y:Operand}{va vb:Value}{w:World}(hg:∀b,eqGuard b t x y va vb=pure ())(h1:binOp .eql t va vb=(do pure (.bool (<-Op.equal t va vb))))(h2:binOp .neq t va vb=(do pure (.bool (!(<-Op.equal t va vb)))))
  (h:(Op.equal t va vb).run P w= .ok false w) {b:BinOp} {r:Bool} (hr:(match b with| .eql=>some false| .neq=>some true|_=>none)=some r):
  (do eqGuard b t x y va vb;binOp b t va vb:Sem Value).run P w= .ok (.bool r) w:=by
 rw[hg];cases b<;>simp only[ad,reduceCtorEq]at hr
 all_goals subst hr
 ·rw[h1];simp[h]
 ·rw[h2];simp[h]
theorem arK{b:BinOp}{t t':TypeId}{x y:Operand}(ho:o.op= .binOp b t x y t')(h:ahd P b t (ev x) (ev y)=some v)(hm:b9 U (get H) w)(hl:ga f (get H))(ha:kA U f ev V o):bB P o V U H f w v H f:=by
 have hexec:execOp V o=(do pure (.value (<- (do eqGuard b t x y (V x) (V y);binOp b t (V x) (V y):Sem Value))):Sem Next):=by unfold execOp;rw[ho]
 have fin:∀r,(do eqGuard b t x y (V x) (V y);binOp b t (V x) (V y):Sem Value).run P w= .ok (.bool r) w->(execOp V o).run P w= .ok (.value (.bool r)) w:=fun r hr=>by
  rw[hexec,Sem.run_bind,hr];rfl
 unfold ahd at h;simp only at h;split at h
 ·cases h
 ·rename_i r hr;split at h
  ·rename_i n a hx hy;have hx:=(ha x (by simp[ho,Op.operands]) _ hx).1
   have hy:=(ha y (by simp[ho,Op.operands]) _ hy).1
   split at h
   ·rename_i e hu;cases h;refine bB.same hm hl (fin r ?_) rfl;rw[hx,hy];exact Kl (fun b=>by cases b<;>rfl) rfl rfl (RG hu _ w) hr
   ·cases h
  ·rename_i n a hx hy;have hx:=(ha x (by simp[ho,Op.operands]) _ hx).1
   have hy:=(ha y (by simp[ho,Op.operands]) _ hy).1
   split at h
   ·rename_i e hu;cases h;refine bB.same hm hl (fin r ?_) rfl;rw[hx,hy];exact Kl (fun b=>by cases b<;>rfl) rfl rfl (RH hu _ w) hr
   ·cases h
  ·rename_i n a l d hx hy;have hx:=(ha x (by simp[ho,Op.operands]) _ hx).1
   have hy:=(ha y (by simp[ho,Op.operands]) _ hy).1
   split at h
   ·rename_i e hu;cases h;refine bB.same hm hl (fin r ?_) rfl;rw[hx,hy];exact Kl (fun b=>by cases b<;>rfl) rfl rfl (u_ hu _ _ _ w) hr
   ·cases h
  ·cases h
end
end
section
variable [Sy]
section
variable {P:Program}{o:Oper}{V:Operand->Value}{ev:Operand->Option SV}{U:Th}{H H':bt}{f f':Nat}{w:World}{v:SV}
def aBt(H:bt)(es:Nat)(e:TypeId)(s:Option SV):Option (Nat×List SC×Option Nat):=match s with
 |some (.r (.one .nils))=>some (0,[],none)
 |some (.r (.one (.slice n 0 l 0)))=>match get H n with
  |some (.cells es' e' cs)=>bif Nat.beq es' es&&Nat.beq e' e then match nT (l*es) cs with
   |some olds=>some (l,olds,some n)
   |none=>none else none
  |_=>none
 |_=>none
def xM(H:bt):Option Nat->bt
 |none=>H
 |some n=>drop H n
def Yt(P:Program)(ts:List TypeId)(xs:List (Option SV))(f:Nat)(H:bt):Option (SV×bt×Nat):=match ts with
 | [t,t']=>bif Nat.beq t t' then match xs with
  | [s,some (.r (.one (.slice m p k d)))]=>match P.underlying t with
   |some (.slice e)=>match P.info? e with
    |some i=>match o9 P e with
     |some z=>match get H m with
      |some (.cells _ _ cm)=>match nT (k*i.size) (cm.drop p)with
       |some news=>match aBt H i.size e s with
        |some (l,olds,on)=>
         bif Nat.beq z.length i.size&&Nat.blt 0 i.size&&Nat.blt 0 k&&Nat.ble (l+k) 1000000&&Nat.ble i.bytes 1024 then
          some (.c (.slice f 0 (l+k) 0),(f,.cells i.size e (olds++news))::xM H on,f+1)
         else none
        |none=>none
       |none=>none
      |_=>none
     |none=>none
    |none=>none
   |_=>none
  | [some (.r (.one (.slice n a 0 d))),some (.r (.one .nils))]=>match P.underlying t with
   |some (.slice e)=>match P.info? e with
    |some i=>some (.c (.slice n a 0 d),H,f)
    |none=>none
   |_=>none
  | [some (.r (.one .nils)),some (.r (.one .nils))]=>match P.underlying t with
   |some (.slice e)=>match P.info? e with
    |some i=>some (.c .nils,H,f)
    |none=>none
   |_=>none
  |_=>none else none
 |_=>none
theorem avC{es:Nat}{e:TypeId}{s:Operand}{l:Nat}{olds:List SC}{on:Option Nat}(h:aBt H es e (ev s)=some (l,olds,on))(hes:0<es)(hm:b9 U (get H) w)(hl:ga f (get H))(ha:∀u,ev s=some u->V s=u.val U/\u.ltB f=true):
  w.ownsRow 0 e es (V s) l (olds.map (SC.val U))/\olds.all (SC.ltB f)=true/\(∀n,on=some n->∃x,get H n=some x/\gG U n x/\(V s).ownBlock=some (U n).b)/\(on=none->(V s).ownBlock=none):=by
 unfold aBt at h;split at h
 ·rename_i hs;simp only[ad,aA]at h;obtain⟨rfl,rfl,rfl⟩:=h;have hs:=(ha _ hs).1;refine⟨⟨by simp,.inl ⟨hs,rfl⟩⟩,rfl,fun n hn=>(by cases hn),fun _=>(by rw[hs];rfl)⟩
 ·rename_i n l' hs;have hs:=(ha _ hs).1;split at h
  ·rename_i es' e' cs hn;cases hc:(Nat.beq es' es&&Nat.beq e' e)with
   |false=>rw[hc]at h;cases h
   |true=>
    rw[hc]at h;simp only[aP]at h;rw[ah]at hc;have c1:=af hc.1;have c2:=af hc.2;subst c1;subst c2;split at h
    ·rename_i olds' ht;simp only[ad,aA]at h;obtain⟨rfl,rfl,rfl⟩:=h;obtain⟨t1,t2⟩:=g9 ht;obtain⟨a0,arr,a1,a2,a3⟩:=hm.ok n _ hn;rcases a3 with a3|⟨a3,a4,a5⟩
     ·omega
     ·have hle:l'<=(U n).cap:=Yn hm hn hes (by
       have:=congrArg List.length t1;rw[t2,bu]at this;omega)
      have hval:V s= .slice (some ⟨(U n).b,0,none⟩) l' (U n).cap:=by rw[hs];simp[SV.val,SR.val,SC.val,Th.addr,a3]
      refine⟨⟨by rw[bO,t2],.inr ⟨(U n).b,(U n).cap,arr,hval,ec _,a1,hle,a5,a4,?_⟩⟩,vF ht (hl n _ hn).2,fun m hm'=>(by cases hm';exact⟨_,hn,trivial,by rw[hval];rfl⟩),fun e=>(by cases e)⟩
      rw[t1];refine cF fun j=>?_
      rw[bX,aM,bX]
      by_cases hj:j<l'*es'
      ·rw[ab hj,ab hj];have hjl:j<cs.length:=by
        have:=congrArg List.length t1;rw[t2,bu]at this;omega
       have:=a2 j _ (aj hjl);rw[a3,bR]at this;rw[b8,this,aj hjl];rfl
      ·rw[ak hj,ak hj];rfl
    ·cases h
  ·cases h
 ·cases h
theorem lF{on:Option Nat}{m:Nat}{y:SB}(h:get (xM H on) m=some y):get H m=some y/\on≠some m:=by
 cases on with
 |none=>exact⟨h,by simp⟩
 |some n=>
  simp only[xM,Px]at h;split at h
  ·cases h
  ·rename_i hne;exact⟨h,fun e=>hne (by injection e)⟩
theorem anR{c:Call}(ho:o.op= .call c)(hc:c.callee= .builtin .append)(h:Yt P c.argTypes.toList (c.args.toList.map ev) f H=some (v,H',f'))(hm:b9 U (get H) w)(hl:ga f (get H))(ha:kA U f ev V o):bB P o V U H f w v H' f':=by
 obtain⟨cs,he⟩:=fO (V:=V) ho hc;have hA:∀x∈c.args.toList,∀s,ev x=some s->V x=s.val U/\s.ltB f=true:=fun x hx=>ha x (by simp only[ho,Op.operands,Call.operands,hc];simpa using hx)
 have two:∀a b,c.args.toList.map ev=[a,b]->∃x y,c.args.toList=[x,y]/\ev x=a/\ev y=b:=fun a b hab=>by
  cases hq:c.args.toList with
  |nil=>rw[hq]at hab;simp at hab
  |cons x r=>
   rw[hq]at hab;cases r with
   |nil=>simp at hab
   |cons y r=>
    cases r with
    |nil=>simp at hab;exact⟨x,y,rfl,hab.1,hab.2⟩
    |cons z r=>simp at hab
 unfold Yt at h;split at h
 ·rename_i t t' hts;cases htt:Nat.beq t t' with
  |false=>rw[htt]at h;cases h
  |true=>
   rw[htt]at h;simp only[aP]at h;have htt:=af htt;subst htt;have hta:c.argTypes= #[t,t]:=by apply Array.ext';exact hts
   split at h
   ·rename_i s m p k d hxs;obtain⟨x,y,hargs,hx,hy⟩:=two _ _ hxs;rw[hargs]at hA;have hy:=hA y (by simp) _ hy
    split at h
    ·rename_i e hu;split at h
     ·rename_i i hi;split at h
      ·rename_i z hz;split at h
       ·rename_i es' e' cm hcm;split at h
        ·rename_i news hnews;split at h
         ·rename_i l olds on hold;cases hcc:(Nat.beq z.length i.size&&Nat.blt 0 i.size&&Nat.blt 0 k&&Nat.ble (l+k) 1000000&&Nat.ble i.bytes 1024)with
          |false=>rw[hcc]at h;cases h
          |true=>
           rw[hcc]at h;simp only[aP,ad,aA]at h;obtain⟨rfl,rfl,rfl⟩:=h;simp only[ah]at hcc;obtain⟨⟨⟨⟨c1,c2⟩,c3⟩,c4⟩,c5⟩:=hcc;have c1:=af c1;rw[bT]at c2 c3;have c4:=bY c4;have c5:=bY c5;rw[<-hx]at hold;obtain⟨o1,o2,o3,o4⟩:=avC (V:=V) hold c2 hm hl (fun u hu=>hA x (by simp) u hu)
           obtain⟨zv,z1,z2,z3⟩:=jz hz;have hzero:i.zero=some zv:=by
            have:=z1 w;simp only[zeroValue,typeInfo,Sem.run_bind,run_program,Result.andThen_ok,hi,Sem.run_pure]at this;cases hq:i.zero with
            |none=>rw[hq]at this;simp at this
            |some q=>rw[hq]at this;simp at this;rw[this]
           have hnl:(news.map (SC.val U)).length=k*i.size:=by rw[bO];exact(g9 hnews).2
           have hnlt:news.all (SC.ltB f)=true:=vF hnews (E0 (hl m _ hcm).2);have hnc:∀j u,(news.map (SC.val U))[j]?=some u->w.cell? ((U.addr m p).add j)=some u:=fun j u hu=>by
            rw[aM]at hu;obtain⟨q,hq,rfl⟩:=cA.1 hu;have:=md hnews j q hq;rw[b_]at this;have h3:=pX hm hcm (p+j) q this;rw[iw];exact h3
           have hbb:(l+k)*i.bytes<=1000000*1024:=eu c4 c5;obtain⟨g,cap,w',hr,r2,r3,r4,r5⟩:=run_append_lies (P:=P) (w:=w) t o.type 0 e i zv i.size i.bytes hu hi hzero rfl rfl (by rw[z2 U];simp[c1]) c2 (V x) l (olds.map (SC.val U)) o1 (U.addr m p) k ((U m).cap-d) (news.map (SC.val U)) hnl hnc
            (fun u hu=>by obtain⟨q,_,rfl⟩:=eH.1 hu;exact SC.one q) c3 (mB c4) (by omega) (ec _) w.heap.size rfl
           have hfar:∀n y b,get (xM H on) n=some y->fc U n y b->b≠g:=fun n y b hn hu=>by
            obtain⟨h1,h2⟩:=lF hn;rcases r4 with r4|r4
            ·cases on with
             |none=>rw[o4 rfl]at r4;cases r4
             |some n'=>
              obtain⟨x',hx',ox',hb'⟩:=o3 n' rfl;rw[hb']at r4;injection r4 with r4
              rw[<-r4];exact(hm.inj n' n x' y b hx' h1 (fun e=>h2 (by rw[e])) ox' hu).symm
            ·have:=(hm.ok n y h1).uses_lt hu;omega
           have hown:∀b,(V x).ownBlock=some b->∃n' y',on=some n'/\get H n'=some y'/\gG U n' y'/\(U n').b=b:=fun b hb=>by
            cases on with
            |none=>rw[o4 rfl]at hb;cases hb
            |some n'=>
             obtain⟨x',hx',ox',hb'⟩:=o3 n' rfl;rw[hb']at hb;injection hb with hb
             exact⟨n',x',rfl,hx',ox',hb⟩
           obtain⟨s1,s2⟩:=r2;obtain⟨g',cap',cur,q1,q2,q3,q4,q5,q6,q7⟩:=s2.resolve_left (fun e=>by cases e.1)
           simp only[Value.slice.injEq,ad,Addr.mk.injEq,and_true,true_and]at q1;obtain⟨rfl,rfl⟩:=q1;refine⟨hU U f ⟨g,0,cap,xd⟩,w',.inl ?_,FH (H2:=xM H on) hm hl ⟨g,0,cap,xd⟩ _ (fun b=>(V x).ownBlock=some b) ?_ ?_ (fun m y h=>(lF h).1) hfar ?_ ?_ ?_ (nA o2 hnlt) (fun _ h=>h) r3.size r3.os r3.tape r3.output,by simp[SV.ltB,SR.ltB,SC.ltB]⟩
           ·rw[he,hargs,hta];have:V y= .slice (some (U.addr m p)) k ((U m).cap-d):=hy.1;simp only[cL,fK,this,builtin,Sem.run_bind,hr,Result.andThen_ok,Sem.run_pure];simp[SV.val,SR.val,SC.val,Th.addr,bK]
           ·intro b hb;obtain⟨n',y',_,hn',on',hb'⟩:=hown b hb;exact⟨n',y',hn',on',hb'⟩
           ·intro n y b hn hu hb;obtain⟨n',y',hon,hn',on',hb'⟩:=hown _ hb;obtain⟨h1,h2⟩:=lF hn;exact hm.inj n' n y' y b hn' h1 (fun e=>h2 (by rw[hon,e])) on' hu hb'
           ·exact fun b hb _ hd=>r3.block b hb (fun e=>hd e.symm)
           ·rcases r4 with r4|r4
            ·obtain⟨n',y',_,hn',on',hb'⟩:=hown _ r4;exact .inl ⟨n',y',hn',on',hb'⟩
            ·exact .inr (kr r4.symm)
           ·refine⟨by rw[bK];rfl,cur,by rw[bK];exact q3,fun j u hj=>?_,.inr ⟨by rw[bK],by rw[bK];exact q6,by rw[bK];exact q5⟩⟩
            rw[bK,bR];have hu':((olds++news).map (SC.val U))[j]?=some (u.val U):=by rw[aM,hj];rfl
            rw[fR,<-q7,bX]at hu';split at hu'
            ·rw[b8]at hu';rw[hu',SC.val_ext (be.1 (nA o2 hnlt) u (bS hj)) fun n hn=>e9 hn]
            ·cases hu'
         ·cases h
        ·cases h
       ·cases h
      ·cases h
     ·cases h
    ·cases h
   ·rename_i n a d hxs;obtain⟨x,y,hargs,hx,hy⟩:=two _ _ hxs;rw[hargs]at hA;have hx:=hA x (by simp) _ hx
    have hy:=hA y (by simp) _ hy
    split at h
    ·rename_i e hu;split at h
     ·rename_i i hi;simp only[ad,aA]at h;obtain⟨rfl,rfl,rfl⟩:=h;refine bB.same hm hl ?_ hx.2;rw[he,hargs,hta];simp[hx.1,hy.1,SV.val,SR.val,SC.val,builtin,Builtin.append_,run_underlying hu,sizeOf,typeInfo,hi,Builtin.lenOf,Builtin.firstCells,storeCells]
     ·cases h
    ·cases h
   ·rename_i hxs;obtain⟨x,y,hargs,hx,hy⟩:=two _ _ hxs;rw[hargs]at hA;have hx:=hA x (by simp) _ hx
    have hy:=hA y (by simp) _ hy
    split at h
    ·rename_i e hu;split at h
     ·rename_i i hi;simp only[ad,aA]at h;obtain⟨rfl,rfl,rfl⟩:=h;refine bB.same hm hl ?_ hx.2;rw[he,hargs,hta];simp[hx.1,hy.1,SV.val,SR.val,SC.val,builtin,Builtin.append_,run_underlying hu,sizeOf,typeInfo,hi,Builtin.lenOf,Builtin.firstCells]
     ·cases h
    ·cases h
   ·cases h
 ·cases h
def arW(P:Program)(ts:List TypeId)(xs:List (Option SV))(H:bt):Option (SV×bt):=match ts with
 | [t,_]=>match xs with
  | [some (.r (.one (.slice n a l d))),some (.r (.one (.slice m p k d')))]=>match P.underlying t with
   |some (.slice e)=>match P.info? e with
    |some i=>match get H n with
     |some (.cells es e' cs)=>match get H m with
      |some (.cells _ _ cm)=>match nT (Nat.min k l) (cm.drop p)with
       |some news=>bif Nat.beq i.size 1&&Nat.blt 0 news.length&&Nat.ble (a+news.length) cs.length then some (.c (.int .i64 news.length),put H n (.cells es e' (ja cs a news)))else none
       |none=>none
      |_=>none
     |_=>none
    |none=>none
   |_=>none
  |_=>none
 |_=>none
theorem awV{c:Call}(ho:o.op= .call c)(hc:c.callee= .builtin .copy)(h:arW P c.argTypes.toList (c.args.toList.map ev) H=some (v,H'))(hm:b9 U (get H) w)(hl:ga f (get H))(ha:kA U f ev V o):bB P o V U H f w v H' f:=by
 obtain⟨cs,he⟩:=fO (V:=V) ho hc;have hA:∀x∈c.args.toList,∀s,ev x=some s->V x=s.val U/\s.ltB f=true:=fun x hx=>ha x (by simp only[ho,Op.operands,Call.operands,hc];simpa using hx)
 have two:∀a b,c.args.toList.map ev=[a,b]->∃x y,c.args.toList=[x,y]/\ev x=a/\ev y=b:=fun a b hab=>by
  cases hq:c.args.toList with
  |nil=>rw[hq]at hab;simp at hab
  |cons x r=>
   rw[hq]at hab;cases r with
   |nil=>simp at hab
   |cons y r=>
    cases r with
    |nil=>simp at hab;exact⟨x,y,rfl,hab.1,hab.2⟩
    |cons z r=>simp at hab
 unfold arW at h;split at h
 ·rename_i t t' hts;have hta:c.argTypes= #[t,t']:=by apply Array.ext';exact hts
  split at h
  ·rename_i n a l d m p k d' hxs;obtain⟨x,y,hargs,hx,hy⟩:=two _ _ hxs;rw[hargs]at hA;have hx:=hA x (by simp) _ hx
   have hy:=hA y (by simp) _ hy
   split at h
   ·rename_i e hu;split at h
    ·rename_i i hi;split at h
     ·rename_i es e' cs' hn;split at h
      ·rename_i es2 e2 cm hcm;split at h
       ·rename_i news hnews;cases hcc:(Nat.beq i.size 1&&Nat.blt 0 news.length&&Nat.ble (a+news.length) cs'.length)with
        |false=>rw[hcc]at h;cases h
        |true=>
         rw[hcc]at h;simp only[aP,ad,aA]at h;obtain⟨rfl,rfl⟩:=h;simp only[ah]at hcc;obtain⟨⟨c1,c2⟩,c3⟩:=hcc;have c1:=af c1;rw[bT]at c2;have c3:=bY c3;obtain⟨t1,t2⟩:=g9 hnews;have hnlt:news.all (SC.ltB f)=true:=vF hnews (E0 (hl m _ hcm).2);obtain⟨w',hr,hst⟩:=ajn (P:=P) hm hl hn hnlt c2 c3;have hload:=run_loadCells_list (P:=P) w (U.addr m p) (news.map (SC.val U)) (fun j u hu=>by
          rw[aM]at hu;obtain⟨q,hq,rfl⟩:=cA.1 hu;have:=md hnews j q hq;rw[b_]at this;have h3:=pX hm hcm (p+j) q this;rw[iw];exact h3)
         rw[bO]at hload;refine⟨U,w',.inl ?_,hst,rfl⟩;rw[he,hargs,hta];have t3:Nat.min k l=news.length:=t2.symm;simp[hx.1,hy.1,SV.val,SR.val,SC.val,builtin,Builtin.copy_,run_underlying hu,Builtin.lenOf,Builtin.firstCells,sizeOf,typeInfo,hi,c1,t3,hload,hr,goInt,-List.map_toArray]
       ·cases h
      ·cases h
     ·cases h
    ·cases h
   ·cases h
  ·cases h
 ·cases h
end
end
section
variable [Sy]
section
variable {P:Program}{o:Oper}{V:Operand->Value}{ev:Operand->Option SV}{U:Th}{H H':bt}{f f':Nat}{w:World}{v:SV}
theorem af7{t:TypeId}(ho:o.op= .makeMap t none)(hm:b9 U (get H) w)(hl:ga f (get H)):bB P o V U H f w (.c (.map f)) ((f,.map [] 0)::H) (f+1):=by
 refine⟨hU U f ⟨w.heap.size,0,0,xd⟩,w.alloc (.map #[] 0),.inl ?_,rQ hm hl _ ⟨w.heap.size,0,0,xd⟩ rfl (.map [] 0) (by
  show(w.alloc (.map #[] 0)).heap[(hU U f ⟨w.heap.size,0,0,xd⟩ f).b]?=_
  rw[bK];exact sx w _) rfl (fun _ h=>h),by simp[SV.ltB,SR.ltB,SC.ltB]⟩
 simp[execOp,ho,Instr.makeMap,SV.val,SR.val,SC.val,bK]
def u9(k:IntKind)(x:Int):List (Value×SC×Nat)->Option (Option SC)
 | []=>some none
 |(.int k' y,c,_)::r=>bif decide (k=k')then(bif decide (x=y)then some (some c)else u9 k x r)else none
 |_::_=>none
theorem acy{kd k:IntKind}{x:Int}:∀ {es:List (Value×SC×Nat)} {r:Option SC} (i:Nat),u9 k x es=some r->∃r',Instr.findNow (.int kd) (.int k x) (es.map fun e=>{key:=e.1,val:=e.2.1.val U,born:=e.2.2:MapEntry}) i=some r'/\
  ((r=none/\r'=none)\/∃c j,r=some c/\r'=some (j,c.val U)):=by
 intro es
 induction es with
 |nil=>intro r i h;simp only[u9,ad]at h;subst h;exact⟨none,rfl,.inl ⟨rfl,rfl⟩⟩
 |cons e rest ih=>
  intro r i h;obtain⟨key,c,b⟩:=e;cases key with
  |int k' y=>
   simp only[u9]at h;cases hk:decide (k=k')with
   |false=>rw[hk]at h;cases h
   |true=>
    rw[hk]at h;have hk:=of_decide_eq_true hk;subst hk;simp only[aP]at h;simp only[cL,Instr.findNow,Instr.sameNow,gN];cases hx:decide (x=y)with
    |true=>rw[hx]at h;simp only[aP,ad]at h;have hx:=of_decide_eq_true hx;subst hx;exact⟨some (i,c.val U),by simp,.inr ⟨c,i,h.symm,rfl⟩⟩
    |false=>
     rw[hx]at h;simp only[cD]at h;have hx:=of_decide_eq_false hx;obtain⟨r',h1,h2⟩:=ih (i+1) h;refine⟨r',?_,h2⟩;have:(x==y)=false:=by simpa using hx
     rw[this];exact h1
  |_=>simp[u9]at h
def wT(P:Program)(t:TypeId):Bool:=match P.underlying t with
 |some (.int _)=>true
 |_=>false
theorem Ee{t:TypeId}(h:wT P t=true){k:IntKind}{x:Int}(b:Bool)(w:World):∃kd,P.underlying t=some (.int kd)/\(Instr.checkKey b 10000 t (.int k x)).run P w= .ok () w:=by
 unfold wT at h;split at h
 ·rename_i kd hu;refine⟨kd,hu,?_⟩
  show(Instr.checkKey b (9999+1) t (.int k x)).run P w=_
  unfold Instr.checkKey;rw[Sem.run_bind,run_underlying hu];rfl
 ·cases h
def Xf(P:Program)(H:bt)(t:TypeId)(m ix:Option SV)(ok:Bool):Option SV:=match ix with
 |some (.r (.one (.int k x)))=>match P.underlying t with
  |some (.map key elem)=>bif wT P key then match o9 P elem with
   |some [z]=>match P.info? elem with
    |some e=>match e.zero with
     |some zv=>match xT zv with
      |some z'=>match(match m with
        |some (.r (.one (.map n)))=>(match get H n with
         |some (.map es _)=>u9 k x es
         |_=>none)
        |some (.r (.one .nilm))=>some none
        |_=>none)with
       |some (some c)=>bif ok then some (.tup [.one c,.one (.bool true)])else some (.c c)
       |some none=>bif ok then some (.tup [.one z',.one (.bool false)])else some (.c z')
       |none=>none
      |none=>none
     |none=>none
    |none=>none
   |_=>none else none
  |_=>none
 |_=>none
theorem arC{k:IntKind}{x:Int}{c:SC}:∀ {es:List (Value×SC×Nat)},u9 k x es=some (some c)->(es.all fun e=>e.2.1.ltB f)=true->c.ltB f=true:=by
 intro es
 induction es with
 |nil=>intro h;simp[u9]at h
 |cons e rest ih=>
  intro h hl;obtain⟨key,c',b⟩:=e;rw[jD,ah]at hl;cases key with
  |int k' y=>
   simp only[u9]at h;cases hk:decide (k=k')with
   |false=>rw[hk]at h;cases h
   |true=>
    rw[hk]at h;simp only[aP]at h;cases hx:decide (x=y)with
    |true=>rw[hx]at h;simp only[aP,ad]at h;subst h;exact hl.1
    |false=>rw[hx]at h;exact ih h hl.2
  |_=>simp[u9]at h
theorem amM{t:TypeId}{m ix:Operand}{ok:Bool}(ho:o.op= .lookup t m ix ok)(h:Xf P H t (ev m) (ev ix) ok=some v)(hm:b9 U (get H) w)(hl:ga f (get H))(ha:kA U f ev V o):bB P o V U H f w v H f:=by
 unfold Xf at h;split at h
 ·rename_i k x hix;have hix:=(ha ix (by simp[ho,Op.operands]) _ hix).1
  have hix:V ix= .int k x:=hix;split at h
  ·rename_i key elem hu;cases hk:wT P key with
   |false=>rw[hk]at h;cases h
   |true=>
    rw[hk]at h;simp only[aP]at h;split at h
    ·rename_i z hz;split at h
     ·rename_i e he;split at h
      ·rename_i zv hzv;split at h
       ·rename_i z' hz';have hzr:(zeroValue elem).run P w= .ok (z'.val U) w:=by
         rw[uI hz'];simp[zeroValue,typeInfo,he,hzv]
        have fin:∀ (r:Option SC),(match(ev m)with
          |some (.r (.one (.map n)))=>(match get H n with
           |some (.map es _)=>u9 k x es
           |_=>none)
          |some (.r (.one .nilm))=>some none
          |_=>none)=some r->∃r',(∀c,r=some c->c.ltB f=true)/\((r=none/\r'=none)\/∃c j,r=some c/\r'=some (j,c.val U))/\
          (execOp V o).run P w=Result.andThen ((match(r':Option (Nat×Value))with
           |some (_,v)=>pure (v,true)
           |none=>do pure (<-zeroValue elem,false):Sem (Value×Bool)).run P w) (fun p w'=> .ok (.value (if ok=true then .tuple #[p.1,.bool p.2]else p.1)) w'):=fun r hr=>by
         split at hr
         ·rename_i n hmm;have hmm:=(ha m (by simp[ho,Op.operands]) _ hmm).1
          have hmm:V m= .map (some (U n).b):=hmm;split at hr
          ·rename_i es clock hn;have hb:w.heap[(U n).b]?=_:=hm.ok n _ hn;obtain⟨kd,hkd,hck⟩:=Ee (P:=P) hk (k:=k) (x:=x) (es.map fun e=>({key:=e.1,val:=e.2.1.val U,born:=e.2.2}:MapEntry)).toArray.isEmpty w
           obtain⟨r',g1,g2⟩:=acy (U:=U) (kd:=kd) 0 hr;refine⟨r',fun c hc=>arC (by rw[hr,hc]) (hl n _ hn).2,g2,?_⟩
           have hobj:(getObj (U n).b).run P w= .ok (.map (es.map fun e=>({key:=e.1,val:=e.2.1.val U,born:=e.2.2}:MapEntry)).toArray clock) w:=by simp[getObj,Sem.run,hb]
           simp[execOp,ho,hmm,hix,Instr.lookup,run_underlying hu,hobj,Instr.findKey,run_underlying hkd,g1,-List.map_toArray,-List.isEmpty_toArray];rw[hck];simp;cases r' with
           |none=>simp[hzr]
           |some q=>simp
          ·cases hr
         ·rename_i hmm;have hmm:=(ha m (by simp[ho,Op.operands]) _ hmm).1
          have hmm:V m= .map none:=hmm;simp only[ad]at hr;subst hr;obtain⟨kd,hkd,hck⟩:=Ee (P:=P) hk (k:=k) (x:=x) true w;refine⟨none,fun c hc=>(by cases hc),.inl ⟨rfl,rfl⟩,?_⟩
          simp[execOp,ho,hmm,hix,Instr.lookup,run_underlying hu,Instr.findKey,run_underlying hkd,Instr.findNow];rw[hck];simp[hzr]
         ·cases hr
        split at h
        ·rename_i c hc;obtain⟨r',hlt,hr',hrun⟩:=fin _ hc;rcases hr' with⟨e,_⟩|⟨c',j,e,rfl⟩
         ·cases e
         ·cases e;have hclt:=hlt c rfl;cases ok with
          |true=>
           simp only[aP,ad]at h;subst h;refine bB.same hm hl ?_ (by show(c.ltB f&&_)=true;rw[hclt];rfl)
           rw[hrun];simp[SV.val,SR.val,SC.val]
          |false=>simp only[cD,ad]at h;subst h;refine bB.same hm hl ?_ hclt;rw[hrun];simp[SV.val,SR.val]
        ·rename_i hc;obtain⟨r',hlt,hr',hrun⟩:=fin _ hc;rcases hr' with⟨_,rfl⟩|⟨c',j,e,_⟩
         ·cases ok with
          |true=>
           simp only[aP,ad]at h;subst h;refine bB.same hm hl ?_ (by show(z'.ltB f&&_)=true;rw[zV hz'];rfl)
           rw[hrun];simp[SV.val,SR.val,SC.val,hzr]
          |false=>simp only[cD,ad]at h;subst h;refine bB.same hm hl ?_ (zV hz' f);rw[hrun];simp[SV.val,SR.val,hzr]
         ·cases e
        ·cases h
       ·cases h
      ·cases h
     ·cases h
    ·cases h
  ·cases h
 ·cases h
theorem D_{r:Nat}{ob:Obj}(h:w.heap[r]?=some ob)(hn:∀a b c,ob≠ .cells a b c):(getObj r).run P w= .ok ob w:=by
 cases ob with
 |cells a b c=>exact absurd rfl (hn a b c)
 |_=>simp[getObj,Sem.run,h]
theorem Le{r:Nat}{ob ob':Obj}(h:w.heap[r]?=some ob)(hn:∀a b c,ob≠ .cells a b c):(setObj r ob').run P w= .ok () {w with heap:=w.heap.setIfInBounds r ob'}:=by
 cases ob with
 |cells a b c=>exact absurd rfl (hn a b c)
 |_=>simp[setObj,Sem.run,h]
def BY(P:Program)(H:bt)(t:TypeId)(m k x:Option SV):Option bt:=match m with
 |some (.r (.one (.map n)))=>match k with
  |some (.r (.one (.int kk i)))=>match x with
   |some (.r (.one c))=>match P.underlying t with
    |some (.map key _)=>bif wT P key then match get H n with
     |some (.map es clock)=>match u9 kk i es with
      |some none=>some (put H n (.map (es++[(.int kk i,c,clock)]) (clock+1)))
      |_=>none
     |_=>none else none
    |_=>none
   |_=>none
  |_=>none
 |_=>none
theorem Xa{t:TypeId}{m k x:Operand}(ho:o.op= .mapUpdate t m k x)(h:BY P H t (ev m) (ev k) (ev x)=some H')(hm:b9 U (get H) w)(hl:ga f (get H))(ha:kA U f ev V o):bB P o V U H f w .undef H' f:=by
 unfold BY at h;split at h
 ·rename_i n hmm;have hmm:=(ha m (by simp[ho,Op.operands]) _ hmm).1
  have hmm:V m= .map (some (U n).b):=hmm;split at h
  ·rename_i kk i hk;have hk:=(ha k (by simp[ho,Op.operands]) _ hk).1
   have hk:V k= .int kk i:=hk;split at h
   ·rename_i c hx;have hx:=ha x (by simp[ho,Op.operands]) _ hx
    have hxv:V x=c.val U:=hx.1;split at h
    ·rename_i key elem hu;cases hko:wT P key with
     |false=>rw[hko]at h;cases h
     |true=>
      rw[hko]at h;simp only[aP]at h;split at h
      ·rename_i es clock hn;split at h
       ·rename_i hf;simp only[ad]at h;subst h;have hb:w.heap[(U n).b]?=_:=hm.ok n _ hn;have hlt:=(hm.ok n _ hn).lt trivial;obtain⟨kd,hkd,hck⟩:=Ee (P:=P) hko (k:=kk) (x:=i) false w;obtain⟨r',g1,g2⟩:=acy (U:=U) (kd:=kd) 0 hf;rcases g2 with⟨_,rfl⟩|⟨c',j,e,_⟩
        ·have hes:((es.map fun e=>({key:=e.1,val:=e.2.1.val U,born:=e.2.2}:MapEntry)).toArray.push {key:= .int kk i,val:=c.val U,born:=clock})=((es++[(Value.int kk i,c,clock)]).map fun(e:Value×SC×Nat)=>({key:=e.1,val:=e.2.1.val U,born:=e.2.2}:MapEntry)).toArray:=by
          apply Array.ext';simp
         refine⟨U,{w with heap:=w.heap.setIfInBounds (U n).b (.map ((es++[(Value.int kk i,c,clock)]).map fun(e:Value×SC×Nat)=>({key:=e.1,val:=e.2.1.val U,born:=e.2.2}:MapEntry)).toArray (clock+1))},.inr ⟨?_,rfl⟩,Dd hm hl hn trivial (fun _ h=>h) ?_ ?_ (fun b hb=>?_) (by simp) rfl rfl rfl,rfl⟩
         ·have ho1:=D_ (P:=P) hb (fun a b c=>by simp)
          have ho2:=fun ob'=>Le (P:=P) (ob':=ob') hb (fun a b c=>by simp)
          rw[<-hes];simp[execOp,ho,hmm,hk,hxv,Instr.mapUpdate,run_underlying hu,ho1,Instr.findKey,run_underlying hkd,g1,hck,ho2,-List.map_toArray,-List.push_toArray]
         ·show(w.heap.setIfInBounds (U n).b _)[(U n).b]?=_
          rw[eI hlt]
         ·show((es++[(Value.int kk i,c,clock)]).all fun e=>e.2.1.ltB f)=true
          have h5:(es.all fun e=>e.2.1.ltB f)=true:=(hl n _ hn).2
          rw[List.all_append,h5]
          show(true&&(c.ltB f&&true))=true
          have:c.ltB f=true:=hx.2;rw[this];rfl
         ·show(w.heap.setIfInBounds (U n).b _)[b]?=_
          rw[fU (fun e=>hb e.symm)]
        ·cases e
       ·cases h
      ·cases h
    ·cases h
   ·cases h
  ·cases h
 ·cases h
def ae_(P:Program)(H:bt)(t:TypeId)(m:Option SV)(f:Nat):Option (SV×bt×Nat):=match m with
 |some (.r (.one (.map n)))=>match P.underlying t with
  |some (.map _ _)=>match get H n with
   |some (.map es clock)=>some (.c (.ptr f 0),(f,.iter n clock clock)::H,f+1)
   |_=>none
  |_=>none
 |_=>none
theorem apC{t:TypeId}{m:Operand}(ho:o.op= .range t m)(h:ae_ P H t (ev m) f=some (v,H',f'))(hm:b9 U (get H) w)(hl:ga f (get H))(ha:kA U f ev V o):bB P o V U H f w v H' f':=by
 unfold ae_ at h;split at h
 ·rename_i n hmm;have hmm:=(ha m (by simp[ho,Op.operands]) _ hmm).1
  have hmm:V m= .map (some (U n).b):=hmm;split at h
  ·rename_i k e hu;split at h
   ·rename_i es clock hn;simp only[ad,aA]at h;obtain⟨rfl,rfl,rfl⟩:=h;have hb:w.heap[(U n).b]?=_:=hm.ok n _ hn;have hnf:=(hl n _ hn).1;have ho1:=D_ (P:=P) hb (fun a b c=>by simp)
    refine⟨hU U f ⟨w.heap.size,0,0,xd⟩,w.alloc (.mapIter (some (U n).b) clock #[] clock),.inl ?_,rQ hm hl _ ⟨w.heap.size,0,0,xd⟩ rfl (.iter n clock clock) ?_ (by simp[SB.ltB,hnf]) (fun _ h=>h),by simp[SV.ltB,SR.ltB,SC.ltB]⟩
    ·simp[execOp,ho,hmm,Instr.range,run_underlying hu,ho1,SV.val,SR.val,SC.val,Th.addr,bK]
    ·refine⟨by rw[bK],?_⟩
     show(w.alloc _).heap[(hU U f ⟨w.heap.size,0,0,xd⟩ f).b]?=some (.mapIter (some (hU U f ⟨w.heap.size,0,0,xd⟩ n).b) clock #[] clock)
     rw[bK,e9 hnf];exact sx w _
   ·cases h
  ·cases h
 ·cases h
def aql(H:bt)(it:Option SV):Option SV:=match it with
 |some (.r (.one (.ptr n 0)))=>match get H n with
  |some (.iter m _ _)=>match get H m with
   |some (.map [] _)=>some (.tup [.one (.bool false)])
   |_=>none
  |_=>none
 |_=>none
theorem avJ{it:Operand}(ho:o.op= .next it false)(h:aql H (ev it)=some v)(hm:b9 U (get H) w)(hl:ga f (get H))(ha:kA U f ev V o):bB P o V U H f w v H f:=by
 unfold aql at h;split at h
 ·rename_i n hit;have hit:=(ha it (by simp[ho,Op.operands]) _ hit).1
  split at h
  ·rename_i m s l hn;split at h
   ·rename_i clock hmm;cases h;obtain⟨hs0,hb⟩:=hm.ok n _ hn;have hit:V it= .pointer (some ⟨(U n).b,0,none⟩):=by rw[hit];simp[SV.val,SR.val,SC.val,Th.addr,hs0]
    have hb2:w.heap[(U m).b]?=_:=hm.ok m _ hmm;have ho1:=D_ (P:=P) hb (fun a b c=>by simp)
    have ho2:=D_ (P:=P) hb2 (fun a b c=>by simp)
    refine bB.same hm hl ?_ rfl;simp[execOp,ho,hit,Instr.next,ho1,ho2,Question.forced,SV.val,SR.val,SC.val]
   ·cases h
  ·cases h
 ·cases h
end
end
end Go.Proofs.YtlchkibailfldaaGreat.Ex
