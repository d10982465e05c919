/- What the code does, step by step, and plain facts: part 1. They have no conditions. -/
import Derived.WalkKit
import Derived.WalkSpells
import Derived.WalkLawsBesides
import Derived.Laws.OwnMore
import Derived.Maps.AppendAt
import Derived.Lib.AppendStr
import Derived.OrdersHeld
import Derived.Deep.LoopGhost
import Derived.KernelRfl
import Derived.IntWalk
import Derived.Laws.Externs
import Derived.Scope
import Derived.Lib.ConvBytes
import Derived.Test.YtdlpoonfcdoiiaaGreatChecked
import Derived.RangeFuncNested
import Derived.OrdersIn
import Derived.TacticsIn
import Derived.Sort.LoopGhostIn
import Derived.MapKept
import Derived.Maps.RangeRun
import Derived.DefersIn
import Derived.Lib.AppendZerosOnto
import Derived.Lib.Overlaps
import Derived.ProofKit
import Derived.Deep.Slices
import Derived.Lib.Bytealg
import Derived.Shelf.SortM.Plain
import Derived.Shelf.SortM.SortNone
import Derived.Shelf.Slices.CompactS
import Derived.Sort.OwnSorted
import Derived.Lib.OwnBridge
import Derived.Shelf.SlIterI.Nil
import Derived.Lib.SlKeysI
import Derived.Test.YtdlpoonfcdoiiaaGreatRows
namespace Go.Proofs.YtdlpoonfcdoiiaaGreat
open Go.RowKit Go.Proofs.Tryz
set_option maxHeartbeats 40000000
set_option linter.all false
def AF:=@Go.Act.put_comm
def sV:=@And.left
def tE:=@And.right
def E4:=@Array.append_empty
def IX:=@Array.empty_append
def lS:=@Array.ext'
def AG:=@Array.getD_eq_getD_getElem?
def E5:=@Array.getElem?_append_left
def yR:=@Array.getElem?_eq_getElem
def IY:=@Array.getElem?_eq_none
def mS:=@Array.getElem?_eq_some_iff
def AH:=@Array.getElem?_replicate
def IZ:=@Array.getElem?_setIfInBounds_ne
def vU:=@Array.getElem?_toList
def Np:=@Array.getElem_setIfInBounds_ne
def tF:=@Array.length_toList
def AJ:=@Array.size_append
def E7:=@Array.size_replicate
def AK:=@Array.toList_map
def AL:=@Array.toList_range
def I0:=@Bool.and_eq_false_iff
def iu:=@Bool.and_eq_true
def CQ:=@Bool.eq_iff_iff
def vW:=@Bool.false_eq_true
def yS:=@Bool.not_eq_true'
def I1:=@Bool.or_eq_false_iff
def jh:=@Bool.or_eq_true
abbrev U:=ByteArray
def CR:=@Go.ByteArray.toList_eq
def nY:=@Go.Calls.mono
def pI:=@Classical.byContradiction
def AM:=@Classical.not_not
abbrev fR:=Go.FuncId
def CS:=@Function.comp_def
def I3:=@Go.Deep.add_add
def AN:=@Int.emod_lt_of_pos
def xx:=@Int.emod_nonneg
def gR:=@Int.natCast_add
def Fb:=@Int.natCast_ediv
def AO:=@Int.natCast_emod
def nH:=@Int.natCast_mul
def AP:=@Int.tmod_lt_of_pos
def yU:=@Int.toNat_natCast
def rY:=@Int.toNat_of_nonneg
def I4:=@Go.IntKind.wrap_u64
def Fa:=@Go.IntWalk.i64_in
def yT:=@Go.IntWalk.u64_in
abbrev C:=@List
def yV:=@List.Pairwise.of_map
def vX:=@List.Perm.append_left
def I5:=@List.Perm.append_right
def cD:=@List.Perm.refl
def gq:=@List.Sublist.refl
def yW:=@List.all_eq_true
def dJ:=@List.append_assoc
def eN:=@List.append_nil
def pJ:=@List.append_of_mem
def I6:=@List.concat_eq_append
def vY:=@List.cons.injEq
def kP:=@List.cons_append
def I7:=@List.countP_le_length
def Fc:=@List.countP_pos_iff
def I8:=@List.countP_set
def I9:=@List.count_append
def Fe:=@List.count_le_length
def CT:=@List.dropLast_concat_getLast
def xy:=@List.drop_drop
def jP:=@List.drop_eq_getElem_cons
def qn:=@List.drop_eq_nil_of_le
def kZ:=@List.drop_left
def AQ:=@List.drop_left'
def Jd:=@List.drop_length
def AR:=@List.drop_of_length_le
def xz:=@List.drop_succ_cons
def yX:=@List.drop_zero
def ll:=@List.eq_nil_of_length_eq_zero
def yY:=@List.eq_nil_or_concat
def uJ:=@List.eq_of_mem_replicate
def yZ:=@List.exists_cons_of_length_pos
def qo:=@List.ext_getElem?
def qT:=@List.filter_append
def CU:=@List.filter_congr
def nI:=@List.filter_cons_of_neg
def oC:=@List.filter_cons_of_pos
def CV:=@List.filter_eq_nil_iff
def sW:=@List.filter_eq_self
def Jf:=@List.filter_filter
def vZ:=@List.filter_sublist
def Fg:=@List.find?_append
def sY:=@List.find?_cons
def wa:=@List.find?_eq_none
def Fh:=@List.find?_some
def sX:=@List.findIdx_cons
def CW:=@List.findIdx_getElem
def j9:=@List.flatMap_append
def ji:=@List.flatMap_cons
def CX:=@List.flatMap_nil
def uK:=@List.foldl_append
def oZ:=@List.foldl_cons
def jM:=@List.getD_eq_getElem?_getD
def nk:=@List.getElem?_append_left
def nm:=@List.getElem?_append_right
def y0:=@List.getElem?_cons_succ
def Jg:=@List.getElem?_cons_zero
def kQ:=@List.getElem?_drop
def dr:=@List.getElem?_eq_getElem
def nZ:=@List.getElem?_eq_none
def da:=@List.getElem?_eq_some_iff
def Jh:=@List.getElem?_inj
def eK:=@List.getElem?_map
def y9:=@List.getElem?_modify
def CY:=@List.getElem?_of_mem
def AS:=@List.getElem?_range
def CZ:=@List.getElem?_replicate
def oD:=@List.getElem?_set
def fE:=@List.getElem?_set_ne
def gm:=@List.getElem?_set_self
def mT:=@List.getElem?_take
def uL:=@List.getElem?_take_of_lt
def AU:=@List.getElem?_zip_eq_some
def Fi:=@List.getElem_cons_drop
def wb:=@List.getElem_map
def Ji:=@List.headD_cons
def Fj:=@List.isEmpty_iff
def cX:=@List.length_append
def eE:=@List.length_cons
def iz:=@List.length_drop
def Jj:=@List.length_eq_one_iff
def Jk:=@List.length_eq_zero_iff
def AV:=@List.length_filter_le
def dL:=@List.length_map
def Fk:=@List.length_modify
def qp:=@List.length_nil
def AW:=@List.length_pos_iff
def sZ:=@List.length_range
def o3:=@List.length_replicate
def fy:=@List.length_set
def lD:=@List.length_singleton
def eD:=@List.length_take
def Fl:=@List.length_zip
def dE:=@List.map_append
def k5:=@List.map_congr_left
def dA:=@List.map_cons
def uM:=@List.map_drop
def wc:=@List.map_id
def jj:=@List.map_map
def kD:=@List.map_nil
def xB:=@List.map_set
def uN:=@List.map_take
def dV:=@List.mem_append
def gI:=@List.mem_append_left
def iA:=@List.mem_append_right
def dh:=@List.mem_cons
def dN:=@List.mem_cons_of_mem
def dQ:=@List.mem_cons_self
def kE:=@List.mem_filter
def xC:=@List.mem_filterMap
def rZ:=@List.mem_flatMap
def ka:=@List.mem_iff_getElem?
def dz:=@List.mem_map
def gu:=@List.mem_map_of_mem
def Fm:=@List.mem_of_find?_eq_some
def eH:=@List.mem_of_getElem?
def tG:=@List.mem_of_mem_drop
def qq:=@List.mem_of_mem_take
def AX:=@List.mem_or_eq_of_mem_set
def lE:=@List.mem_range
def za:=@List.mem_reverse
def fI:=@List.mem_singleton
def Fo:=@List.mergeSort_perm
def kF:=@List.nil_append
def iw:=@List.nil_sublist
def kR:=@List.nodup_append
def iB:=@List.nodup_cons
def xD:=@List.nodup_nil
def zb:=@List.nodup_range
def nn:=@List.not_mem_nil
def Fp:=@List.not_of_lt_findIdx
def Fq:=@List.of_mem_zip
def mU:=@List.pairwise_append
def jD:=@List.pairwise_cons
def r3:=@List.pairwise_iff_getElem
def oE:=@List.pairwise_map
def Jl:=@List.pairwise_mergeSort
def r4:=@List.pairwise_singleton
def lF:=@List.perm_append_comm
def jQ:=@List.perm_append_comm_assoc
def pK:=@List.perm_append_singleton
def tH:=@List.perm_ext_iff_of_nodup
def eg:=@List.perm_middle
def pL:=@List.range_succ
def Ft:=@List.replicate_succ
def AY:=@List.replicate_succ'
def AZ:=@List.reverse_append
def C1:=@List.reverse_cons
def C3:=@List.reverse_reverse
def C4:=@List.set_append_right
def Fu:=@List.set_cons_succ
def qU:=@List.set_eq_take_append_cons_drop
def we:=@List.set_set
def nJ:=@List.singleton_append
def C5:=@List.size_toArray
def mr:=@List.sublist_append_left
def C6:=@List.sublist_append_right
def fO:=@List.sublist_cons_self
def mV:=@List.sum_append
def iE:=@List.sum_cons
def pM:=@List.sum_nil
def ia:=@List.take_add_one
def xE:=@List.take_append
def gJ:=@List.take_append_drop
def uO:=@List.take_append_of_le_length
def oF:=@List.take_left
def C7:=@List.take_left'
def j6:=@List.take_length
def Nq:=@List.take_length_add_append
def gS:=@List.take_of_length_le
def wg:=@List.take_sublist
def xF:=@List.take_take
def A8:=@List.take_zero
def Jn:=@List.zip_cons_cons
def Fw:=@Go.MapKept.heap_set
def xG:=@Go.MapKept.run_checkKey
def xH:=@Go.MapKept.run_findKey
def wh:=@Go.MapKept.run_getObj_map
def Ba:=@Go.MapKept.run_setObj_map
def ma:=@Nat.add_assoc
def wi:=@Nat.add_comm
def mu:=@Nat.add_mul
def C8:=@Nat.add_sub_cancel
def tJ:=@Nat.add_zero
def pN:=@Nat.beq_refl
def Bb:=@Nat.ble_eq_true_of_le
def Jo:=@Nat.div_add_mod
def C9:=@Nat.div_le_self
def r5:=@Nat.eq_of_beq_eq_true
def Bc:=@Nat.eq_zero_or_pos
def uP:=@Nat.le_add_right
def qs:=@Nat.le_of_ble_eq_true
def wj:=@Nat.le_of_lt_succ
def dT:=@Nat.le_refl
def gF:=@Nat.le_trans
def Fx:=@Nat.lt_irrefl
def zc:=@Nat.lt_of_lt_of_le
def o4:=@Nat.lt_or_eq_of_le
def np:=@Nat.lt_or_ge
def Fy:=@Nat.lt_succ_self
def xI:=@Nat.lt_trichotomy
def o5:=@Nat.min_eq_left
def Fz:=@Nat.min_eq_right
def Jq:=@Nat.min_le_left
def Jr:=@Nat.min_le_right
def wk:=@Nat.mod_eq_of_lt
def uQ:=@Nat.mod_lt
def zd:=@Nat.mul_assoc
def ze:=@Nat.mul_comm
def mb:=@Nat.mul_le_mul
def Bd:=@Nat.mul_le_mul_left
def j7:=@Nat.mul_le_mul_right
def fT:=@Nat.mul_one
def xJ:=@Nat.one_mul
def zf:=@Nat.pow_succ
def nK:=@Nat.sub_self
def Be:=@Nat.sub_zero
def lT:=@Nat.succ_mul
def dU:=@Nat.zero_add
def gK:=@Nat.zero_le
def qt:=@Nat.zero_mul
def uR:=@Ne.symm
def Da:=@Go.Oper.semAt_eq
def kt:=@Go.Oper.upon_value
abbrev fj:=Go.Operand
abbrev cG:=@Option
def uS:=@Option.getD_some
def Db:=@Option.isSome_iff_exists
def FB:=@Option.map_eq_none_iff
def nq:=@Option.map_eq_some_iff
def tK:=@Option.map_some
def ln:=@Option.some.injEq
def r6:=@Prod.mk.injEq
abbrev dX:=Go.Program
def j8:=@Go.Result.andThen_ok
def ke:=@Go.Sem.run_bind
def ku:=@Go.Sem.run_pure
abbrev dk:=Go.TypeId
def FC:=@UInt8.le_antisymm
def xK:=@UInt8.not_lt
abbrev M:=Go.Value
abbrev O:=Go.World
def Js:=@Go.World.block_lt_of_cell?
def Jt:=@beq_eq_false_iff_ne
def uT:=@beq_iff_eq
def Bf:=@Go.callsIn_wide
def tL:=@Go.cell_of_row
def oG:=@cond_false
def n0:=@cond_true
def dq:=@congrArg
def uU:=@decide_eq_decide
def fL:=@decide_eq_false
def Bg:=@decide_eq_false_iff_not
def gb:=@decide_eq_true
def fU:=@decide_eq_true_eq
def zg:=@eq_comm
def wo:=@forall_eq
def Bh:=@forall_eq_or_imp
def xL:=@Go.getD_set_ne
def r7:=@if_false
def cJ:=@if_neg
def cM:=@if_pos
def pO:=@if_true
def Dc:=@Go.mem_ready
def tM:=@not_or
def FD:=@of_decide_eq_false
def nr:=@of_decide_eq_true
def o6:=@or_false
def wq:=@Go.run_equalIn_int
def Dd:=@Go.run_program
def gG:=@Go.run_underlying
def wu:=@Go.wpIn_mono
def zh:=@Go.wpList_plain
def xM:=@Go.wp_mono
abbrev dD:=C (Nat×M)
def lk:dD->Nat->cG M
 |[],_=>.none
 |(b,d)::c,a=>bif Nat.beq b a then some d else lk c a
def ev (c:dD):fj->cG M
 |.tmp d=>lk c d
 |.const e=>some e
 |.global b=>some (.pointer (some ⟨b,0,.none⟩))
 |.func a=>some (.func (.func a) #[] #[])
def mB (b:dD):C fj->cG (C M)
 |[]=>some []
 |e::c=>match ev b e,mB b c with
  |some d,some a=>some (d::a)
  |_,_=>.none
def wN (b:dD):C (Nat×fj)->cG (C (Nat×M))
 |[]=>some []
 |(c,f)::d=>match ev b f,wN b d with
  |some e,some a=>some ((c,e)::a)
  |_,_=>.none
structure Fr (e:Nat)(d:dD)(a:Act):Prop where
 size:a.tmps.size=e
 defers:a.defers=[]
 get:∀b c,lk d b=some c->a.tmps[b]? =some c
def Fr.eval {g:Nat}{e:dD}{d:Act}(f:Fr g e d){c:fj}{b:M}(a:ev e c=some b):d.eval c=b:=by
 cases c with
 |tmp h=>have:=f.get h b a;simp[Act.eval,this]
 |const k=>simpa[ev,Act.eval]using a
 |global j=>simpa[ev,Act.eval]using a
 |func i=>simpa[ev,Act.eval]using a
def Fr.wM {i:Nat}{h:dD}{f:Act}(g:Fr i h f):∀(c:C fj){b:C M},mB h c=some b->c.map f.eval=b
 |[],b,a=>by simpa[mB]using a
 |m::j,b,a=>by
  simp only[mB]at a;split at a
  .rename_i l k d e;simp only[ln]at a;subst a;simp[g.eval d,g.wM j e]
  .cases a
def Fr.Kv {k:Nat}{i:dD}{f:Act}(g:Fr k i f):∀(c:C (Nat×fj)){b:C (Nat×M)},wN i c=some b->c.map (λ(h,j)=>(h,f.eval j))=b
 |[],b,a=>by simpa[wN]using a
 |(h,j)::l,b,a=>by
  simp only[wN]at a;split at a
  .rename_i n m d e;simp only[ln]at a;subst a;simp[g.eval d,g.Kv l e]
  .cases a
def Fr.put {n:Nat}{j:dD}{i:Act}(e:Fr n j i){b:Nat}(h:Nat.blt b n=true)(k:M):Fr n ((b,k)::j) (i.put (some b) k):=by
 have d:b<n:=by simpa[Nat.blt_eq]using h
 refine⟨by simpa[Act.put]using e.size,e.defers,λf l a=>?_⟩;simp only[lk]at a;by_cases c:b=f
 .subst c;simp only[pN,n0,ln]at a;subst a;simp[Act.put,e.size,d]
 .have:Nat.beq b f=false:=by
   cases g:Nat.beq b f with
   |false=>rfl
   |true=>exact absurd (r5 g) c
  simp only[this,oG]at a;simp only[Act.put];rw[IZ c];exact e.get f l a
def kf:dD->dD->Prop
 |[],_=>True
 |(b,d)::c,a=>lk a b=some d/\kf c a
def kf.lk:∀{e i:dD},kf e i->∀a f,lk e a=some f->lk i a=some f
 |[],_,_,a,f,b=>by simp[Proofs.YtdlpoonfcdoiiaaGreat.lk]at b
 |(h,k)::j,i,d,a,f,b=>by
  simp only[Proofs.YtdlpoonfcdoiiaaGreat.lk]at b;by_cases c:h=a
  .subst c;simp only[pN,n0,ln]at b;subst b;exact d.1
  .have:Nat.beq h a=false:=by
    cases g:Nat.beq h a with
    |false=>rfl
    |true=>exact absurd (r5 g) c
   simp only[this,oG]at b;exact kf.lk d.2 a f b
def xN:dD->C M->Prop
 |[],_=>True
 |(b,d)::c,a=>a[b]? =some d/\xN c a
def xN.get:∀{i:dD}{h:C M},xN i h->∀a e,lk i a=some e->h[a]? =some e
 |[],_,_,a,e,b=>by simp[lk]at b
 |(g,k)::j,h,d,a,e,b=>by
  simp only[lk]at b;by_cases c:g=a
  .subst c;simp only[pN,n0,ln]at b;subst b;exact d.1
  .have:Nat.beq g a=false:=by
    cases f:Nat.beq g a with
    |false=>rfl
    |true=>exact absurd (r5 f) c
   simp only[this,oG]at b;exact xN.get d.2 a e b
def Fr.sub {g:Nat}{f a:dD}{e:Act}(b:Fr g f e)(c:kf a f):Fr g a e:=⟨b.size,b.defers,λh i d=>b.get h i (c.lk h i d)⟩
structure lR (d:Nat->Prop)(b a:O):Prop where
 os:a.os=b.os
 tape:a.tape=b.tape
 output:a.output=b.output
 size:b.heap.size<=a.heap.size
 block:∀c,c<b.heap.size->¬d c->a.heap[c]? =b.heap[c]?
def cW:Nat->Prop:=λ_=>False
def lR.refl (b:Nat->Prop)(a:O):lR b a a:=⟨rfl,rfl,rfl,dT _,λ_ _ _=>rfl⟩
def lR.trans {e G:Nat->Prop}{f k l:O}(b:lR e f k)(d:lR G k l)(g:∀j,G j->j<f.heap.size->e j):lR e f l:=⟨d.os.trans b.os,d.tape.trans b.tape,d.output.trans b.output,gF b.size d.size,λi a c=>(d.block i (zc a b.size) (λh=>c (g i h a))).trans (b.block i a c)⟩
def lR.drew (b:Nat->Prop)(a:O):lR b a {a with drawn:=a.drawn+1}:=⟨rfl,rfl,rfl,dT _,λ_ _ _=>rfl⟩
def lR.alloc (d:Nat->Prop)(b:O)(c:Obj):lR d b (b.alloc c):=⟨rfl,rfl,rfl,by simp,λe a _=>heap_alloc_old b c a⟩
structure V where
 fq:Nat->Prop
 ok:O->Prop
 loc:∀c a:O,(∀b,fq b->a.heap[b]? =c.heap[b]?)->ok c->ok a
def cF (a:Nat)(b:C M)(f:dk):V where
 fq:=λe=>e=a
 ok:=λg=>g.heap[a]? =some (.cells b.toArray f (0,0))
 loc:=λ_ _ d c=>(d a rfl).trans c
def row (j:M)(l g o:Nat)(h:C M):V where
 fq:=λn=>j.ownBlock=some n
 ok:=λk=>k.ownsRow 0 l g j o h
 loc:=λk p m c=>by
  refine⟨c.1,?_⟩;rcases c.2 with f|⟨i,cap,b,rfl,d,e,a⟩
  .exact .inl f
  .exact .inr ⟨i,cap,b,rfl,d,(m i (by simp[Value.ownBlock])).trans e,a⟩
def Hs (c:O)(b:Nat->Prop):C V->O->Prop
 |[],_=>True
 |d::f,e=>(d.ok e/\(∀a,d.fq a->a<e.heap.size/\(c.heap.size<=a\/b a))/\∀g∈f,∀a,d.fq a->¬g.fq a)/\Hs c b f e
def cI (b:O)(a:Nat->Prop)(d:C V)(c:O):Prop:=lR a b c/\Hs b a d c
def gO (a:C V):Nat->Prop:=λb=>∃c∈a,c.fq b
def Hs.mem {d h:O}{b:Nat->Prop}:∀{f:C V},Hs d b f h->∀c∈f,c.ok h/\∀e,c.fq e->e<h.heap.size/\(d.heap.size<=e\/b e)
 |[],_,c,a=>by cases a
 |i::f,g,c,a=>by
  rcases dh.1 a with rfl|a
  .exact⟨g.1.1,g.1.2.1⟩
  .exact Hs.mem g.2 c a
def Hs.keep {h i a:O}{c:Nat->Prop}:∀{j:C V},Hs h c j i->(∀l∈j,∀b,l.fq b->a.heap[b]? =i.heap[b]?)->i.heap.size<=a.heap.size->Hs h c j a
 |[],_,_,_=>trivial
 |m::_,d,f,g=>⟨⟨m.loc i a (f m (dQ ..)) d.1.1,λb e=>⟨zc (d.1.2.1 b e).1 g,(d.1.2.1 b e).2⟩,d.1.2.2⟩,Hs.keep d.2 (λl k=>f l (dN _ k)) g⟩
def Hs.append {l o:O}{g:Nat->Prop}:∀{m b:C V},Hs l g (m++b) o↔Hs l g m o/\Hs l g b o/\∀n∈m,∀f∈b,∀q,n.fq q->¬f.fq q
 |[],b=>by simp[Hs]
 |n::m,b=>by
  simp only[kP,Hs,Hs.append (m:=m) (b:=b)];constructor
  .rintro⟨⟨h,i,d⟩,j,k,e⟩;refine⟨⟨⟨h,i,λf a=>d f (gI _ a)⟩,j⟩,k,?_⟩;intro p c f a;rcases dh.1 c with rfl|c
   .exact d f (iA _ a)
   .exact e p c f a
  .rintro⟨⟨⟨h,i,d⟩,j⟩,k,e⟩;refine⟨⟨h,i,λf a=>?_⟩,j,k,λp c=>e p (dN _ c)⟩;rcases dV.1 a with a|a
   .exact d f a
   .exact e n (dQ ..) f a
def Hs.perm {i u:O}{c:Nat->Prop}{t d:C V}(s:t.Perm d):Hs i c t u->Hs i c d u:=by
 induction s with
 |nil=>exact id
 |cons v s r=>exact λb=>⟨⟨b.1.1,b.1.2.1,λh a=>b.1.2.2 h (s.mem_iff.2 a)⟩,r b.2⟩
 |swap v y x=>
  rintro⟨⟨j,k,e⟩,⟨l,m,n⟩,o⟩;refine⟨⟨l,m,λh a=>?_⟩,⟨j,k,λh a=>e h (dN _ a)⟩,o⟩;rcases dh.1 a with rfl|a
  .exact λw p q=>e v (dQ ..) w q p
  .exact n h a
 |trans _ _ f g=>exact λb=>g (f b)
def cI.perm {c f:O}{a:Nat->Prop}{d b:C V}(e:cI c a d f)(g:d.Perm b):cI c a b f:=⟨e.1,e.2.perm g⟩
def Hs.j0 {g i:O}{d:Nat->Prop}{h e:C V}(f:Hs g d h i)(a:e.Sublist h):Hs g d e i:=by
 induction a with
 |slnil=>trivial
 |cons j _ c=>exact c f.2
 |cons_cons j b c=>exact⟨⟨f.1.1,f.1.2.1,λk a=>f.1.2.2 k (b.subset a)⟩,c f.2⟩
def cI.j0 {c g:O}{a:Nat->Prop}{e b:C V}(f:cI c a e g)(d:b.Sublist e):cI c a b g:=⟨f.1,f.2.j0 d⟩
def CB:Nat->C V->cG (V×C V)
 |_,[]=>.none
 |0,c::a=>some (c,a)
 |d+1,c::a=>match CB d a with
  |some (e,b)=>some (e,c::b)
  |.none=>.none
def pick:C Nat->C V->cG (C V×C V)
 |[],a=>some ([],a)
 |f::c,a=>match CB f a with
  |some (g,b)=>match pick c b with
   |some (e,d)=>some (g::e,d)
   |.none=>.none
  |.none=>.none
def Ux:∀(e:Nat)(f:C V){c:V}{b:C V},CB e f=some (c,b)->f.Perm (c::b)
 |_,[],_,_,a=>by simp[CB]at a
 |0,c::g,_,_,a=>by simp only[CB,ln,r6]at a;obtain⟨rfl,rfl⟩:=a;exact cD _
 |e+1,j::g,c,b,a=>by
  simp only[CB]at a;split at a
  .rename_i i h d;simp only[ln,r6]at a;obtain⟨rfl,rfl⟩:=a;exact((Ux e g d).cons j).trans (List.Perm.swap ..)
  .cases a
def de:∀(b:C Nat)(c:C V){g e:C V},pick b c=some (g,e)->c.Perm (g++e)
 |[],c,_,_,a=>by simp only[pick,ln,r6]at a;obtain⟨rfl,rfl⟩:=a;exact cD _
 |k::b,c,g,e,a=>by
  simp only[pick]at a;split at a
  .rename_i l f h;split at a
   .rename_i j i d;simp only[ln,r6]at a;obtain⟨rfl,rfl⟩:=a;exact(Ux k c h).trans ((de b f d).cons l)
   .cases a
  .cases a
def cI.pick {b f:O}{a:Nat->Prop}{d e g:C V}(h:cI b a d f)(c:d.Perm (e++g)):cI b a e f:=(h.perm c).j0 (mr _ _)
def cI.ok {c e:O}{a:Nat->Prop}{d:C V}(f:cI c a d e){i:Nat}{r:V}(b:d[i]? =some r):r.ok e:=(f.2.mem r (eH b)).1
def cI.alloc {f b:O}{c:Nat->Prop}{l:C V}(e:cI f c l b)(d:C M)(m:dk):cI f c (cF b.heap.size d m::l) (b.alloc (.cells d.toArray m)):=by
 refine⟨e.1.trans (lR.alloc (λ_=>False) b _) (λ_ k=>k.elim),⟨heap_alloc_new b _,?_,?_⟩,?_⟩
 .rintro g rfl;exact⟨by simp,.inl e.1.size⟩
 .intro p j g a;have:=((e.2.mem p j).2 g);intro h;have n:=(this h).1;simp only[cF]at a;omega
 .refine e.2.keep (λo i g a=>heap_alloc_old b _ ((e.2.mem o i).2 g a).1) (by simp)
def cI.change {r v l:O}{n:Nat->Prop}{h i:C V}{s k:V}(e:cI r n (h++s::i) v)(j:lR s.fq v l)(u:k.ok l)(d:∀c,k.fq c->s.fq c\/(v.heap.size<=c/\c<l.heap.size)):cI r n (h++k::i) l:=by
 obtain⟨o,t⟩:=e;have b:=t.perm (eg (a:=s) (l₁:=h) (l₂:=i));refine⟨o.trans j (λx m w=>?_),Hs.perm (eg (a:=k) (l₁:=h) (l₂:=i)).symm ⟨⟨u,?_,?_⟩,?_⟩⟩
 .rcases(b.1.2.1 x m).2 with e|e
  .omega
  .exact e
 .intro c f;rcases d c f with e|e
  .exact⟨zc (b.1.2.1 c e).1 j.size,(b.1.2.1 c e).2⟩
  .exact⟨e.2,.inl (gF o.size e.1)⟩
 .intro q g c f;rcases d c f with e|e
  .exact b.1.2.2 q g c e
  .intro p;have:=((b.2.mem q g).2 c p).1;omega
 .refine b.2.keep (λq g c f=>j.block c ((b.2.mem q g).2 c f).1 ?_) j.size;exact λm=>b.1.2.2 q g c m f
def cI.call {n B f:O}{h:Nat->Prop}{i q p:C V}(j:cI n h (i++q) B)(c:cI B (gO i) p f):cI n h (p++q) f:=by
 obtain⟨s,y⟩:=j;obtain⟨t,k,u⟩:=Hs.append.1 y;refine⟨s.trans c.1 ?_,Hs.append.2 ⟨?_,?_,?_⟩⟩
 .rintro Q ⟨o,d,l⟩ E;rcases((t.mem o d).2 Q l).2 with j|j
  .omega
  .exact j
 .have x:∀{r:C V},Hs B (gO i) r f->Hs n h r f:=by
   intro r;induction r with
   |nil=>exact λ_=>trivial
   |cons o r A=>
    rintro⟨⟨G,D,H⟩,K⟩;refine⟨⟨G,λe a=>⟨(D e a).1,?_⟩,H⟩,A K⟩;rcases(D e a).2 with j|⟨m,b,v⟩
    .exact .inl (gF s.size j)
    .exact((t.mem m b).2 e v).2
  exact x c.2
 .refine k.keep (λm b e a=>c.1.block e ((k.mem m b).2 e a).1 ?_) c.1.size;rintro⟨o,d,l⟩;exact u o d m b e l a
 .intro o d m b e a g;rcases((c.2.mem o d).2 e a).2 with j|⟨L,z,w⟩
  .have:=((k.mem m b).2 e g).1;omega
  .exact u L z m b e w g
def cI.start (a:O)(b:Nat->Prop):cI a b [] a:=⟨lR.refl _ _,trivial⟩
def cI.rJ {a h:O}{b:Nat->Prop}{i:C V}(j:cI a b i h){c:Addr}{g:M}(d:a.cell? c=some g)(f:¬b c.block):h.cell? c=some g:=by have e:=Js a c d;rw[World.cell?_of_block (j.1.block c.block e f)];exact d
def fz (g:dX)(i:fR)(args:C M)(e:O)(f:Nat->Prop)(c:M->C V->Prop):Prop:=Calls g i args.toArray e λh b=>∃d a,h=.returned d/\cI e f a b/\c d a
def fz.mono {i:dX}{j:fR}{args:C M}{k:O}{h:Nat->Prop}{Φ c:M->C V->Prop}(l:fz i j args k h Φ)(f:∀b a,Φ b a->c b a):fz i j args k h c:=nY l λ_ _ ⟨b,a,d,e,g⟩=>⟨b,a,d,e,f b a g⟩
section
variable(d:dX)(c:Nat)(b:O)(a:Nat->Prop)
abbrev fJ:=dD->C V->O->Prop
def Wb (i j:fJ)(k:Nat->fJ):Exit->Act->O->Prop
 |.normal,e,h=>∃g f,Fr c g e/\cI b a f h/\i g f h
 |.ret,e,h=>∃g f,Fr c g e/\cI b a f h/\j g f h
 |.exit id,e,h=>∃g f,Fr c g e/\cI b a f h/\k id g f h
 |_,_,_=>False
def W (f:Code)(i j:fJ)(k:Nat->fJ)(l:dD)(h:C V)(g:O):Prop:=∀e,Fr c l e->cI b a h g->f.wp d (Wb c b a i j k) e g
def WL (j:Array Oper)(n:fJ)(o:C Oper)(p:dD)(m:C V)(l:O):Prop:=∀e,Fr c p e->cI b a m l->∀k:Exit->Act->O->Prop,(∀h f,(∃i g,Fr c i h/\cI b a g f/\n i g f)->k .normal h f)->wpList d j k o e l
end
section
variable{f:dX}{g:Nat}{d:O}{c:Nat->Prop}{h j:fJ}{i:Nat->fJ}{a:dD}{b:C V}{e:O}
def W.mono {t u:fJ}{v:Nat->fJ}{k:Code}(s:W f g d c k h j i a b e)(w:∀a b e,h a b e->t a b e)(x:∀a b e,j a b e->u a b e)(y:∀l a b e,i l a b e->v l a b e):W f g d c k t u v a b e:=λq z A=>xM (s q z A) λr B D m=>by
 cases r with
 |normal=>obtain⟨a,b,n,o,p⟩:=m;exact⟨a,b,n,o,w _ _ _ p⟩
 |ret=>obtain⟨a,b,n,o,p⟩:=m;exact⟨a,b,n,o,x _ _ _ p⟩
 |exit id=>obtain⟨a,b,n,o,p⟩:=m;exact⟨a,b,n,o,y _ _ _ _ p⟩
 |goto E=>exact m
 |panic k=>exact m
 |outgrown=>exact m
def jJ {v w:Code}(n:W f g d c v (λa b e=>W f g d c w h j i a b e) j i a b e):W f g d c (.seq v w) h j i a b e:=λl t u=>wp_seq (xM (n l t u) λm p x k=>by
 cases m with
 |normal=>obtain⟨a,b,q,r,s⟩:=k;exact s p q r
 |ret=>exact k
 |exit id=>exact k
 |goto y=>exact k
 |panic o=>exact k
 |outgrown=>exact k)
def s7 (id:Nat)(h:fJ)(i:Nat->fJ):Nat->fJ:=λk a b e=>bif Nat.beq k id then h a b e else i k a b e
def CI {id:Nat}{k:Code}(q:W f g d c k h j (s7 id h i) a b e):W f g d c (.block id k) h j i a b e:=λo u w=>wp_block (xM (q o u w) λp x y m=>by
 cases p with
 |normal=>exact m
 |ret=>exact m
 |exit l=>
  obtain⟨a,b,s,t,n⟩:=m;simp only[s7]at n;simp only[Exit.inBlock];by_cases r:l=id
  .subst r;simp only[pN,n0]at n;rw[cM rfl];exact⟨a,b,s,t,n⟩
  .have:Nat.beq l id=false:=by
    cases v:Nat.beq l id with
    |false=>rfl
    |true=>exact absurd (r5 v) r
   simp only[this,oG]at n;rw[cJ r];exact⟨a,b,s,t,n⟩
 |goto z=>exact m
 |panic k=>exact m
 |outgrown=>exact m)
def iY (k:h a b e):W f g d c .skip h j i a b e:=λ_ l m=>wp_skip ⟨a,b,l,m,k⟩
def eM (k:j a b e):W f g d c .ret h j i a b e:=λ_ l m=>wp_ret ⟨a,b,l,m,k⟩
def MY {id:Nat}(k:i id a b e):W f g d c (.exit id) h j i a b e:=λ_ l m=>wp_exit ⟨a,b,l,m,k⟩
def dI {id:Nat}(k:h a b e){l:fJ}:W f g d c (.exit id) l j (s7 id h i) a b e:=MY (by simp only[s7,pN,n0];exact k)
def as3 {id l:Nat}{n m:fJ}(k:h a b e)(o:Nat.beq id l=false):W f g d c (.exit id) m j (s7 l n (s7 id h i)) a b e:=MY (by simp only[s7,pN,n0,o,oG];exact k)
def Iz {m:fj}{s t:Code}{k:Bool}(o:ev a m=some (.bool k))(r:k=true->W f g d c s h j i a b e)
 (q:k=false->W f g d c t h j i a b e):W f g d c (.cond m s t) h j i a b e:=λl n p=>by
 cases k with
 |true=>exact wp_cond (n.eval o) (r rfl l n p)
 |false=>exact wp_cond (n.eval o) (q rfl l n p)
def jc {l:fj}{q r:Code}{m:Prop}[Decidable m](n:ev a l=some (.bool (decide m)))(p:m->W f g d c q h j i a b e)(o:¬m->W f g d c r h j i a b e):W f g d c (.cond l q r) h j i a b e:=Iz n (λk=>p (nr k)) (λk=>o (FD k))
def kL {l:fj}{q r:Code}{k:Bool}(n:ev a l=some (.bool k))(p:k=true->W f g d c q h j i a b e)(o:¬k=true->W f g d c r h j i a b e):W f g d c (.cond l q r) h j i a b e:=Iz n p λm=>o (by simp[m])
def as5 {k:fj}{o p:Code}(m:ev a k=some (.bool true))(n:W f g d c o h j i a b e):W f g d c (.cond k o p) h j i a b e:=Iz m (λ_=>n) (λl=>by cases l)
def as4 {k:fj}{p o:Code}(m:ev a k=some (.bool false))(n:W f g d c o h j i a b e):W f g d c (.cond k p o) h j i a b e:=Iz m (λl=>by cases l) (λ_=>n)
def dB {l:Code}(v:Nat->fJ)(k0:Nat)(h0:v k0 a b e)
 (B:∀t a b e,v t a b e->W f g d c l (λs p u=>∃n,n<t/\v n s p u) j i a b e):W f g d c (.loop l) h j i a b e:=λk q r=>by
 refine wp_loop_ghost (λt k e=>∃a b,Fr g a k/\cI d c b e/\v t a b e) k0 ⟨a,b,q,r,h0⟩ ?_
 rintro t k e ⟨a,b,q,r,A⟩
 refine xM (B t a b e A k q r) λo D u m=>?_
 cases o with
 |normal=>obtain⟨s,p,w,x,n,y,z⟩:=m;exact⟨n,y,s,p,w,x,z⟩
 |ret=>exact m
 |exit id=>exact m
 |goto E=>exact m
 |panic l=>exact m
 |outgrown=>exact m
def IB {k:Code}(n:dD)(q:kf n a)(m:W f g d c k h j i n b e):W f g d c k h j i a b e:=λl o p=>m l (o.sub q) p
def pF {k:Code}(n:C V)(q:n.Sublist b)(m:W f g d c k h j i a n e):W f g d c k h j i a b e:=λl o p=>m l o (p.j0 q)
def ET {k:Code}(q:C Nat){r s:C V}(p:pick q b=some (r,s))(m:W f g d c k h j i a r e):W f g d c k h j i a b e:=λl n o=>m l n (o.pick (de _ _ p))
def eQ {k:Code}(m:cI d c b e->W f g d c k h j i a b e):W f g d c k h j i a b e:=λl o n=>m n l o n
def eS {l:Code}(o:fJ)(m:W f g d c l o j i a b e)(n:∀a b e,o a b e->h a b e):W f g d c l h j i a b e:=m.mono n (λ_ _ _ k=>k) (λ_ _ _ _ k=>k)
def kj {id:Nat}{p:C Oper}(l:WL f g d c p.toArray h p a b e):W f g d c (.region id p.toArray false) h j i a b e:=λk m n=>wp_region_lit (l k m n _ λ_ _ o=>o)
def xh (a:dD):C ResultVar->cG (C M)
 |[]=>some []
 |.tmp m::l=>match lk a m,xh a l with
  |some n,some k=>some (n::k)
  |_,_=>.none
 |.cell _ _::_=>.none
def l8:C M->M
 |[l]=>l
 |k=>.tuple k.toArray
def enter {p:fR}{fn:Func}{m:Code}{args:C M}{z:Nat->Prop}{y:M->C V->Prop}{b:C V}(G:f.funcs[p]? =some fn)(E:fn.body=some m)(L:fn.ntmps=g)(a:dD)(B:Nat.ble args.length g=true)(K:xN a args)(H:cI e z b e)(n:W f g e z m (λa b o=>∃r l,(∀k,Fr g a k->cI e z b o->(results fn k.tmps).run f o=.ok r o)/\l.Sublist b/\y r l) (λa b o=>∃r l,(∀k,Fr g a k->cI e z b o->(results fn k.tmps).run f o=.ok r o)/\l.Sublist b/\y r l) (λ_ _ _ _=>False) a b e):fz f p args e z y:=by
 have B:=qs B;refine calls_of_wp G E (xM (n _ ⟨?_,rfl,?_⟩ H) ?_)
 .simp only[C5,AJ,E7,L];omega
 .intro R r Q;have:=K.get R r Q;have D:R<args.length:=(da.1 this).1;rw[E5 (by simpa using D)];simpa using this
 .intro u A o q;cases u with
  |normal=>obtain⟨a,b,s,t,r,l,w,x,v⟩:=q;exact⟨s.defers,r,w A s t,r,l,rfl,t.j0 x,v⟩
  |ret=>obtain⟨a,b,s,t,r,l,w,x,v⟩:=q;exact⟨s.defers,r,w A s t,r,l,rfl,t.j0 x,v⟩
  |exit id=>obtain⟨_,_,_,_,n⟩:=q;exact n
  |goto S=>exact q
  |panic m=>exact(q:False).elim
  |outgrown=>exact(q:False).elim
def im {fn:Func}{p:C ResultVar}{o:C M}(y:fn.results=p.toArray)(B:xh a p=some o)(m:Act)(w:Fr g a m)(e:O):(results fn m.tmps).run f e=.ok (l8 o) e:=by
 have s:∀(n:ResultVar->Sem M),(∀q,n (.tmp q)=pure (m.tmps.getD q undef))->∀(p:C ResultVar)(o:C M),xh a p=some o->
  (p.mapM n).run f e=.ok o e:=by
  intro n x p
  induction p with
  |nil=>intro o k;simp only[xh,ln]at k;subst k;rfl
  |cons G p D=>
   intro o k;cases G with
   |tmp q=>
    simp only[xh]at k;split at k
    .rename_i E l u v;simp only[ln]at k;subst k;have A:=w.get q E u;have z:=D l v;simp only[List.mapM_cons,ke,x,ku,j8,z];simp[A]
    .cases k
   |cell t q=>simp[xh]at k
 have r:∀(l:C M),(if k:l.toArray.size=1 then l.toArray[0]else Value.tuple l.toArray)=l8 l:=by
  intro l;cases l with
  |nil=>rfl
  |cons H l=>cases l with
   |nil=>rfl
   |cons E l=>simp[l8]
 unfold results;rw[y];simp only[List.mapM_toArray,ke,Sem.run_map];rw[s _ (λq=>rfl) p o B];simp only[j8,ku];rw[r]
end
section
variable(c:dX)(d:Nat)(b:O)(a:Nat->Prop)
def dp (g:Op)(h:dk)(k:dD)(j:C V)(l:M):Prop:=∀(f:Oper)(e:Act)(i:O),f.op=g->f.type=h->Fr d k e->cI b a j i->(execOp e.eval f).run c i=.ok (.value l) i
def eG (i:Op)(j:dk)(q:dD)(o:C V)(n:O)(k:M->C V->Prop):Prop:=∀(h:Oper)(e:Act)(l:Act->O->Prop)(p:Exit->Act->O->Prop),h.op=i->h.type=j->Fr d q e->cI b a o n->(∀m f g,k m f->cI b a f g->l (e.put h.dst m) g)->h.wp c e n l p
end
def M8 {l:dX}{c:Array Oper}{m i:Exit->Act->O->Prop}(e:∀k b d,m k b d->i k b d):∀(j:C Oper)(b:Act)(d:O),wpList l c m j b d->wpList l c i j b d
 |[],b,d,a=>e _ _ _ a
 |u::j,b,d,a=>by
  simp only[wpList]at a|-;split
  .rename_i g;simp only[g,pO]at a;rcases a with a|⟨p,n,h,q⟩
   .left;have:=Oper.wp_mono (Q:=m) (M8 e j) a;unfold Oper.wp at this|-;generalize(execOp b.eval u).run l d=v at*;cases v with
    |ok s h=>
     cases s<;>simp only[Oper.upon]at this|-<;>first
      |exact this
      |exact nY this (λk t f=>by cases k<;>first|exact f|exact e _ _ _ f|exact(let⟨o,r,h0⟩:=f;⟨o,r,e _ _ _ h0⟩))
    |halt s h=>cases s<;>simp only[Oper.upon]at this|-<;>first|exact this|exact e _ _ _ this
   .exact .inr ⟨p,n,h,e _ _ _ q⟩
  .rename_i g;simp only[g,r7,vW]at a;exact M8 e j _ _ a
section
variable{k:dX}{j:Nat}{c:O}{b:Nat->Prop}{r v:fJ}{w:Nat->fJ}{e:dD}{l:C V}{i:O}{a:Array Oper}{h:C Oper}{m:Op}{g:dk}{d:String}{n:Array Edge}{q:M}{s:M->C V->Prop}{o:Nat}
def dp.Pb (y:dp k j c b m g e l q):eG k j c b m g e l i (λA D=>A=q/\D=l):=λz x L Q E G H B K=>by unfold Oper.wp;rw[y z x i E G H B,kt];exact K q l i ⟨rfl,rfl⟩ B
def I (y:dp k j c b m g e l q)(G:WL k j c b a r h ((o,q)::e) l i)(E:Nat.blt o j=true:=by rfl):WL k j c b a r (⟨some o,m,g,d,n,.none⟩::h) e l i:=λx z A H D=>
 zh rfl λK B=>by unfold Oper.wp;rw[y _ x i rfl rfl z A,kt];exact B _ _ (G _ (z.put E q) A H D)
def dw (z:eG k j c b m g e l i s)(L:∀q x A,s q x->WL k j c b a r h ((o,q)::e) x A)(H:Nat.blt o j=true:=by rfl):WL k j c b a r (⟨some o,m,g,d,n,.none⟩::h) e l i:=λy B K R G=>
 zh rfl λS E=>z _ y S R rfl rfl B K λq x A Q D=>E _ _ (L q x A Q _ (B.put H q) D R G)
def iQ (z:eG k j c b m g e l i s)(K:∀q x A,s q x->WL k j c b a r h e x A):WL k j c b a r (⟨.none,m,g,d,n,.none⟩::h) e l i:=λy B H Q G=>
 zh rfl λR E=>z _ y R Q rfl rfl B H λq x A L D=>E _ _ (K q x A L _ B D Q G)
def mO {y:Act}{A x:Nat}{z:Bool}(B:Fr j e y)(D:(a[A]?).bind (·.dst)=some x)(E:lk e x=some (.bool z)):yielded a y.tmps A=some z:=by unfold yielded;rw[D];simp[B.get x _ E]
def An {y:Act}{z x:Nat}(A:Fr j e y)(B:(a[z]?).bind (·.dst)=some x)(D:lk e x=some undef):yielded a y.tmps z=.none:=by unfold yielded;rw[B];simp[A.get x _ D,undef]
def dZ {y A:Nat}{x:Bool}(L:(a[y]?).bind (·.dst)=some A)(R:lk e A=some (.bool x))(B:dp k j c b m g e l q)(Q:WL k j c b a r h ((o,q)::e) l i)(K:Nat.blt o j=true:=by rfl):WL k j c b a r (⟨some o,m,g,d,n,some (y,x)⟩::h) e l i:=λz D E T H=>
 wpList_step λW G=>by
  have S:Region.wanted (⟨some o,m,g,d,n,some (y,x)⟩:Oper) (yielded a z.tmps)=true:=by simp[Region.wanted,mO D L R]
  rw[cM S];unfold Oper.wp;rw[B _ z i rfl rfl D E,kt];exact G _ _ (Q _ (D.put K q) E T H)
def nh {y A:Nat}{x:Bool}(W:(a[y]?).bind (·.dst)=some A)(P:lk e A=some (.bool x))(D:eG k j c b m g e l i s)(X:∀q B G,s q B->WL k j c b a r h ((o,q)::e) B G)(S:Nat.blt o j=true:=by rfl):WL k j c b a r (⟨some o,m,g,d,n,some (y,x)⟩::h) e l i:=λz E T Q R=>
 wpList_step λK L=>by
  have hw:Region.wanted (⟨some o,m,g,d,n,some (y,x)⟩:Oper) (yielded a z.tmps)=true:=by simp[Region.wanted,mO E W P]
  rw[cM hw];exact D _ z K Q rfl rfl E T λq B G ab H=>L _ _ (X q B G ab _ (E.put S q) H Q R)
def M5 {y z:Nat}{x:Bool}(H:(a[y]?).bind (·.dst)=some z)(L:lk e z=some (.bool !x))(K:WL k j c b a r h ((o,undef)::e) l i)(E:Nat.blt o j=true:=by rfl):WL k j c b a r (⟨some o,m,g,d,n,some (y,x)⟩::h) e l i:=λB A G Q D=>
 wpList_skip (by simp[Region.wanted,mO A H L]) (K _ (A.put E undef) G Q D)
def atj (z:dD)(E:kf z e)(y:r z l i):WL k j c b a r [] e l i:=λx B D _ A=>wpList_nil (A x i ⟨z,l,B.sub E,D,y⟩)
def kq {x:C Oper}(z:cI c b l i->WL k j c b a r x e l i):WL k j c b a r x e l i:=λy B A=>z A y B A
def atn {x:C Oper}(A:C V)(E:l.Perm A)(z:WL k j c b a r x e A i):WL k j c b a r x e l i:=λy B D=>z y B (D.perm E)
def M7 {x:C Oper}(E:C Nat){G H:C V}(D:pick E l=some (G,H))(z:WL k j c b a r x e G i):WL k j c b a r x e l i:=λy A B=>z y A (B.pick (de _ _ D))
def sM {x:C Oper}{A:V}(z:WL k j c b a r x e l i):WL k j c b a r x e (A::l) i:=λy B D=>z y B (D.j0 (fO ..))
def IE {y:C Oper}{A x:V}(z:WL k j c b a r y e (x::l) i):WL k j c b a r y e (x::A::l) i:=λx B D=>z x B (D.j0 ((fO ..).cons_cons _))
def IA {x:Code}{A:V}(z:W k j c b x r v w e l i):W k j c b x r v w e (A::l) i:=λy B D=>z y B (D.j0 (fO ..))
def EU {y:Code}{A x:V}(z:W k j c b y r v w e (x::l) i):W k j c b y r v w e (x::A::l) i:=λx B D=>z x B (D.j0 ((fO ..).cons_cons _))
def Vb {z:Code}{B x y:V}(A:W k j c b z r v w e (x::y::l) i):W k j c b z r v w e (x::y::B::l) i:=λx D E=>A x D (E.j0 (((fO ..).cons_cons _).cons_cons _))
def Vc {y:Code}{z x:V}(A:W k j c b y r v w e (z::x::l) i):W k j c b y r v w e (x::z::l) i:=λE B D=>A E B (D.perm (List.Perm.swap ..))
def wI {A:Type}:Nat->C A->C A×C A
 |0,x=>([],x)
 |_+1,[]=>([],[])
 |y+1,z::x=>(z::(wI y x).1,(wI y x).2)
def Dy {A:Type}:∀(y:Nat)(x:C A),(wI y x).1++(wI y x).2=x
 |0,x=>rfl
 |_+1,[]=>rfl
 |y+1,z::x=>by simp[wI,Dy y x]
def xl (a:Array Oper)(e:dD)(x:Nat)(y:Bool):C Nat->C Oper->Bool
 |_,[]=>true
 |E,⟨some o,_,_,_,_,some (A,D)⟩::z=>
  ((Nat.beq A x&&(D==y))||(match(a[A]?).bind (·.dst)with|some B=>E.contains B|.none=>false))&&(lk e o).isNone&&xl a e x y (o::E) z
 |_,_::_=>false
def F4 (x:Act)(z:Nat):cG Bool:=match x.tmps[z]?with|some (.bool y)=>some y|_=>.none
def EX {Q:Exit->Act->O->Prop}{B D:Nat}{A:Bool}(hj:(a[B]?).bind (·.dst)=some D)(hl:lk e D=some (.bool !A)):
 ∀(l1:C Oper)(ah:C Nat)(x:Act)(h:C Oper),xl a e B A ah l1=true->Fr j e x->(∀y∈ah,F4 x y=.none)->(∀X,Fr j e X->wpList k a Q h X i)->wpList k a Q (l1++h) x i
 |[],_,x,h,_,E,_,z=>z x E
 |⟨some o,m,g,d,n,some (j',w')⟩::W,ah,x,h,G,E,hU,z=>by
  simp only[xl,iu,jh]at G;obtain⟨⟨hg,hd⟩,R⟩:=G;have hw:Region.wanted (⟨some o,m,g,d,n,some (j',w')⟩:Oper) (yielded a x.tmps)=false:=by
   rcases hg with⟨h1,H⟩|H
   .have ab:=r5 h1;subst ab;have ad:w'=A:=by simpa using H
    subst ad;simp[Region.wanted,mO E hj hl]
   .split at H
    .rename_i P ae;have:=hU P (by simpa using H);have hy:yielded a x.tmps j'=.none:=by
      unfold yielded;rw[ae];unfold F4 at this;simp only[Option.bind_some];cases S:x.tmps[P]?with
      |none=>rfl
      |some q=>rw[S]at this;cases q<;>first|rfl|(simp at this)
     simp[Region.wanted,hy]
    .cases H
  have L:Fr j e (x.put (some o) undef):=by
   refine⟨by simpa[Act.put]using E.size,E.defers,λt' q S=>?_⟩;have ag:o≠t':=by rintro rfl;simp[S]at hd
   simp only[Act.put];rw[IZ ag];exact E.get t' q S
  refine wpList_skip hw (EX hj hl W (o::ah) _ h R L ?_ z);intro y hu;by_cases K:y=o
  .subst K;unfold F4;simp only[Act.put];by_cases af:y<x.tmps.size
   .rw[Array.getElem?_setIfInBounds_self_of_lt af];rfl
   .rw[IY (by simp only[Array.size_setIfInBounds];omega)]
  .have:=hU y ((dh.1 hu).resolve_left K);unfold F4 at this|-;simp only[Act.put];rw[IZ (λT=>K T.symm)];exact this
 |⟨.none,_,_,_,_,_⟩::_,_,_,_,G,_,_,_=>by simp[xl]at G
 |⟨some _,_,_,_,_,.none⟩::_,_,_,_,G,_,_,_=>by simp[xl]at G
def IG {R:Exit->Act->O->Prop}:∀(K H:C Oper)(B:Act)(i:O),
 (∀W:Exit->Act->O->Prop,(∀D A,wpList k a R H D A->W .normal D A)->(∀y D A,y≠.normal->R y D A->W y D A)->wpList k a W K B i)->
 wpList k a R (K++H) B i:=by
 intro K
 induction K with
 |nil=>intro H B i z;have:=z (λy D A=>match y with|.normal=>wpList k a R H D A|y=>R y D A) (λ_ _ z=>z) (λy D A S G=>by cases y<;>first|exact G|exact absurd rfl S);exact this
 |cons Q K ih=>
  intro H B i z;have E:=z (Exit.then (wpList k a R H) R) (λ_ _ z=>z) (λy D A S G=>by cases y<;>first|exact G|exact absurd rfl S);have T:∀D A,wpList k a (Exit.then (wpList k a R H) R) K D A->wpList k a R (K++H) D A:=by
   intro D A hk;refine ih H D A λW hn L=>?_;refine M8 ?_ K D A hk;intro y ae ab G;cases y with
   |normal=>exact hn _ _ G
   |exit t=>exact L _ _ _ (by simp) G
   |goto t=>exact L _ _ _ (by simp) G
   |ret=>exact L _ _ _ (by simp) G
   |panic ad=>exact L _ _ _ (by simp) G
   |outgrown=>exact L _ _ _ (by simp) G
  simp only[kP,wpList]at E|-;split
  .rename_i P;simp only[P,pO]at E;rcases E with E|⟨h1,h2⟩
   .left;have:=Oper.wp_mono (o:=Q) (a:=B) (w:=i) (Q:=Exit.then (wpList k a R H) R) T E;unfold Oper.wp at this|-;generalize(execOp B.eval Q).run k i=X at*;cases X with
    |ok x A=>
     cases x<;>simp only[Oper.upon]at this|-<;>first
      |exact this
      |exact nY this (λy ab L=>by cases y<;>exact L)
    |halt x A=>cases x<;>simp only[Oper.upon]at this|-<;>exact this
   .exact .inr ⟨h1,h2⟩
  .rename_i P;simp only[P,r7,vW]at E;exact T _ _ E
def lj {B W:C Oper}{y t2 H:Nat}{z A:Bool}(L:Nat)(m0:dD)(ag:kf m0 e)(hl:wI L B=(W,⟨some o,.pick (.tmp y) (.const (.bool true)) (.tmp t2),g,d,n,.none⟩::h))
 (hj:(a[H]?).bind (·.dst)=some y) (hb:lk e y=some (.bool z)) (hs:xl a e H false [] W=true) (hd:Nat.blt o j=true)
 (h1:z=false->WL k j c b a (λX H' _=>lk X t2=some (.bool A)/\lk X y=some (.bool false)/\kf m0 X/\l.Sublist H') W ((y,.bool false)::e) l i)
 (hk:∀ab,WL k j c b a r h ((o,.bool (z||A))::m0) l ab):WL k j c b a r B e l i:=λE S hh Q hQ=>by
 have ad:B=W++(⟨some o,.pick (.tmp y) (.const (.bool true)) (.tmp t2),g,d,n,.none⟩::h):=by have:=Dy L B;rw[hl]at this;exact this.symm
 rw[ad]
 cases z with
 |true=>
  refine EX hj hb W [] E _ hs S (by simp) λR D=>?_;refine zh rfl λK hK=>?_;unfold Oper.wp;have hx:R.eval (.tmp y)=.bool true:=D.eval (c:=.tmp y) hb;have:(execOp R.eval ⟨some o,.pick (.tmp y) (.const (.bool true)) (.tmp t2),g,d,n,.none⟩).run k i=.ok (.value (.bool true)) i:=by simp only[execOp,hx,asBool,ke,ku,j8];rfl
  rw[this,kt];exact hK _ _ (hk _ _ ((D.sub ag).put hd _) hh Q hQ)
 |false=>
  refine IG _ _ _ _ λQ' hn he=>?_;refine h1 rfl E ⟨S.size,S.defers,λP q T=>?_⟩ hh Q' ?_
  .simp only[lk]at T;by_cases G:y=P
   .subst G;simp only[pN,n0,ln]at T;subst T;exact S.get y _ hb
   .have hf:Nat.beq y P=false:=by
     cases hq:Nat.beq y P with
     |false=>rfl
     |true=>exact absurd (r5 hq) G
    simp only[hf,oG]at T;exact S.get P q T
  .rintro R ab ⟨X,H',D,af,hc,ht,ae,ah⟩;refine hn _ _ (zh rfl λK hK=>?_);unfold Oper.wp;have hx:R.eval (.tmp y)=.bool false:=D.eval (c:=.tmp y) ht;have hy:R.eval (.tmp t2)=.bool A:=D.eval (c:=.tmp t2) hc;have:(execOp R.eval ⟨some o,.pick (.tmp y) (.const (.bool true)) (.tmp t2),g,d,n,.none⟩).run k ab=.ok (.value (.bool A)) ab:=by simp[execOp,hx,hy,asBool]
   rw[this,kt];exact hK _ _ (hk _ _ ((D.sub ae).put hd _) (af.j0 ah) Q hQ)
def oV {B W:C Oper}{y t2 H:Nat}{z A:Bool}(L:Nat)(m0:dD)(ag:kf m0 e)(hl:wI L B=(W,⟨some o,.pick (.tmp y) (.tmp t2) (.const (.bool false)),g,d,n,.none⟩::h))
 (hj:(a[H]?).bind (·.dst)=some y) (hb:lk e y=some (.bool z)) (hs:xl a e H true [] W=true) (hd:Nat.blt o j=true)
 (h1:z=true->WL k j c b a (λX H' _=>lk X t2=some (.bool A)/\lk X y=some (.bool true)/\kf m0 X/\l.Sublist H') W ((y,.bool true)::e) l i)
 (hk:∀ab,WL k j c b a r h ((o,.bool (z&&A))::m0) l ab):WL k j c b a r B e l i:=λE S hh Q hQ=>by
 have ad:B=W++(⟨some o,.pick (.tmp y) (.tmp t2) (.const (.bool false)),g,d,n,.none⟩::h):=by have:=Dy L B;rw[hl]at this;exact this.symm
 rw[ad]
 cases z with
 |false=>
  refine EX hj hb W [] E _ hs S (by simp) λR D=>?_;refine zh rfl λK hK=>?_;unfold Oper.wp;have hx:R.eval (.tmp y)=.bool false:=D.eval (c:=.tmp y) hb;have:(execOp R.eval ⟨some o,.pick (.tmp y) (.tmp t2) (.const (.bool false)),g,d,n,.none⟩).run k i=.ok (.value (.bool false)) i:=by simp only[execOp,hx,asBool,ke,ku,j8];rfl
  rw[this,kt];exact hK _ _ (hk _ _ ((D.sub ag).put hd _) hh Q hQ)
 |true=>
  refine IG _ _ _ _ λQ' hn he=>?_;refine h1 rfl E ⟨S.size,S.defers,λP q T=>?_⟩ hh Q' ?_
  .simp only[lk]at T;by_cases G:y=P
   .subst G;simp only[pN,n0,ln]at T;subst T;exact S.get y _ hb
   .have hf:Nat.beq y P=false:=by
     cases hq:Nat.beq y P with
     |false=>rfl
     |true=>exact absurd (r5 hq) G
    simp only[hf,oG]at T;exact S.get P q T
  .rintro R ab ⟨X,H',D,af,hc,ht,ae,ah⟩;refine hn _ _ (zh rfl λK hK=>?_);unfold Oper.wp;have hx:R.eval (.tmp y)=.bool true:=D.eval (c:=.tmp y) ht;have hy:R.eval (.tmp t2)=.bool A:=D.eval (c:=.tmp t2) hc;have:(execOp R.eval ⟨some o,.pick (.tmp y) (.tmp t2) (.const (.bool false)),g,d,n,.none⟩).run k ab=.ok (.value (.bool A)) ab:=by simp[execOp,hx,hy,asBool]
   rw[this,kt];exact hK _ _ (hk _ _ ((D.sub ae).put hd _) (af.j0 ah) Q hQ)
def ath {D ab:C Oper}{y t2 H:Nat}{A B:Bool}{P t':Nat}{S:Bool}(L:Nat)(m0:dD)(ag:kf m0 e)(hl:wI L D=(ab,⟨some o,.pick (.tmp y) (.tmp t2) (.const (.bool false)),g,d,n,some (P,S)⟩::h))
 (hj:(a[H]?).bind (·.dst)=some y) (hb:lk e y=some (.bool A)) (hs:xl a e H true [] ab=true) (hd:Nat.blt o j=true) (af:(a[P]?).bind (·.dst)=some t') (ae:lk m0 t'=some (.bool S))
 (h1:A=true->WL k j c b a (λm' H' _=>lk m' t2=some (.bool B)/\lk m' y=some (.bool true)/\kf m0 m'/\l.Sublist H') ab ((y,.bool true)::e) l i)
 (hk:∀w',WL k j c b a r h ((o,.bool (A&&B))::m0) l w'):WL k j c b a r D e l i:=λE T hh Q hQ=>by
 have ad:D=ab++(⟨some o,.pick (.tmp y) (.tmp t2) (.const (.bool false)),g,d,n,some (P,S)⟩::h):=by have:=Dy L D;rw[hl]at this;exact this.symm
 rw[ad]
 cases A with
 |false=>
  refine EX hj hb ab [] E _ hs T (by simp) λR z=>?_;refine wpList_step λK hK=>?_;rw[cM (by simp[Region.wanted,mO (z.sub ag) af ae])];unfold Oper.wp;have hx:R.eval (.tmp y)=.bool false:=z.eval (c:=.tmp y) hb;have:(execOp R.eval ⟨some o,.pick (.tmp y) (.tmp t2) (.const (.bool false)),g,d,n,some (P,S)⟩).run k i=.ok (.value (.bool false)) i:=by simp only[execOp,hx,asBool,ke,ku,j8];rfl
  rw[this,kt];exact hK _ _ (hk _ _ ((z.sub ag).put hd _) hh Q hQ)
 |true=>
  refine IG _ _ _ _ λQ' hn he=>?_;refine h1 rfl E ⟨T.size,T.defers,λt9 q X=>?_⟩ hh Q' ?_
  .simp only[lk]at X;by_cases G:y=t9
   .subst G;simp only[pN,n0,ln]at X;subst X;exact T.get y _ hb
   .have hf:Nat.beq y t9=false:=by
     cases hq:Nat.beq y t9 with
     |false=>rfl
     |true=>exact absurd (r5 hq) G
    simp only[hf,oG]at X;exact T.get t9 q X
  .rintro R w' ⟨m',H',z,ah,hc,ht,W,ai⟩;refine hn _ _ (wpList_step λK hK=>?_);rw[cM (by simp[Region.wanted,mO (z.sub W) af ae])];unfold Oper.wp;have hx:R.eval (.tmp y)=.bool true:=z.eval (c:=.tmp y) ht;have hy:R.eval (.tmp t2)=.bool B:=z.eval (c:=.tmp t2) hc;have:(execOp R.eval ⟨some o,.pick (.tmp y) (.tmp t2) (.const (.bool false)),g,d,n,some (P,S)⟩).run k w'=.ok (.value (.bool B)) w':=by simp[execOp,hx,hy,asBool]
   rw[this,kt];exact hK _ _ (hk _ _ ((z.sub W).put hd _) (ah.j0 ai) Q hQ)
def atm {z t2:Nat}{x y:Bool}{E:dD}{D:C V}(H:lk e t2=some (.bool y))(T:lk e z=some (.bool x))(K:kf E e)(L:D.Sublist l):WL k j c b a (λB G _=>lk B t2=some (.bool y)/\lk B z=some (.bool x)/\kf E B/\D.Sublist G) [] e l i:=λA R S _ Q=>wpList_nil (Q A i ⟨e,l,R,S,H,T,K,L⟩)
def ou (a:Array Oper):Array Bool->C (Nat×Bool)->Bool
 |x,[]=>(Region.ready .any a x).isEmpty
 |x,(t,fl)::p=>
  (bif fl then Region.free .any a x t&&(Region.ready .any a x).contains t else Region.ready .any a x==[t])&&ou a (x.setIfInBounds t true) p
def WD (k:dX)(j:Nat)(c:O)(b:Nat->Prop)(a:Array Oper)(r:fJ)(f:C V):C (Nat×Bool)->dD->C V->O->Prop
 |[],e,l,i=>∃D G,kf D e/\(∃H,(f++l).Perm (G++H))/\r D G i
 |(t,true)::p,e,l,i=>∃o m g d n u q,a[t]? =some ⟨some o,m,g,d,n,u⟩/\Nat.blt o j=true/\((dp k j c b m g e f q/\(u=.none\/∃z y x,u=some (z,y)/\(a[z]?).bind (·.dst)=some x/\lk e x=some (.bool y)))\/(q=undef/\∃z y x,u=some (z,y)/\(a[z]?).bind (·.dst)=some x/\(lk e x=some (.bool !y)\/lk e x=some undef)))/\WD k j c b a r f p ((o,q)::e) l i
 |(t,false)::p,e,l,i=>∃dst m g d n u,a[t]? =some ⟨dst,m,g,d,n,u⟩/\(match dst with|some o=>Nat.blt o j=true|.none=>True)/\((∃s,(u=.none\/∃z y x,u=some (z,y)/\(a[z]?).bind (·.dst)=some x/\lk e x=some (.bool y))/\eG k j c b m g e (f++l) i s/\∀q B E,s q B->∃A,B.Perm (f++A)/\WD k j c b a r f p (match dst with|some o=>(o,q)::e|.none=>e) A E)\/((∃z y x,u=some (z,y)/\(a[z]?).bind (·.dst)=some x/\(lk e x=some (.bool !y)\/lk e x=some undef))/\WD k j c b a r f p (match dst with|some o=>(o,undef)::e|.none=>e) l i))
def ik (l:C V):l.Perm (l++[]):=by simp
def EW {f:C V}(ab:Region.noSelect a=true)(Q:Exit->Act->O->Prop)(S:∀ad x i,¬Q (.panic ad) x i)
 (hQ:∀a' K,(∃m' P,Fr j m' a'/\cI c b P K/\r m' P K)->Q .normal a' K):
 ∀(p:C (Nat×Bool))(z:Nat)(B:Array Bool)(e:dD)(l:C V)(x:Act)(i:O),p.length<=z->ou a B p=true->Fr j e x->cI c b (f++l) i->WD k j c b a r f p e l i->wpAnyH k .any a Q (λK=>∃P,cI c b (f++P) K) z B x i
 |[],z,B,e,l,x,i,_,A,D,W,hd=>by obtain⟨m',L,hs,⟨E,hE⟩,hN⟩:=hd;simp only[ou,Fj]at A;exact wpAnyH_done A (hQ x i ⟨m',L,D.sub hs,W.pick hE,hN⟩) z
 |(t,true)::p,0,_,_,_,_,_,X,_,_,_,_=>by simp at X
 |(t,false)::p,0,_,_,_,_,_,X,_,_,_,_=>by simp at X
 |(t,true)::p,z+1,B,e,l,x,i,X,A,D,W,hd=>by
  obtain⟨o,m,g,d,n,u,q,hi,ae,hv,ah⟩:=hd;simp only[ou,n0,iu]at A;refine wpAnyH_take hi ab A.1.1 A.1.2 (λad x i ai=>(S _ _ _ ai).elim) ?_ ⟨l,W⟩ (EW ab Q S hQ p z _ ((o,q)::e) l _ i (by simpa using X) A.2 (D.put ae q) W ah);rcases hv with⟨hf,hg⟩|⟨rfl,H,G,T,rfl,R,y⟩
  .refine .inl ⟨?_,λK ⟨P,af⟩=>hf _ x K rfl rfl D (af.j0 (mr _ _))⟩;rcases hg with rfl|⟨H,G,T,rfl,R,y⟩
   .rfl
   .simp[Region.wanted,mO D R y]
  .refine .inr ⟨?_,rfl⟩;rcases y with y|y
   .simp[Region.wanted,mO D R y]
   .simp[Region.wanted,An D R y]
 |(t,false)::p,z+1,B,e,l,x,i,X,A,D,W,hd=>by
  obtain⟨dst,m,g,d,n,u,hi,ae,hv⟩:=hd;simp only[ou,oG,iu,uT]at A;refine wpAnyH_all A.1 (by simp) λaj hk=>?_;obtain rfl:aj=t:=by simpa using hk
  have al:∀q,Fr j (match dst with|some o=>(o,q)::e|.none=>e) (x.put dst q):=by
   intro q;cases dst with
   |none=>exact D
   |some o=>exact D.put ae q
  rcases hv with⟨s,hg,he,hk⟩|⟨⟨H,G,T,rfl,R,y⟩,hk⟩
  .have hw:Region.wanted (⟨dst,m,g,d,n,u⟩:Oper) (yielded a x.tmps)=true:=by
    rcases hg with rfl|⟨H,G,T,rfl,R,y⟩
    .rfl
    .simp[Region.wanted,mO D R y]
   unfold wpOp;simp only[hi,hw,pO];refine .inl (he _ x _ Q rfl rfl D W λq P K hp af=>?_);obtain⟨ak,am,an⟩:=hk q P K hp;have ag:=af.perm am;exact⟨⟨ak,ag⟩,EW ab Q S hQ p z _ _ ak _ K (by simpa using X) A.2 (al q) ag an⟩
  .have hw:Region.wanted (⟨dst,m,g,d,n,some (H,G)⟩:Oper) (yielded a x.tmps)=false:=by
    rcases y with y|y
    .simp[Region.wanted,mO D R y]
    .simp[Region.wanted,An D R y]
   unfold wpOp;simp only[hi,hw,vW,r7];exact⟨⟨l,W⟩,EW ab Q S hQ p z _ _ l _ i (by simpa using X) A.2 (al undef) W hk⟩
def cI.drew (x:cI c b l i):cI c b l {i with drawn:=i.drawn+1}:=⟨x.1.trans (lR.drew (λ_=>False) i) (λ_ y=>y.elim),x.2.keep (λ_ _ _ _=>rfl) (dT _)⟩
def Iy {id:Nat}(p:C (Nat×Bool))(f Hm:C V)(Q:k.follows .mixedOrders=true)(D:Region.noSelect a=true)(E:ou a (Array.replicate a.size false) p=true)(z:Nat.ble p.length a.size=true)(H:l.Perm (f++Hm))(x:∀A,WD k j c b a r f p e Hm A):W k j c b (.region id a true) r v w e l i:=λy K L=>by have B:=(L.perm H).drew;refine wp_region_held (S:=λA=>∃G,cI c b (f++G) A) Q ?_;exact EW D _ (λ_ _ _ x=>x) (λ_ _ R=>R) p _ _ e Hm y _ (qs z) E K B (x _)
variable{f:C V}{p:C (Nat×Bool)}{t:Nat}{u:cG (Nat×Bool)}
def cN (z:a[t]? =some ⟨some o,m,g,d,n,.none⟩)(x:dp k j c b m g e f q)(A:WD k j c b a r f p ((o,q)::e) l i)(y:Nat.blt o j=true:=by rfl):WD k j c b a r f ((t,true)::p) e l i:=⟨o,m,g,d,n,.none,q,z,y,.inl ⟨x,.inl rfl⟩,A⟩
def fX {y z:Nat}{x:Bool}(D:a[t]? =some ⟨some o,m,g,d,n,some (y,x)⟩)(E:(a[y]?).bind (·.dst)=some z)(H:lk e z=some (.bool x))(A:dp k j c b m g e f q)(G:WD k j c b a r f p ((o,q)::e) l i)(B:Nat.blt o j=true:=by rfl):WD k j c b a r f ((t,true)::p) e l i:=⟨o,m,g,d,n,_,q,D,B,.inl ⟨A,.inr ⟨y,x,z,rfl,E,H⟩⟩,G⟩
def as9 {y z:Nat}{x:Bool}(B:a[t]? =some ⟨some o,m,g,d,n,some (y,x)⟩)(D:(a[y]?).bind (·.dst)=some z)(G:lk e z=some (.bool !x))(E:WD k j c b a r f p ((o,undef)::e) l i)(A:Nat.blt o j=true:=by rfl):WD k j c b a r f ((t,true)::p) e l i:=⟨o,m,g,d,n,_,undef,B,A,.inr ⟨rfl,y,x,z,rfl,D,.inl G⟩,E⟩
def eh (B:a[t]? =some ⟨some o,m,g,d,n,.none⟩)(x:eG k j c b m g e (f++l) i s)(D:∀q z E,s q z->∃y,z.Perm (f++y)/\WD k j c b a r f p ((o,q)::e) y E)(A:Nat.blt o j=true:=by rfl):WD k j c b a r f ((t,false)::p) e l i:=⟨some o,m,g,d,n,.none,B,A,.inl ⟨s,.inl rfl,x,D⟩⟩
def jW (A:a[t]? =some ⟨.none,m,g,d,n,.none⟩)(x:eG k j c b m g e (f++l) i s)(B:∀q z D,s q z->∃y,z.Perm (f++y)/\WD k j c b a r f p e y D):WD k j c b a r f ((t,false)::p) e l i:=⟨.none,m,g,d,n,.none,A,trivial,.inl ⟨s,.inl rfl,x,B⟩⟩
def Og {y z:Nat}{x:Bool}(G:a[t]? =some ⟨some o,m,g,d,n,some (y,x)⟩)(H:(a[y]?).bind (·.dst)=some z)(L:lk e z=some (.bool x))(A:eG k j c b m g e (f++l) i s)(K:∀q D Q,s q D->∃B,D.Perm (f++B)/\WD k j c b a r f p ((o,q)::e) B Q)(E:Nat.blt o j=true:=by rfl):WD k j c b a r f ((t,false)::p) e l i:=⟨some o,m,g,d,n,_,G,E,.inl ⟨s,.inr ⟨y,x,z,rfl,H,L⟩,A,K⟩⟩
def Am {y z:Nat}{x:Bool}(B:a[t]? =some ⟨some o,m,g,d,n,some (y,x)⟩)(D:(a[y]?).bind (·.dst)=some z)(G:lk e z=some (.bool !x))(E:WD k j c b a r f p ((o,undef)::e) l i)(A:Nat.blt o j=true:=by rfl):WD k j c b a r f ((t,false)::p) e l i:=⟨some o,m,g,d,n,_,B,A,.inr ⟨⟨y,x,z,rfl,D,.inl G⟩,E⟩⟩
def as7 (y:dD)(z:kf y e)(x:r y (f++l) i):WD k j c b a r f [] e l i:=⟨y,_,z,⟨[],by simp⟩,x⟩
def as8 (y:dD)(D:C Nat){z E:C V}(B:kf y e)(A:pick D (f++l)=some (z,E))(x:r y z i):WD k j c b a r f [] e l i:=⟨y,z,B,⟨E,de _ _ A⟩,x⟩
end
section
variable{g:dX}{o:Nat}{e:O}{c:Nat->Prop}{a:dD}{n:C V}{l:O}{d:dk}{f j v:fj}{s t u:M}{h:IntKind}{i k r:Int}
def rh (A:ev a f=some s):dp g o e c (.move f) d a n s:=λx w l y B z D=>by simp[execOp,y,z.eval A]
def BN (A:ev a f=some s):dp g o e c (.assign f) d a n s:=λx w l y B z D=>by simp[execOp,y,z.eval A]
def mC {w:Bool}(B:ev a v=some (.bool w))(D:ev a f=some t)(E:ev a j=some u):dp g o e c (.pick v f j) d a n (if w then t else u):=λz y l A G x H=>by cases w<;>simp[execOp,A,x.eval D,x.eval E,x.eval B,asBool]
def P1 (A:ev a v=some (.bool true))(B:ev a f=some t):dp g o e c (.pick v f j) d a n t:=λy x l z D w E=>by simp[execOp,z,w.eval B,w.eval A,asBool]
def P0 (A:ev a v=some (.bool false))(B:ev a j=some u):dp g o e c (.pick v f j) d a n u:=λy x l z D w E=>by simp[execOp,z,w.eval B,w.eval A,asBool]
def oN {w:BinOp}{b m:dk}(E:ev a f=some t)(G:ev a j=some u)(D:∀l,(eqGuard w b f j t u).run g l=.ok () l)(B:∀l,(binOp w b t u).run g l=.ok s l):dp g o e c (.binOp w b f j m) d a n s:=λz y l A H x K=>by simp only[execOp,A,x.eval E,x.eval G,ke,D,j8,B,ku]
def abS {w:BinOp}{b:dk}(l:O):(eqGuard w b f j (.int h i) (.int h k)).run g l=.ok () l:=by cases w<;>simp[eqGuard]
def B0 {w:BinOp}{b:dk}{q p:U}(l:O):(eqGuard w b f j (.string q) (.string p)).run g l=.ok () l:=by cases w<;>simp[eqGuard]
def QC {w:BinOp}{b:dk}{q p:cG Addr}(l:O):(eqGuard w b f j (.pointer q) (.pointer p)).run g l=.ok () l:=by cases w<;>simp[eqGuard]
def qA {w:BinOp}{b m:dk}(y:ev a f=some (.int h i))(z:ev a j=some (.int h k))(x:∀l,(binOp w b (.int h i) (.int h k)).run g l=.ok s l):dp g o e c (.binOp w b f j m) d a n s:=oN y z abS x
variable{b m:dk}
def BM (w:ev a f=some (.int h i))(x:ev a j=some (.int h k)):dp g o e c (.binOp .add b f j m) d a n (.int h (h.wrap (i+k))):=qA w x λl=>by simp[binOp,Op.intArith]
def aa5 (w:ev a f=some (.int h i))(x:ev a j=some (.int h k)):dp g o e c (.binOp .sub b f j m) d a n (.int h (h.wrap (i-k))):=qA w x λl=>by simp[binOp,Op.intArith]
def KC (w:ev a f=some (.int h i))(x:ev a j=some (.int h k)):dp g o e c (.binOp .mul b f j m) d a n (.int h (h.wrap (i*k))):=qA w x λl=>by simp[binOp,Op.intArith]
def PK (x:ev a f=some (.int h i))(y:ev a j=some (.int h k))(w:h.wrap (i+k)=r):dp g o e c (.binOp .add b f j m) d a n (.int h r):=w▸BM x y
def KG (x:ev a f=some (.int h i))(y:ev a j=some (.int h k))(w:h.wrap (i-k)=r):dp g o e c (.binOp .sub b f j m) d a n (.int h r):=w▸aa5 x y
def PZ (x:ev a f=some (.int h i))(y:ev a j=some (.int h k))(w:h.wrap (i*k)=r):dp g o e c (.binOp .mul b f j m) d a n (.int h r):=w▸KC x y
def kH (x:ev a f=some (.int .i64 i))(y:ev a j=some (.int .i64 k))(w: -9223372036854775808<=i+k/\i+k<=9223372036854775807:=by omega):dp g o e c (.binOp .add b f j m) d a n (.int .i64 (i+k)):=PK x y (Fa _ w)
def Px (x:ev a f=some (.int .i64 i))(y:ev a j=some (.int .i64 k))(w: -9223372036854775808<=i-k/\i-k<=9223372036854775807:=by omega):dp g o e c (.binOp .sub b f j m) d a n (.int .i64 (i-k)):=KG x y (Fa _ w)
def oh (x:ev a f=some (.int .i64 i))(y:ev a j=some (.int .i64 k))(w: -9223372036854775808<=i*k/\i*k<=9223372036854775807:=by omega):dp g o e c (.binOp .mul b f j m) d a n (.int .i64 (i*k)):=PZ x y (Fa _ w)
def og (x:ev a f=some (.int .u64 i))(y:ev a j=some (.int .u64 k))(w:0<=i+k/\i+k<=18446744073709551615:=by omega):dp g o e c (.binOp .add b f j m) d a n (.int .u64 (i+k)):=PK x y (yT _ w)
def BT (x:ev a f=some (.int .u64 i))(y:ev a j=some (.int .u64 k))(w:0<=i-k/\i-k<=18446744073709551615:=by omega):dp g o e c (.binOp .sub b f j m) d a n (.int .u64 (i-k)):=KG x y (yT _ w)
def KE (y:ev a f=some (.int h i))(z:ev a j=some (.int h k))(w:k≠0)(x:h.wrap (i.tdiv k)=r):dp g o e c (.binOp .quo b f j m) d a n (.int h r):=qA y z λl=>by simp[binOp,Op.intDiv,w,x]
def zy (y:ev a f=some (.int h i))(z:ev a j=some (.int h k))(w:k≠0)(x:i.tmod k=r):dp g o e c (.binOp .rem b f j m) d a n (.int h r):=qA y z λl=>by simp[binOp,Op.intDiv,w,x]
def Gw (w:ev a f=some (.int .i64 i))(x:ev a j=some (.int .i64 k))(h0:0<=i/\i<=9223372036854775807/\1<=k):dp g o e c (.binOp .quo b f j m) d a n (.int .i64 (i/k)):=KE w x (by omega) (IntWalk.i64_quo _ _ h0)
def te (w:ev a f=some (.int h i))(x:ev a j=some (.int h k))(h0:0<=i/\1<=k:=by omega):dp g o e c (.binOp .rem b f j m) d a n (.int h (i % k)):=zy w x (by omega) (IntWalk.rem_in _ _ h0.1)
def KD (x:ev a f=some (.int h i))(y:ev a j=some (.int h k))(w:bits .or h i k=r):dp g o e c (.binOp .or b f j m) d a n (.int h r):=qA x y λl=>by subst w;simp[binOp,Op.intBits,bits]
def Gx (x:ev a f=some (.int h i))(y:ev a j=some (.int h k))(w:bits .xor h i k=r):dp g o e c (.binOp .xor b f j m) d a n (.int h r):=qA x y λl=>by subst w;simp[binOp,Op.intBits,bits]
def aaN (x:ev a f=some (.int h i))(y:ev a j=some (.int h k))(w:bits .andNot h i k=r):dp g o e c (.binOp .andNot b f j m) d a n (.int h r):=qA x y λl=>by subst w;simp[binOp,Op.intBits,bits]
def DY {A:IntKind}(y:ev a f=some (.int h i))(z:ev a j=some (.int A k))(w:0<=k)(x:h.wrap (i*2^min k.toNat h.bits)=r):dp g o e c (.binOp .shl b f j m) d a n (.int h r):=oN y z (λl=>by simp[eqGuard]) λl=>by simp[binOp,Op.shift,Int.not_lt.2 w,x]
def zA {A:IntKind}(y:ev a f=some (.int h i))(z:ev a j=some (.int A k))(w:0<=k)(x:i.fdiv (2^min k.toNat h.bits)=r):dp g o e c (.binOp .shr b f j m) d a n (.int h r):=oN y z (λl=>by simp[eqGuard]) λl=>by simp[binOp,Op.shift,Int.not_lt.2 w,x]
def gN (w:ev a f=some (.int h i))(x:ev a j=some (.int h k)):dp g o e c (.binOp .lss b f j m) d a n (.bool (decide (i<k))):=qA w x λl=>by simp[binOp,Op.intCmp]
def wP (w:ev a f=some (.int h i))(x:ev a j=some (.int h k)):dp g o e c (.binOp .leq b f j m) d a n (.bool (decide (i<=k))):=qA w x λl=>by simp[binOp,Op.intCmp]
def gA (w:ev a f=some (.int h i))(x:ev a j=some (.int h k)):dp g o e c (.binOp .gtr b f j m) d a n (.bool (decide (k<i))):=qA w x λl=>by simp[binOp,Op.intCmp]
def m6 (w:ev a f=some (.int h i))(x:ev a j=some (.int h k)):dp g o e c (.binOp .geq b f j m) d a n (.bool (decide (k<=i))):=qA w x λl=>by simp[binOp,Op.intCmp]
def e9 (w:ev a f=some (.int h i))(x:ev a j=some (.int h k)):dp g o e c (.binOp .eql b f j m) d a n (.bool (decide (i=k))):=qA w x λl=>by simp only[binOp,Op.intCmp,ne_eq,not_true,r7,ku];congr 2
def jt (x:ev a f=some (.int h i))(y:ev a j=some (.int h k)):dp g o e c (.binOp .neq b f j m) d a n (.bool (decide (i≠k))):=qA x y λl=>by
 have:(i !=k)=decide (i≠k):=by by_cases w:i=k<;>simp[w]
 simp[binOp,Op.intCmp,this]
variable{q p:U}
def CF {q p:U}:q.toList=p.toList↔q=p:=by
 rw[CR,CR];constructor
 .intro w;cases q;cases p;simp only[ByteArray.mk.injEq];exact lS w
 .rintro rfl;rfl
def cU {y:Op}{s z:M}(x:dp g o e c y d a n s)(w:s=z):dp g o e c y d a n z:=w▸x
def oO (x:ev a f=some (.string q))(y:ev a j=some (.string p)):dp g o e c (.binOp .eql b f j m) d a n (.bool (decide (q=p))):=oN x y B0 λl=>by
 have:(q.toList==p.toList)=decide (q=p):=by by_cases w:q=p<;>simp[w,CF]
 simp[binOp,Op.stringOp,this]
def Gv (x:ev a f=some (.string q))(y:ev a j=some (.string p)):dp g o e c (.binOp .neq b f j m) d a n (.bool (decide (q≠p))):=oN x y B0 λl=>by
 have:(q.toList==p.toList)=decide (q=p):=by by_cases w:q=p<;>simp[w,CF]
 simp[binOp,Op.stringOp,this]
def PX (w:ev a f=some (.string q))(x:ev a j=some (.string p)):dp g o e c (.binOp .lss b f j m) d a n (.bool (Op.bytesLess q.data.toList p.data.toList)):=oN w x B0 λl=>by simp[binOp,Op.stringOp,CR]
def PL (y:ev a f=some (.string q))(z:ev a j=some (.string p))(A:q.size+p.size<=9223372036854775807):dp g o e c (.binOp .add b f j m) d a n (.string (q++p)):=oN y z B0 λl=>by
 have x:¬(((q.size+p.size:Nat):Int)>IntKind.i64.max):=by
  have w:IntKind.i64.max=9223372036854775807:=by decide
  rw[w];omega
 simp only[binOp,Op.stringOp,cJ x,ku]
def aay (l:O)(x:Nat)(p y:dk)(w:cG Addr)(A v:Nat)(z:g.underlying p=some (.slice y)):(Op.equalIn (x+1) p (.slice w A v) (.slice .none 0 0)).run g l=.ok w.isNone l:=by cases w<;>simp[Op.equalIn,gG z]
def vh {w:cG Addr}{x v:Nat}(B:ev a f=some (.slice w x v))(D:ev a j=some (.slice .none 0 0)){y:dk}(A:g.underlying b=some (.slice y)):dp g o e c (.binOp .eql b f j m) d a n (.bool w.isNone):=oN B D (λl=>by simp[eqGuard]) λl=>by have z:(Op.equal b (.slice w x v) (.slice .none 0 0)).run g l=.ok w.isNone l:=aay l 9999 b y w x v A;simp[binOp,z]
def gB {w:cG Addr}(y:ev a f=some (.pointer w))(z:ev a j=some (.pointer .none)){A:dk}(x:g.underlying b=some (.pointer A)):dp g o e c (.binOp .eql b f j m) d a n (.bool w.isNone):=oN y z QC λl=>by rw[run_eql_pointer_nil (P:=g) l b w (by simp[Program.pointee,x])]
def zx {w:cG Addr}(y:ev a f=some (.pointer w))(z:ev a j=some (.pointer .none)){A:dk}(x:g.underlying b=some (.pointer A)):dp g o e c (.binOp .neq b f j m) d a n (.bool w.isSome):=oN y z QC λl=>by rw[run_neq_pointer_nil (P:=g) l b w (by simp[Program.pointee,x])];cases w<;>rfl
def jl {w:Bool}{x:UnOp}(D:x=.not)(E:ev a f=some (.bool w)):dp g o e c (.unOp x b f) d a n (.bool !w):=λz y l A G B H=>by subst D;simp[execOp,A,B.eval E,Op.unary]
def wO {w:IntKind}{src dst:dk}{z:TypeDesc}(H:ev a f=some (.int h i))(G:g.underlying src=some z)(D:g.underlying dst=some (.int w))(E:w.wrap i=r):dp g o e c (.convert src dst f) d a n (.int w r):=λy x l A K B L=>by subst E;simp[execOp,A,B.eval H,convert,gG G,gG D,Conv.intToInt]
def aaP {src dst:dk}{w:TypeDesc}(A:ev a f=some (.int h i))(z:g.underlying src=some w)(y:g.underlying dst=some (.int .i64))(x: -9223372036854775808<=i/\i<=9223372036854775807):dp g o e c (.convert src dst f) d a n (.int .i64 i):=wO A z y (Fa _ x)
def aaQ {src dst:dk}{w:TypeDesc}(A:ev a f=some (.int h i))(z:g.underlying src=some w)(y:g.underlying dst=some (.int .u64))(x:0<=i/\i<=18446744073709551615):dp g o e c (.convert src dst f) d a n (.int .u64 i):=wO A z y (yT _ x)
def BO {src dst:dk}{w:TypeDesc}(A:ev a f=some (.int h i))(z:g.underlying src=some w)(y:g.underlying dst=some (.int .u8))(x:0<=i/\i<=255):dp g o e c (.convert src dst f) d a n (.int .u8 i):=wO A z y (IntWalk.u8_in _ x)
def aaW {p:dk}{w:dk}{z:cG Addr}{len cap:Nat}(E:ev a f=some (.slice z len cap))(D:g.underlying p=some (.slice w)):dp g o e c (.call {callee:=.builtin .len,args:=#[f],argTypes:=#[p]}) d a n (.int .i64 len):=λy x l A G B H=>by simp[execOp,A,resolve,invoke,builtin,B.eval E,Builtin.len_,gG D,goInt]
def aaX {p:dk}(B:ev a f=some (.string q))(A:g.underlying p=some .string):dp g o e c (.call {callee:=.builtin .len,args:=#[f],argTypes:=#[p]}) d a n (.int .i64 q.size):=λx w l y D z E=>by simp[execOp,y,resolve,invoke,builtin,z.eval B,Builtin.len_,gG A,goInt]
def BS {E:Array dk}(B:ev a f=some (.int h i))(D:ev a j=some (.int h k))(A:(if k<i then k else i)=r):dp g o e c (.call {callee:=.builtin .min,args:=#[f,j],argTypes:=E}) d a n (.int h r):=λy x l z G w H=>by subst A;simp[execOp,z,resolve,invoke,builtin,w.eval B,w.eval D,run_min_int2]
def wR {E:Array dk}(B:ev a f=some (.int h i))(D:ev a j=some (.int h k))(A:(if k>i then k else i)=r):dp g o e c (.call {callee:=.builtin .max,args:=#[f,j],argTypes:=E}) d a n (.int h r):=λy x l z G w H=>by subst A;simp[execOp,z,resolve,invoke,builtin,w.eval B,w.eval D,run_max_int2]
def BQ {x:UInt8}{w:Nat}(L:ev a f=some (.string q))(Q:ev a j=some (.int h i))(K:g.underlying b=some .string)(H:i=(w:Nat))(z:q.data[w]? =some x):dp g o e c (.index b f j) d a n (.int .u8 x.toNat):=λE D l G R y S=>by
 subst H;have A:q[w]? =some x:=by have B:w<q.size:=(mS.1 z).1;rw[ByteArray.getElem?_lt' q w B];have:=(mS.1 z).2;exact dq some this
 simp[execOp,G,y.eval L,y.eval Q,Instr.index,asIntOf,gG K,A]
def aa4 {w:Addr}(B:ev a f=some (.pointer (some w))):dp g o e c (.nilCheck f) d a n (.pointer (some w)):=λy x l z D A E=>by simp[execOp,z,A.eval B]
def aaT (Q:Nat){G:Array Field}{w:Field}{z y A:Nat}(hx:ev a f=some (.pointer (some ⟨y,A,.none⟩)))(ht:g.underlying b=some (.struct G))(X:G[z]? =some w)(K:w.offset=Q)(B:(match g.info? w.type with|some z=>Nat.beq z.size 0|.none=>true)=false):dp g o e c (.fieldAddr b f z) d a n (.pointer (some ⟨y,A+Q,.none⟩)):=λS R l T h2 W hh=>by
 subst K;have⟨x,H⟩:∃x,g.info? w.type=some x:=by
  cases D:g.info? w.type with
  |none=>rw[D]at B;cases B
  |some x=>exact⟨x,rfl⟩
 have L:x.size≠0:=by rw[H]at B;intro h0;simp[h0]at B
 have E:(⟨y,A,.none⟩:Addr).add w.offset=⟨y,A+w.offset,.none⟩:=by unfold Addr.add;split<;>simp_all
 simp[execOp,T,W.eval hx,Instr.fieldAt,gG ht,X,Instr.sureAddr,fieldPlace,sizeOf,typeInfo,H,L,E]
def Kz (A:Nat){z w x y len cap:Nat}(X:ev a f=some (.slice (some ⟨x,y,.none⟩) len cap))(hy:ev a j=some (.int h i))(W:g.underlying b=some (.slice z))(T:(g.info? z).map (·.size)=some A)(R:i=(w:Nat))(G:w<len:=by omega):dp g o e c (.indexAddr b f j) d a n (.pointer (some ⟨x,y+w*A,.none⟩)):=λL H l Q h2 D hh=>by
 subst R;obtain⟨K,S,E⟩:=nq.1 T;have B:(⟨x,y,.none⟩:Addr).add (w*A)=⟨x,y+w*A,.none⟩:=by unfold Addr.add;split<;>simp_all
 simp[execOp,Q,D.eval X,D.eval hy,Instr.indexAt,asIntOf,gG W,G,sizeOf,typeInfo,S,E,B]
def oP (S:Nat){y w A x z len cap:Nat}{lo G:cG fj}(Q:ev a f=some (.slice (some ⟨x,z,.none⟩) len cap))(K:g.underlying b=some (.slice y))
 (hs:(g.info? y).map (·.size)=some S)
 (hl:match lo with|.none=>w=0|some T=>∃h,ev a T=some (.int h (w:Nat)))
 (L:match G with|.none=>A=len|some T=>∃h,ev a T=some (.int h (A:Nat))) (X:w<=A:=by omega) (P:A<=cap:=by omega):
 dp g o e c (.slice b f lo G .none) d a n (.slice (some ⟨x,if cap=w then z else z+w*S,.none⟩) (A-w) (cap-w)):=λag ae l E h2 D hh=>by
 obtain⟨af,H,W⟩:=nq.1 hs
 have B:∀T,(⟨x,z,.none⟩:Addr).add T=⟨x,z+T,.none⟩:=λT=>by unfold Addr.add;split<;>simp_all
 have ab:(if cap=w then(some ⟨x,z,.none⟩:cG Addr)else some ⟨x,z+w*S,.none⟩)=some ⟨x,if cap=w then z else z+w*S,.none⟩:=by split<;>rfl
 cases lo with
 |none=>
  subst hl;cases G with
  |none=>subst L;simp[execOp,E,D.eval Q,Instr.sliceAt,gG K,Instr.slice,Instr.sliceBounds,sizeOf,typeInfo,H,B]
  |some T=>obtain⟨h,R⟩:=L;simp[execOp,E,D.eval Q,D.eval R,Instr.sliceAt,gG K,Instr.slice,Instr.sliceBounds,Instr.sliceBound,asIntOf,P,sizeOf,typeInfo,H,B]
 |some T=>
  obtain⟨h,R⟩:=hl;cases G with
  |none=>subst L;have y:=ab;simp[execOp,E,D.eval Q,D.eval R,Instr.sliceAt,gG K,Instr.slice,Instr.sliceBounds,Instr.sliceBound,asIntOf,X,sizeOf,typeInfo,H,W,B,y]
  |some z'=>obtain⟨k',ad⟩:=L;have y:=ab;simp[execOp,E,D.eval Q,D.eval R,D.eval ad,Instr.sliceAt,gG K,Instr.slice,Instr.sliceBounds,Instr.sliceBound,asIntOf,X,P,sizeOf,typeInfo,H,W,B,y]
def qB (ab:Nat){A:cG Addr}{B w x len cap:Nat}{T E:cG fj}(L:ev a f=some (.slice A len cap))(H:g.underlying b=some (.slice B))
 (hs:(g.info? B).map (·.size)=some ab)
 (X:match T with|.none=>w=0|some z=>∃h,ev a z=some (.int h (w:Nat)))
 (K:match E with|.none=>x=len|some z=>∃h,ev a z=some (.int h (x:Nat))) (R:w<=x:=by omega) (S:x<=cap:=by omega):
 dp g o e c (.slice b f T E .none) d a n (.slice (if cap=w then A else A.map (·.add (w*ab))) (x-w) (cap-w)):=λaf ad l D h2 y hh=>by
 obtain⟨ae,G,W⟩:=nq.1 hs
 subst W
 cases T with
 |none=>
  subst X;cases E with
  |none=>subst K;simp[execOp,D,y.eval L,Instr.sliceAt,gG H,Instr.slice,Instr.sliceBounds,sizeOf,typeInfo,G]
  |some z=>obtain⟨h,Q⟩:=K;simp[execOp,D,y.eval L,y.eval Q,Instr.sliceAt,gG H,Instr.slice,Instr.sliceBounds,Instr.sliceBound,asIntOf,S,sizeOf,typeInfo,G]
 |some z=>
  obtain⟨h,Q⟩:=X;cases E with
  |none=>subst K;simp[execOp,D,y.eval L,y.eval Q,Instr.sliceAt,gG H,Instr.slice,Instr.sliceBounds,Instr.sliceBound,asIntOf,R,sizeOf,typeInfo,G]
  |some z'=>obtain⟨k',P⟩:=K;simp[execOp,D,y.eval L,y.eval Q,y.eval P,Instr.sliceAt,gG H,Instr.slice,Instr.sliceBounds,Instr.sliceBound,asIntOf,R,S,sizeOf,typeInfo,G]
def PN {x:C M}{w:Nat}(E:ev a f=some (.tuple x.toArray))(D:x[w]? =some s):dp g o e c (.extract f w) d a n s:=λz y l A G B H=>by simp[execOp,A,B.eval E,Instr.extract,D]
def DT {A:Array Field}{w:Field}{y:Nat}{z:C M}{x:TypeDesc}(S:ev a f=some (.agg z.toArray))(Q:g.underlying b=some (.struct A))(L:A[y]? =some w)(K:g.underlying w.type=some x)(H:(match x with|.struct _|.array _ _=>false|_=>true)=true)(R:z[w.offset]? =some s):dp g o e c (.field b f y) d a n s:=λD B l E T G W=>by
 have:(isAgg w.type).run g l=.ok false l:=by cases x<;>simp_all[isAgg,gG K]
 simp[execOp,E,G.eval S,Instr.field,gG Q,L,asAgg,part,this,R]
def aaO {p:dk}{parts:C (Nat×fj)}{z:C (Nat×M)}(G:wN a parts=some z)(E:∀l,(Instr.build p z.toArray).run g l=.ok s l):dp g o e c (.build p parts.toArray) d a n s:=λA w l B H D K=>by
 have x:(parts.toArray.map λ(y,f)=>(y,w.eval f))=z.toArray:=by apply lS;simpa using D.Kv _ G
 simp only[execOp,B,x,ke,E,j8,ku]
def wQ {fn:Fn}{first w:Array fj}{z y:C M}(A:mB a first.toList=some z)(B:mB a w.toList=some y):dp g o e c (.makeFunc fn first w) d a n (.func fn z.toArray y.toArray):=λE x l K L D Q=>by
 have G:first.map x.eval=z.toArray:=by have:=D.wM _ A;apply lS;simpa using this
 have H:w.map x.eval=y.toArray:=by have:=D.wM _ B;apply lS;simpa using this
 simp[execOp,K,Instr.makeFunc,G,H]
end
structure fB (c:dX)(f d a bytes:Nat)(e:M):Prop where
 ht:c.underlying f=some (.slice d)
 hi:∃b,c.info? d=some b/\b.zero=some e/\b.size=a/\b.bytes=bytes
 Lb:e.cells.size=a
 GR:0<a
def fB.mk' {f:dX}{k g b bytes:Nat}{i:M}(h:f.underlying k=some (.slice g))
 (a:(f.info? g).map (λe=>(e.zero,e.size,e.bytes))=some (some i,b,bytes)) (d:i.cells.size=b) (c:0<b):fB f k g b bytes i:=by
 refine⟨h,?_,d,c⟩
 cases j:f.info? g with
 |none=>rw[j]at a;cases a
 |some e=>rw[j]at a;simp only[tK,ln,r6]at a;exact⟨e,rfl,a.1,a.2.1,a.2.2⟩
def Rd (j:O)(k:Nat->Prop)(e:Nat)(l:M)(d:Nat)(b:C M):Prop:=∃f g,l=.slice f d g/\b.length=d*e/\d<=g/\(d=0\/∃c a,f=some ⟨c,a,.none⟩/\¬k c/\c<j.heap.size/\∀h i,b[h]? =some i->j.cell? ⟨c,a+h,.none⟩=some i)
def pQ (b a c:Nat):(⟨b,a,.none⟩:Addr).add c=⟨b,a+c,.none⟩:=by unfold Addr.add;split<;>simp_all
def Rd.nil (c:O)(b:Nat->Prop)(a:Nat):Rd c b a (.slice .none 0 0) 0 []:=⟨.none,0,rfl,by simp,dT _,.inl rfl⟩
def Rd.keep {g b:O}{r G:Nat->Prop}{e s:Nat}{t:M}{f:C M}(w:Rd g r e t s f)(m:∀a,¬r a->a<g.heap.size->¬G a/\a<b.heap.size/\b.heap[a]? =g.heap[a]?):Rd b G e t s f:=by obtain⟨u,v,rfl,h,i,j⟩:=w;refine⟨u,v,rfl,h,i,j.imp id ?_⟩;rintro⟨a,d,rfl,k,c,l⟩;obtain⟨o,p,q⟩:=m a k c;exact⟨a,d,rfl,o,p,λx y n=>(World.cell?_of_block (w:=g) q).trans (l x y n)⟩
def Rd.rJ {f p:O}{c:Nat->Prop}{l Hc Hr:C V}{e n:Nat}{o:M}{g:C M}(h:Rd f c e o n g)(b:cI f c l p)(i:l.Perm (Hc++Hr)):Rd p (gO Hc) e o n g:=by
 refine h.keep λm d a=>⟨?_,zc a b.1.size,b.1.block m a d⟩;rintro⟨q,j,k⟩;rcases((b.2.mem q (i.mem_iff.2 (gI _ j))).2 m k).2 with h|h
 .omega
 .exact d h
def Rd.dx {c j:O}{a:Nat->Prop}{g:C V}{b h:Nat}{i:M}{d:C M}(e:Rd c a b i h d)(f:cI c a g j):Rd j cW b i h d:=(e.rJ f (Hc:=[]) (Hr:=g) (cD _)).keep λ_ _ e=>⟨id,e,rfl⟩
def Rd.cut {w:O}{s:Nat->Prop}{a i k b f:Nat}{j:cG Addr}{h:C M}(A:Rd w s a (.slice j i k) i h)(t:b<=f)(u:f<=i):Rd w s a (.slice (if k=b then j else j.map (·.add (b*a))) (f-b) (k-b)) (f-b) ((h.drop (b*a)).take ((f-b)*a)):=by
 obtain⟨x,z,r,n,B,o⟩:=A;injection r with l _ m;subst l;subst m;have e:(f-b)*a<=i*a-b*a:=by rw[<-Nat.sub_mul];exact j7 _ (by omega)
 refine⟨_,_,rfl,by rw[eD,iz,n,o5 e],by omega,?_⟩;rcases Bc (f-b)with h0|h0
 .exact .inl h0
 .right;obtain⟨y,d,rfl,p,g,q⟩:=o.resolve_left (by omega);rw[cJ (by omega)];refine⟨y,d+b*a,by simp[pQ],p,g,λv D c=>?_⟩;rw[mT]at c;split at c
  .rw[kQ]at c;have:=q _ _ c
   rwa [show d+(b*a+v)=d+b*a+v by omega]at this
  .cases c
def xe {k:O}{a l c i:Nat}{j:M}{b:C M}(d:k.ownsRow a l c j i b):Rd k cW c j i b:=by
 rcases d.2 with⟨rfl,rfl⟩|⟨m,cap,h,rfl,n,e,f,o,p,q⟩
 .have:b=[]:=ll (by simpa using d.1);subst this;exact Rd.nil _ _ _
 .refine⟨_,_,rfl,d.1,f,.inr ⟨_,_,rfl,id,(mS.1 e).1,λr s g=>?_⟩⟩;have:=d.cells (g:=m) rfl r s g
  rwa [pQ]at this
def Rd.held {q p:O}{g:Nat->Prop}{r Hc Hr:C V}{e sz n:Nat}{o:M}{b:C M}(i:cI q g r p)(k:r.Perm (Hc++Hr))(d:row o e sz n b∈Hr):Rd p (gO Hc) sz o n b:=by
 have c:=i.2.perm k;have a:p.ownsRow 0 e sz o n b:=(c.mem _ (iA _ d)).1;rcases a.2 with⟨rfl,rfl⟩|⟨t,cap,s,rfl,u,h,j,v,w,x⟩
 .have:b=[]:=ll (by simpa using a.1);subst this;exact Rd.nil _ _ _
 .refine⟨_,_,rfl,a.1,j,.inr ⟨_,_,rfl,?_,(mS.1 h).1,λy A l=>?_⟩⟩
  .rintro⟨z,f,m⟩;exact(Hs.append.1 c).2.2 z f _ d t m (by simp[row,Value.ownBlock])
  .have:=a.cells (g:=t) rfl y A l
   rwa [pQ]at this
def Rd.dM {f j:O}{c:Nat->Prop}{g:C V}{k a h:Nat}{i:M}{b:C M}(d:cI f c g j){l:Nat}(e:g[l]? =some (row i k a h b)):Rd j cW a i h b:=xe (d.ok e)
def aiU {E:dX}{o:O}{D B k bytes:Nat}{z:M}(t:fB E D B k bytes z)(y d:Nat)(s:M)(w:Nat)(q:C M)(e:o.ownsRow d B k s w q)(ah:M)(r:Nat)(a:C M)(W:Rd o cW k ah r a)(G:∀ad∈a,ad.oneCell'=true)(h:(w+r)*bytes<=140737488355328)(af:w+r<=140737488355328)(m:d<=o.heap.size):∃f l,(Builtin.append_ #[D,D] y #[s,ah]).run E o=.ok f l/\l.ownsRow d B k f (w+r) (q++a)/\o.grownBy l s.ownBlock/\(f.ownBlock=s.ownBlock\/f.ownBlock=some o.heap.size):=by
 obtain⟨i,S,ab,X,R⟩:=t.hi;obtain⟨A,c,rfl,u,hc,Q⟩:=W;by_cases v:r=0
 .subst v;have T:a=[]:=ll (by simpa using u);subst T;refine⟨s,o,?_,by simpa using e,⟨rfl,rfl,rfl,dT _,λ_ _ _=>rfl⟩,.inl rfl⟩;rcases e.2 with⟨rfl,rfl⟩|⟨g,cap,ae,rfl,_,_,ag,_⟩<;>cases A<;>simp[Builtin.append_,gG t.ht,sizeOf,typeInfo,Builtin.lenOf,Builtin.firstCells,loadCells,loadCellsFrom,storeCells, *]
 .obtain⟨b,x,rfl,_,_,n⟩:=Q.resolve_left v;obtain⟨f,l,p,H,K,_,L⟩:=run_append_own_at (P:=E) o d D y B i z k bytes t.ht S ab X R t.Lb t.GR s w q e ⟨b,x,.none⟩ r c a u (λj ad P=>by rw[pQ];exact n j ad P) G (by simp only[maxLen];omega) h m;exact⟨f,l,p,H,K,L⟩
def Sg {k e:O}{l h m:Nat}{j b:M}{i:C M}(g:e.ownsRow 0 l h b m i)(d:b.ownBlock=j.ownBlock\/∀a,b.ownBlock=some a->k.heap.size<=a)(a:Nat)(c:b.ownBlock=some a):j.ownBlock=some a\/(k.heap.size<=a/\a<e.heap.size):=by
 rcases d with f|f
 .exact .inl (f▸c)
 .exact .inr ⟨f a c,(g.lt a c).2⟩
section
variable{c:dX}{o:Nat}{e:O}{d:Nat->Prop}{i:dD}{f m r:C V}{a:O}{j:dk}{l q p:fj}{k u v:M}{n:IntKind}{w x s:Int}{h g b bytes:Nat}{t:M}
def Q6 {h:dk}{y:TypeDesc}(A:c.underlying h=some y)(z:(match y with|.struct _|.array _ _=>false|_=>true)=true)(a:O):(isAgg h).run c a=.ok false a:=by cases y<;>simp_all[isAgg,gG A]
def BR {A:Addr}{y:TypeDesc}(Q:ev i l=some (.pointer (some A)))(K:c.underlying h=some y)(z:(match y with|.struct _|.array _ _=>false|_=>true)=true)(H:∀a,cI e d f a->a.cell? A=some k):dp c o e d (.load h l) j i f k:=λD B a E R G L=>by have:=H a L;simp[execOp,E,G.eval Q,Instr.loadAt,Instr.sureAddr,loadVar,Q6 K z,this]
def PV {y A G:Nat}{B:C M}{z:TypeDesc}(D:Nat)(S:ev i l=some (.pointer (some ⟨y,A,.none⟩)))(K:c.underlying h=some z)(E:(match z with|.struct _|.array _ _=>false|_=>true)=true)(Q:f[D]? =some (cF y B G))(R:B[A]? =some k):dp c o e d (.load h l) j i f k:=BR S K E λa L=>by have H:a.heap[y]? =some (.cells B.toArray G (0,0)):=L.ok Q;rw[tL a y A B.toArray G (0,0) H];simpa using R
def KA {z:Addr}{y:TypeDesc}(H:ev i l=some (.pointer (some z)))(E:c.underlying h=some y)(A:(match y with|.struct _|.array _ _=>false|_=>true)=true)(D:e.cell? z=some k)(B:¬d z.block):dp c o e d (.load h l) j i f k:=BR H E A λ_ G=>G.rJ D B
def DU {y cap z B:Nat}{G:C M}{A:TypeDesc}(D:Nat)(R:ev i l=some (.pointer (some ⟨y,B,.none⟩)))(H:c.underlying h=some A)(E:(match A with|.struct _|.array _ _=>false|_=>true)=true)(L:f[D]? =some (row (.slice (some ⟨y,0,.none⟩) z cap) g b z G))(Q:G[B]? =some k):dp c o e d (.load h l) j i f k:=BR R H E λa K=>by have:=(show a.ownsRow 0 g b (.slice (some ⟨y,0,.none⟩) z cap) z G from K.ok L).cells (g:=y) rfl B k Q;rw[pQ]at this;simpa using this
def Ex (a:O)(D:Nat):∀(A:C M)(G y:Nat)(E:Array M),(∀z B,A[z]? =some B->a.cell? ⟨D,G+(y+z),.none⟩=some B)->
 (loadCellsFrom ⟨D,G,.none⟩ y A.length E).run c a=.ok (E++A.toArray) a
 |[],G,y,E,_=>by simp[loadCellsFrom]
 |B::A,G,y,E,H=>by have h0:=H 0 B rfl;simp only[tJ]at h0;simp only[eE,loadCellsFrom,ke,pQ,run_load,h0,j8];rw[Ex a D A G (y+1) (E.push B) (λz k K=>by have:=H (z+1) k K;rwa [show y+(z+1)=y+1+z from by omega]at this)];simp
def DW {A D:Nat}{E:C M}{B:TypeDesc}(hx:ev i l=some (.pointer (some ⟨A,D,.none⟩)))(W:c.underlying h=some B)(S:(match B with|.struct _|.array _ _=>true|_=>false)=true)(hs:(c.info? h).map (·.size)=some E.length)(T:∀a,cI e d f a->∀y z,E[y]? =some z->a.cell? ⟨A,D+y,.none⟩=some z):dp c o e d (.load h l) j i f (.agg E.toArray):=λL K a Q h2 R X=>by
 obtain⟨y,hj,H⟩:=nq.1 hs;have G:(isAgg h).run c a=.ok true a:=by cases B<;>simp_all[isAgg,gG W]
 have hl:=Ex (c:=c) a A E D 0 #[] (λy z hu=>by simpa using T a X y z hu);simp[execOp,Q,R.eval hx,Instr.loadAt,Instr.sureAddr,loadVar,G,sizeOf,typeInfo,hj,H,loadCells,hl]
def aa1 {y E L:Nat}{D z:C M}{A:TypeDesc}(G:Nat)(hx:ev i l=some (.pointer (some ⟨y,E,.none⟩)))(S:c.underlying h=some A)(H:(match A with|.struct _|.array _ _=>true|_=>false)=true)(X:(c.info? h).map (·.size)=some D.length)(W:f[G]? =some (cF y z L))(hv:(z.drop E).take D.length=D):dp c o e d (.load h l) j i f (.agg D.toArray):=DW hx S H X λa T B R K=>by have Q:a.heap[y]? =some (.cells z.toArray L (0,0)):=T.ok W;rw[tL a y (E+B) z.toArray L (0,0) Q];have hj:B<D.length:=(da.1 K).1;rw[<-hv,mT,cM (by omega),kQ]at K;simpa using K
def Gu {y cap z E:Nat}{D Q:C M}{A:TypeDesc}(G:Nat)(hx:ev i l=some (.pointer (some ⟨y,E,.none⟩)))(R:c.underlying h=some A)(K:(match A with|.struct _|.array _ _=>true|_=>false)=true)(W:(c.info? h).map (·.size)=some D.length)(T:f[G]? =some (row (.slice (some ⟨y,0,.none⟩) z cap) g b z Q))(X:(Q.drop E).take D.length=D):dp c o e d (.load h l) j i f (.agg D.toArray):=DW hx R K W λa S B H L=>by have hj:B<D.length:=(da.1 L).1;rw[<-X,mT,cM (by omega),kQ]at L;have:=(show a.ownsRow 0 g b (.slice (some ⟨y,0,.none⟩) z cap) z Q from S.ok T).cells (g:=y) rfl (E+B) H L;rw[pQ]at this;simpa using this
def Gt {A D:Nat}{E:C M}{B:TypeDesc}(T:ev i l=some (.pointer (some ⟨A,D,.none⟩)))(L:c.underlying h=some B)(G:(match B with|.struct _|.array _ _=>true|_=>false)=true)(R:(c.info? h).map (·.size)=some E.length)(K:∀y z,E[y]? =some z->e.cell? ⟨A,D+y,.none⟩=some z)(H:¬d A):dp c o e d (.load h l) j i f (.agg E.toArray):=DW T L G R λ_ Q y z S=>Q.rJ (K y z S) H
def Kg {L:Op}{E:C M}{H:dk}(B:Nat->M)(G:∀(y:Oper)(z:Act)(a:O),y.op=L->y.type=j->Fr o i z->cI e d f a->(execOp z.eval y).run c a=.ok (.value (B a.heap.size)) (a.alloc (.cells E.toArray H))):eG c o e d L j i f a (λD R=>∃A,D=B A/\R=cF A E H::f):=λy z P Q S T W K X=>by unfold Oper.wp;rw[G y z a S T W K,kt];exact X _ _ _ ⟨a.heap.size,rfl,rfl⟩ (K.alloc E H)
def O4 {A:C M}(L:ev i l=some k)(K:k.cells=A.toArray):eG c o e d (.box h l) j i f a (λz E=>∃y,z=.pointer (some ⟨y,0,.none⟩)/\E=cF y A h::f):=Kg (λy=>.pointer (some ⟨y,0,.none⟩)) λD B a G Q H R=>by simp[execOp,G,H.eval L,Instr.box,newVar,newRow,K]
def OZ {A:C M}(R:(c.info? h).map (·.zero)=some (some k))(Q:k.cells=A.toArray):eG c o e d (.alloc h) j i f a (λz H=>∃y,z=.pointer (some ⟨y,0,.none⟩)/\H=cF y A h::f):=Kg (λy=>.pointer (some ⟨y,0,.none⟩)) λG D a K S T W=>by obtain⟨E,L,B⟩:=nq.1 R;simp[execOp,K,Instr.alloc,zeroValue,typeInfo,L,B,newVar,newRow,Q]
def O1 (A:C M)(D:(c.info? h).map (·.zero)=some (some (.agg A.toArray))):eG c o e d (.alloc h) j i f a (λz B=>∃y,z=.pointer (some ⟨y,0,.none⟩)/\B=cF y A h::f):=OZ D rfl
def O0 (k:M)(D:(c.info? h).map (·.zero)=some (some k))(B:k.cells=#[k]):eG c o e d (.alloc h) j i f a (λz A=>∃y,z=.pointer (some ⟨y,0,.none⟩)/\A=cF y [k] h::f):=OZ D B
def aah {len:Nat}{parts:C (Nat×fj)}{D:C (Nat×M)}{E:C M}(R:wN i parts=some D)(Q:∀a,(Instr.buildSlice h len D.toArray).run c a=.ok (.slice (some ⟨a.heap.size,0,.none⟩) len len) (a.alloc (.cells E.toArray g))):eG c o e d (.buildSlice h len parts.toArray) j i f a (λB H=>∃y,B=.slice (some ⟨y,0,.none⟩) len len/\H=cF y E g::f):=Kg (λy=>.slice (some ⟨y,0,.none⟩) len len) λG z a K S L T=>by
 have g:(parts.toArray.map λ(A,l)=>(A,z.eval l))=D.toArray:=by apply lS;simpa using L.Kv _ R
 simp only[execOp,K,g,ke,Q,j8,ku]
def SW {z:Nat}{A:C M}{y:Nat}(E:A.length=y*b)(T:y<=maxLen)(S:cI e d (cF z A g::f) a):cI e d (row (.slice (some ⟨z,0,.none⟩) y y) g b y A::f) a:=by
 obtain⟨H,⟨G,R,Q⟩,K⟩:=S;have L:a.heap[z]? =some (.cells A.toArray g (0,0)):=G;refine⟨H,⟨⟨E,.inr ⟨z,y,A.toArray,rfl,gK _,L,dT _,T,by simpa using E,by simp[<-E]⟩⟩,?_,?_⟩,K⟩
 .intro n D;exact R n (by simpa[row,Value.ownBlock,cF,zg]using D)
 .intro B W n D;exact Q B W n (by simpa[row,Value.ownBlock,cF,zg]using D)
def vg {len:Nat}{parts:C (Nat×fj)}{G:C (Nat×M)}{D:C M}(hp:wN i parts=some G)(W:∀a,(Instr.buildSlice h len G.toArray).run c a=.ok (.slice (some ⟨a.heap.size,0,.none⟩) len len) (a.alloc (.cells D.toArray g)))(ab:D.length=len*b)(hm:len<=maxLen):eG c o e d (.buildSlice h len parts.toArray) j i f a (λB H=>∃y,B=.slice (some ⟨y,0,.none⟩) len len/\H=row (.slice (some ⟨y,0,.none⟩) len len) g b len D::f):=λA z K Q L R T X P=>aah hp W A z K Q L R T X λk _ w' ⟨y,hv,S⟩ E=>P k _ w' ⟨y,hv,rfl⟩ (SW ab hm (S▸E))
def aiX (A:fB c h g b bytes t)(a:O):(Instr.buildSlice h 0 #[]).run c a=.ok (.slice (some ⟨a.heap.size,0,.none⟩) 0 0) (a.alloc (.cells #[] g)):=by obtain⟨y,z,E,D,B⟩:=A.hi;simp[Instr.buildSlice,gG A.ht,sizeOf,typeInfo,z,newRow,Instr.fill,Array.range_zero']
def aiY (R:fB c h g b bytes t)(Q:k.cells.size=b)(P:b<=65536)(a:O):(Instr.buildSlice h 1 #[(0,k)]).run c a=.ok (.slice (some ⟨a.heap.size,0,.none⟩) 1 1) (a.alloc (.cells k.cells g)):=by
 obtain⟨A,T,X,L,hb⟩:=R.hi;have h0:=R.GR;have S:¬16777216<A.size:=by omega
 have B:∀(y:C M)(n:Nat)(z:Array M),n+y.length<=z.size->
  (y.zipIdx n).foldl (λH (l:M×Nat)=>H.setIfInBounds (0+l.2) l.1) z=(z.toList.take n++y++z.toList.drop (n+y.length)).toArray:=by
  intro y
  induction y with
  |nil=>intro n z _;apply lS;simp
  |cons G y ih=>
   intro n z W;simp only[List.zipIdx_cons,oZ,dU];simp only[eE]at W;have:=ih (n+1) (z.setIfInBounds n G) (by simp only[Array.size_setIfInBounds];omega);simp only[dU]at this;rw[this];apply lS;simp only[Array.toList_setIfInBounds,eE];have K:n<z.toList.length:=by simp only[tF];omega
   rw[List.take_succ_eq_append_getElem (by simpa using K),List.take_set_of_le (dT _),List.drop_set_of_lt (by omega),List.getElem_set_self,show n+1+y.length=n+(y.length+1)from by omega];simp
 have D:(k.cells.zipIdx.foldl (λH (l:M×Nat)=>H.setIfInBounds (0+l.2) l.1) ((Array.range (1*A.size)).map (t.cells[· % t.cells.size]!)))=k.cells:=by have E:=B k.cells.toList 0 ((Array.range (1*A.size)).map (t.cells[· % t.cells.size]!)) (by simp only[tF,Array.size_map,Array.size_range];omega);rw[<-Array.foldl_toList,Array.toList_zipIdx,E];apply lS;simp only[A8,kF];rw[AR (by simp;omega)];simp
 simp only[xJ]at D;simp[Instr.buildSlice,gG R.ht,sizeOf,typeInfo,T,newRow,Instr.fill,zeroValue,X,Q,L];rw[cJ (by omega),cJ (by omega)];simp only[dU,Array.size_zipIdx,Q,L]at D;rw[D]
def tX (B:fB c h g b bytes t):eG c o e d (.buildSlice h 0 #[]) j i f a (λz A=>∃y,z=.slice (some ⟨y,0,.none⟩) 0 0/\A=row (.slice (some ⟨y,0,.none⟩) 0 0) g b 0 []::f):=vg (parts:=[]) (G:=[]) (D:=[]) rfl (λa=>aiX B a) (by simp) (by simp only[maxLen];omega)
def Kf {z:C M}(K:fB c h g b bytes t)(H:ev i l=some k)(D:k.cells=z.toArray)(G:z.length=b)(B:b<=65536):eG c o e d (.buildSlice h 1 #[(0,l)]) j i f a (λA E=>∃y,A=.slice (some ⟨y,0,.none⟩) 1 1/\E=row (.slice (some ⟨y,0,.none⟩) 1 1) g b 1 z::f):=vg (parts:=[(0,l)]) (G:=[(0,k)]) (D:=z) (by simp[wN,H]) (λa=>by rw[<-D];exact aiY K (by simp[D,G]) B a) (by omega) (by simp only[maxLen];omega)
def cI.Cm (y:cI e d f a)(g b:Nat):cI e d (row (.slice .none 0 0) g b 0 []::f) a:=⟨y.1,⟨World.ownsRow_nil a 0 g b,by intro n z;simp[row,Value.ownBlock]at z,by intro A B n z;simp[row,Value.ownBlock]at z⟩,y.2⟩
def M6 {B:Array Oper}{y:C Oper}{G:fJ}(g b:Nat)(A:WL c o e d B G y i (row (.slice .none 0 0) g b 0 []::f) a):WL c o e d B G y i f a:=λz D E=>A z D (E.Cm g b)
def gh {p:Code}{D E:fJ}{G:Nat->fJ}(g b:Nat)(z:W c o e d p D E G i (row (.slice .none 0 0) g b 0 []::f) a):W c o e d p D E G i f a:=λy A B=>z y A (B.Cm g b)
def qy {B:C M}{y:Nat}(hx:ev i l=some (.int .i64 y))(hy:ev i q=some (.int .i64 y))(T:fB c h g b bytes t)(hb:bytes*y<=281474976710656)(ae:y<=281474976710656)(L:B=(madeCells t.cells (y*b)).toList):eG c o e d (.makeSlice h l q) j i f a (λH ab=>∃A,H=.slice (some ⟨A,0,.none⟩) y y/\ab=row (.slice (some ⟨A,0,.none⟩) y y) g b y B::f):=λG D K Q ad h2 S hh hk=>by
 obtain⟨z,hi,hz,hs,X⟩:=T.hi;have W:(z.bytes:Int)*(y:Int)<=281474976710656:=by
  have E:((z.bytes*y:Nat):Int)<=281474976710656:=by rw[X];omega
  rwa [nH]at E
 have P:=run_make (P:=c) a h g z t T.ht hi hz .i64 .i64 (y:Int) (y:Int) (by omega) (by omega) W (by omega);simp only[yU]at P;have hm:y<=maxLen:=by simp only[maxLen];omega
 have R:B.length=y*b:=by rw[L,tF];simp only[madeCells,Array.size_map,Array.size_range]
 unfold Oper.wp;have:(execOp D.eval G).run c a=.ok (.value (.slice (some ⟨a.heap.size,0,.none⟩) y y)) (a.alloc (.cells B.toArray g)):=by simp only[execOp,ad,S.eval hx,S.eval hy,ke,P,j8,ku,L,hs]
 rw[this,kt];exact hk _ _ _ ⟨_,rfl,rfl⟩ (SW R hm (hh.alloc B g))
def str (y:C Nat):U:=⟨(y.map UInt8.ofNat).toArray⟩
def aiW {a:O}{W:M}{D:C Nat}(X:Rd a cW 1 W D.length (D.map λy:Nat=>Value.int .u8 (y:Int))):(Conv.bytesToString W).run c a=.ok (.string (str D)) a:=by
 obtain⟨A,p,rfl,hl,hc,S⟩:=X;cases A with
 |none=>
  have:D=[]:=by
   rcases S with z|⟨y,Q,z,_⟩
   .exact ll z
   .cases z
  subst this;rfl
 |some R=>
  have H:(loadCells R D.length).run c a=.ok ((D.map λy:Nat=>(y:Int)).map (Value.int .u8)).toArray a:=by
   rcases S with z|⟨y,Q,z,_,_,G⟩
   .have:D=[]:=ll z;subst this;rfl
   .injection z with z;subst z;have:=Ex (c:=c) a y (D.map λy:Nat=>Value.int .u8 (y:Int)) Q 0 #[] (λK L P=>by simpa using G K L P);simp only[dL]at this;unfold loadCells;rw[this];simp[CS]
  rw[run_bytesToString a R D.length p _ H];congr 2;have T:∀(B:C Nat)(E:U),(B.map λy:Nat=>(y:Int)).foldl (λs o=>s.push (UInt8.ofNat o.toNat)) E=⟨(E.data.toList++B.map UInt8.ofNat).toArray⟩:=by
   intro B;induction B with
   |nil=>intro E;simp
   |cons y B ih=>intro E;simp only[dA,oZ,yU];rw[ih];simp[ByteArray.push]
  rw[T];simp[str]
def yd {src dst g:dk}{E:M}{A:C Nat}(T:ev i l=some E)(S:c.underlying src=some (.slice g))(R:c.underlying g=some (.int .u8))(Q:c.underlying dst=some .string)(D:∀a,cI e d f a->Rd a cW 1 E A.length (A.map λy:Nat=>Value.int .u8 (y:Int))):dp c o e d (.convert src dst l) j i f (.string (str A)):=λH G a K W L B=>by have z:=aiW (c:=c) (D a B);obtain⟨X,p,rfl,_⟩:=D a B;simp[execOp,K,L.eval T,convert,gG S,gG Q,gG R,z]
def HN {fn:Func}{A y K h:Nat}{B:C M}{z:TypeDesc}(G:Nat)(hl:fn.results=#[.cell A h])(hv:lk i A=some (.pointer (some ⟨y,0,.none⟩)))(D:Act)(X:Fr o i D)(hh:cI e d f a)(hd:c.underlying h=some z)(P:(match z with|.struct _|.array _ _=>true|_=>false)=true)(T:(c.info? h).map (·.size)=some B.length)(hi:f[G]? =some (cF y B K)):(results fn D.tmps).run c a=.ok (.agg B.toArray) a:=by
 obtain⟨H,hj,Q⟩:=nq.1 T;have L:(isAgg h).run c a=.ok true a:=by cases z<;>simp_all[isAgg,gG hd]
 have S:a.heap[y]? =some (.cells B.toArray K (0,0)):=hh.ok hi;have R:=Ex (c:=c) a y B 0 0 #[] (λH W hu=>by rw[tL a y _ B.toArray K (0,0) S];simpa using hu);have hg:=X.get A _ hv;have E:(loadVar h ⟨y,0,.none⟩).run c a=.ok (.agg B.toArray) a:=by simp[loadVar,L,sizeOf,typeInfo,hj,Q,loadCells,R]
 simp[results,hl,hg,asAddr,E]
def HT (a:O)(y D:Nat)(A:C M)(H:a.heap[y]? =some (.cells A.toArray D (0,0)))(z:Nat)(B:C M)(Q:z+B.length<=A.length)(K:∀E∈B,E.oneCell'=true):∃G,(storeCells ⟨y,z,.none⟩ B).run c a=.ok () G/\G.heap[y]? =some (.cells (A.take z++B++A.drop (z+B.length)).toArray D (0,0))/\a.grownBy G (some y):=by
 have:=run_storeCells_at c y z D B 0 A.toArray a H (by simpa using Q) K;simp only[tJ]at this;refine⟨_,this,?_,?_⟩
 .rw[setRow_heap a y A.toArray _ D _ H]
 .exact⟨rfl,rfl,rfl,by simp,λn _ L=>setRow_other a y n _ (λg=>L (by simp[g]))⟩
def D0 {a z:O}{row:cG Nat}{E:Nat->Prop}(y:a.grownBy z row)(A:∀n,row=some n->E n):lR E a z:=⟨y.os,y.tape,y.output,y.size,λn B D=>y.block n B λg=>D (A n g.symm)⟩
def ajT {G:Type}(z A:C G)(y B:Nat)(D:y+A.length<=B)(H:B<=z.length):(z.take y++A++z.drop (y+A.length)).take B=(z.take B).take y++A++(z.take B).drop (y+A.length):=by
 have E:(z.take y++A).length=y+A.length:=by simp only[cX,eD];omega
 rw[xE,E,gS (by omega),xF,o5 (by omega),List.drop_take]
def DK {y A E:Nat}{D G B:C M}(m r:C V)(hx:ev i l=some (.pointer (some ⟨y,A,.none⟩)))(hy:ev i q=some k)(hv:k.cells=B.toArray)(hs:(c.info? h).map (·.size)=some B.length)(h1:∀S∈B,S.oneCell'=true)(hl:A+B.length<=D.length)(ad:D.take A++B++D.drop (A+B.length)=G)(hH:f=m++cF y D E::r):eG c o e d (.store h l q) j i f a (λ_ H'=>H'=m++cF y G E::r):=λR H K Q af ai P hh T=>by
 subst hH;obtain⟨L,hj,ae⟩:=nq.1 hs;have ag:a.heap[y]? =some (.cells D.toArray E (0,0)):=(hh.2.mem (cF y D E) (by simp)).1;obtain⟨X,W,ab,hg⟩:=HT (c:=c) a y E D ag A B hl h1;have ah:B.length=L.size:=ae.symm;unfold Oper.wp;have:(execOp H.eval R).run c a=.ok .skip X:=by simp[execOp,af,P.eval hx,P.eval hy,Instr.storeAt,Instr.sureAddr,storeVar,hv,sizeOf,typeInfo,hj,ah,W]
 rw[this,Oper.upon_skip];refine T undef _ X rfl (hh.change (k:=cF y G E) (D0 hg (by rintro n z;injection z with z;exact z.symm)) ?_ (λn T=>.inl T));show X.heap[y]? =some (.cells G.toArray E (0,0));rw[ab,ad]
def DL {z cap y A:Nat}{L H D:C M}(m r:C V)(hx:ev i l=some (.pointer (some ⟨z,A,.none⟩)))(hy:ev i q=some k)(hv:k.cells=D.toArray)(hs:(c.info? h).map (·.size)=some D.length)(h1:∀ab∈D,ab.oneCell'=true)(hl:A+D.length<=L.length)(ad:L.take A++D++L.drop (A+D.length)=H)(hH:f=m++row (.slice (some ⟨z,0,.none⟩) y cap) g b y L::r):eG c o e d (.store h l q) j i f a (λ_ H'=>H'=m++row (.slice (some ⟨z,0,.none⟩) y cap) g b y H::r):=λP W K Q ap av ha hh hk=>by
 subst hH;obtain⟨X,hj,am⟩:=nq.1 hs;have ae:a.ownsRow 0 g b (.slice (some ⟨z,0,.none⟩) y cap) y L:=(hh.2.mem (row (.slice (some ⟨z,0,.none⟩) y cap) g b y L) (by simp)).1;rcases ae.2 with⟨B,_⟩|⟨g',ar,E,B,_,hg,S,ak,R,T⟩
 .cases B
 injection B with G _ af;injection G with G;injection G with G _ _;subst G;subst af;have au:=ae.1;have ag:a.heap[z]? =some (.cells E.toList.toArray g (0,0)):=by simpa using hg
 have ah:A+D.length<=E.size:=by have:=j7 b S;omega
 have ao:A+D.length<=E.toList.length:=by simpa using ah
 obtain⟨w',ai,aj,al⟩:=HT (c:=c) a z g E.toList ag A D ao h1;have aq:D.length=X.size:=am.symm;unfold Oper.wp;have:(execOp W.eval P).run c a=.ok .skip w':=by simp[execOp,ap,ha.eval hx,ha.eval hy,Instr.storeAt,Instr.sureAddr,storeVar,hv,sizeOf,typeInfo,hj,aq,ai]
 rw[this,Oper.upon_skip];refine hk undef _ w' rfl (hh.change (k:=row (.slice (some ⟨z,0,.none⟩) y cap) g b y H) (D0 al (by rintro n B;simp only[row,Value.ownBlock];exact B)) ?_ (λn hk=>.inl hk));have an:H.length=y*b:=by rw[<-ad];simp only[cX,eD,iz];omega
 refine⟨an,.inr ⟨z,cap,_,rfl,gK _,aj,S,ak,?_,?_⟩⟩
 .have g:(E.toList.take A++D++E.toList.drop (A+D.length)).length=E.size:=by simp only[cX,eD,iz,tF];omega
  rw[C5,g,R]
 .rw[ajT E.toList D A (y*b) (by omega) (by simp only[tF,R];exact j7 b S),T,ad]
def DC {y p:Nat}{G z:C M}{X:M}(m r:C V)(T:fB c h g b bytes t)(hx:ev i l=some k)(hy:ev i q=some X)(hH:f=m++row k g b y G::r)(hr:∀a,cI e d f a->Rd a cW b X p z)(h1:∀B∈z,B.oneCell'=true)(H:(y+p)*bytes<=140737488355328)(ab:y+p<=140737488355328):eG c o e d (.call {callee:=.builtin .append,args:=#[l,q],argTypes:=#[h,h]}) j i f a (λB H'=>H'=m++row B g b (y+p) (G++z)::r):=λE L K Q ae ag ad R D=>by
 subst hH;have af:a.ownsRow 0 g b k y G:=(R.2.mem (row k g b y G) (by simp)).1;obtain⟨W,w',S,P,h3,h4⟩:=aiU T E.type 0 k y G af X p z (hr a R) h1 H ab (gK _);unfold Oper.wp;have:(execOp L.eval E).run c a=.ok (.value W) w':=by simp only[execOp,ae,resolve,invoke,builtin,ke,ku,j8,List.map_toArray,dA,kD,ad.eval hx,ad.eval hy,S]
 rw[this,kt];exact D W _ w' rfl (R.change (k:=row W g b (y+p) (G++z)) (D0 h3 (λn A=>A)) P (λn D=>Sg P (h4.imp id λA n D=>by rw[A]at D;injection D with D;omega) n D))
def aiV {a:O}{z:dk}(T:fB c h g 1 1 (.int .u8 0))(hu:c.underlying z=some .string)(j:dk)(k:M)(A:Nat)(H:C M)(E:a.ownsRow 0 g 1 k A H)(y:U)(aj:A+y.size<=140737488355328):∃L R,(Builtin.append_ #[h,z] j #[k,.string y]).run c a=.ok L R/\R.ownsRow 0 g 1 L (A+y.size) (H++Lib.strCells y)/\a.grownBy R k.ownBlock/\(L.ownBlock=k.ownBlock\/∀n,L.ownBlock=some n->a.heap.size<=n):=by
 obtain⟨D,X,hz,hs,Q⟩:=T.hi;obtain⟨L,R,W,h2,h3,_⟩:=Lib.run_append_own_string (P:=c) a 0 h z j g D T.ht hu X hz hs Q k A H E y (by simp only[maxLen];omega) (by omega) (gK _);refine⟨L,R,W,h2,h3,?_⟩;rcases E.2 with⟨rfl,rfl⟩|⟨B,cap,ad,rfl,ak,hg,am,al,af,ah⟩
 .have hx:H=[]:=ll (by simpa using E.1);subst hx;obtain⟨v2,w2,S,g2,g3,_⟩:=Lib.run_append_own_string (P:=c) a a.heap.size h z j g D T.ht hu X hz hs Q (.slice .none 0 0) 0 [] (World.ownsRow_nil a _ g 1) y (by simp only[maxLen];omega) (by omega) (dT _);rw[W]at S;injection S with S ae;subst S;subst ae;exact .inr λn hk=>(g2.lt n hk).1
 .by_cases ab:A+y.size<=cap
  .have ai:ad.size=cap:=by simpa using af
   have G:=Lib.run_append_room_string (P:=c) a h z j g D T.ht hu X hs B A cap ad hg y ab (by omega);rw[W]at G;injection G with G _;subst G;exact .inl rfl
  .have ag:H.length=A:=by simpa using E.1
   have P:∀K z,H[K]? =some z->a.cell? ((⟨B,0,.none⟩:Addr).add K)=some z:=E.cells (g:=B) rfl;have G:=Lib.run_append_grow_string (P:=c) a h z j g D (.int .u8 0) T.ht hu X hz ⟨B,0,.none⟩ A cap H (by rw[hs];simpa using ag) P y (by omega) (by omega) (by rw[Q];exact growslice_fits (by omega) (by omega));rw[W]at G;injection G with G _;subst G;exact .inr λn hk=>by simp only[Value.ownBlock,ln]at hk;omega
def Gh {y:Nat}{B:dk}{D:C M}{z:U}(m r:C V)(T:fB c h g 1 1 (.int .u8 0))(hu:c.underlying B=some .string)(hx:ev i l=some k)(hy:ev i q=some (.string z))(hH:f=m++row k g 1 y D::r)(W:y+z.size<=140737488355328):eG c o e d (.call {callee:=.builtin .append,args:=#[l,q],argTypes:=#[h,B]}) j i f a (λs H'=>H'=m++row s g 1 (y+z.size) (D++Lib.strCells z)::r):=λA E K Q ab ae X P H=>by
 subst hH;have ad:a.ownsRow 0 g 1 k y D:=(P.2.mem (row k g 1 y D) (by simp)).1;obtain⟨R,w',L,S,h3,h4⟩:=aiV T hu A.type k y D ad z W;unfold Oper.wp;have:(execOp E.eval A).run c a=.ok (.value R) w':=by simp only[execOp,ab,resolve,invoke,builtin,ke,ku,j8,List.map_toArray,dA,kD,X.eval hx,X.eval hy,L]
 rw[this,kt];exact H R _ w' rfl (P.change (k:=row R g 1 (y+z.size) (D++Lib.strCells z)) (D0 h3 (λn G=>G)) S (λn H=>Sg S h4 n H))
def DD {y p:Nat}{D A:C M}{G:M}(S:fB c h g b bytes t)(Q:ev i l=some k)(R:ev i q=some G)(L:∀a,cI e d (row k g b y D::f) a->Rd a cW b G p A)(K:∀z∈A,z.oneCell'=true)(B:(y+p)*bytes<=140737488355328)(E:y+p<=140737488355328):eG c o e d (.call {callee:=.builtin .append,args:=#[l,q],argTypes:=#[h,h]}) j i (row k g b y D::f) a (λz H=>H=row z g b (y+p) (D++A)::f):=DC [] f S Q R rfl L K B E
def aam {z cap y A:Nat}{D G B:C M}(T:ev i l=some (.pointer (some ⟨z,A,.none⟩)))(W:ev i q=some k)(S:k.cells=B.toArray)(R:(c.info? h).map (·.size)=some B.length)(L:∀E∈B,E.oneCell'=true)(Q:A+B.length<=D.length)(H:D.take A++B++D.drop (A+B.length)=G):eG c o e d (.store h l q) j i (row (.slice (some ⟨z,0,.none⟩) y cap) g b y D::f) a (λ_ K=>K=row (.slice (some ⟨z,0,.none⟩) y cap) g b y G::f):=DL [] f T W S R L Q H rfl
def DE {D:V}{y p:Nat}{E A:C M}{H:M}(T:fB c h g b bytes t)(R:ev i l=some k)(S:ev i q=some H)(Q:∀a,cI e d (D::row k g b y E::f) a->Rd a cW b H p A)(L:∀z∈A,z.oneCell'=true)(B:(y+p)*bytes<=140737488355328)(G:y+p<=140737488355328):eG c o e d (.call {callee:=.builtin .append,args:=#[l,q],argTypes:=#[h,h]}) j i (D::row k g b y E::f) a (λz K=>K=D::row z g b (y+p) (E++A)::f):=DC [D] f T R S rfl Q L B G
def BH {B:V}{z:Nat}{A:dk}{E:C M}{y:U}(Q:fB c h g 1 1 (.int .u8 0))(H:c.underlying A=some .string)(K:ev i l=some k)(L:ev i q=some (.string y))(D:z+y.size<=140737488355328):eG c o e d (.call {callee:=.builtin .append,args:=#[l,q],argTypes:=#[h,A]}) j i (B::row k g 1 z E::f) a (λs G=>G=B::row s g 1 (z+y.size) (E++Lib.strCells y)::f):=Gh [B] f Q H K L rfl D
def BE {D E:V}{y p:Nat}{G A:C M}{K:M}(W:fB c h g b bytes t)(S:ev i l=some k)(T:ev i q=some K)(R:∀a,cI e d (D::E::row k g b y G::f) a->Rd a cW b K p A)(Q:∀z∈A,z.oneCell'=true)(B:(y+p)*bytes<=140737488355328)(H:y+p<=140737488355328):eG c o e d (.call {callee:=.builtin .append,args:=#[l,q],argTypes:=#[h,h]}) j i (D::E::row k g b y G::f) a (λz L=>L=D::E::row z g b (y+p) (G++A)::f):=DC [D,E] f W S T rfl R Q B H
def O8 {E G:V}{H y L:Nat}{A D z:C M}(X:ev i l=some (.pointer (some ⟨H,y,.none⟩)))(hy:ev i q=some k)(W:k.cells=z.toArray)(T:(c.info? h).map (·.size)=some z.length)(R:∀B∈z,B.oneCell'=true)(S:Nat.ble (y+z.length) A.length=true)(K:A.take y++z++A.drop (y+z.length)=D):eG c o e d (.store h l q) j i (E::G::cF H A L::f) a (λ_ Q=>Q=E::G::cF H D L::f):=DK [E,G] f X hy W T R (qs S) K rfl
def Kd {D E G:V}{y p:Nat}{H A:C M}{L:M}(X:fB c h g b bytes t)(T:ev i l=some k)(W:ev i q=some L)(S:∀a,cI e d (D::E::G::row k g b y H::f) a->Rd a cW b L p A)(R:∀z∈A,z.oneCell'=true)(B:(y+p)*bytes<=140737488355328)(K:y+p<=140737488355328):eG c o e d (.call {callee:=.builtin .append,args:=#[l,q],argTypes:=#[h,h]}) j i (D::E::G::row k g b y H::f) a (λz Q=>Q=D::E::G::row z g b (y+p) (H++A)::f):=DC [D,E,G] f X T W rfl S R B K
def O9 {E G H:V}{K y Q:Nat}{A D z:C M}(hx:ev i l=some (.pointer (some ⟨K,y,.none⟩)))(hy:ev i q=some k)(X:k.cells=z.toArray)(W:(c.info? h).map (·.size)=some z.length)(S:∀B∈z,B.oneCell'=true)(T:Nat.ble (y+z.length) A.length=true)(L:A.take y++z++A.drop (y+z.length)=D):eG c o e d (.store h l q) j i (E::G::H::cF K A Q::f) a (λ_ R=>R=E::G::H::cF K D Q::f):=DK [E,G,H] f hx hy X W S (qs T) L rfl
def q7 {p:fj}{first y:Array M}{z:fR}{fn:Func}{P:C fj}{H:C M}{ts:Array dk}{Φ:M->C V->Prop}(B Hr:C V)(ah:ev i p=some (.func (.func z) first y))(hx:mB i P=some H)(hf:c.funcs[z]? =some fn)(hb:(fn.body.isNone,fn.name== "runtime.NumGoroutine")=(false,false))(hH:f.Perm (B++Hr))(hc:∀a,cI e d f a->cI a (gO B) B a->fz c z (first.toList++H++y.toList) a (gO B) Φ):eG c o e d (.call {callee:=.value p,args:=P.toArray,argTypes:=ts}) j i f a (λk H'=>∃m,H'=m++Hr/\Φ k m):=λS E K Q aj al ha hh G=>by
 have L:(P.toArray.map E.eval)=H.toArray:=by apply lS;simpa using ha.wM _ hx
 have af:∀args:Array M,(callFunc z args).run c a=.ok (.enter z args) a:=λargs=>by injection hb with ad ae;simp only[callFunc,ke,Dd,j8,hf,ad,ae,vW,r7,ku]
 have X:(execOp E.eval S).run c a=.ok (.enter z (first.toList++H++y.toList).toArray) a:=by
  have g:(first.toList++H++y.toList).toArray=first++H.toArray++y:=by apply lS;simp
  simp only[execOp,aj,resolve,ha.eval ah,Deferred.ofValue,invoke,L,ke,ku,j8,af,g]
 have D:=hh.perm hH;have R:cI a (gO B) B a:=by
  refine⟨lR.refl _ _,?_⟩;have ag:=(Hs.append.1 D.2).1;have ak:∀ab:C V,Hs e d ab a->(∀s∈ab,∀n,s.fq n->gO B n)->Hs a (gO B) ab a:=by
   intro ab;induction ab with
   |nil=>exact λ_ _=>trivial
   |cons s ab ih=>exact λA W=>⟨⟨A.1.1,λn G=>⟨(A.1.2.1 n G).1,.inr (W s (dQ ..) n G)⟩,A.1.2.2⟩,ih A.2 λT hs=>W T (dN _ hs)⟩
  exact ak B ag λs hr n G=>⟨s,hr,G⟩
 unfold Oper.wp;rw[X,Oper.upon_enter];refine nY (hc a hh R) ?_;rintro e' w' ⟨k,m,rfl,ai,hp⟩;exact G k _ w' ⟨m,rfl,hp⟩ (D.call ai)
def Ke {y:fR}{fn:Func}{D:C fj}{B:C M}{S:Array dk}{E:M->C V->Prop}(z A:C V)(R:mB i D=some B)(Q:c.funcs[y]? =some fn)(K:(fn.body.isNone,fn.name== "runtime.NumGoroutine")=(false,false))(H:f.Perm (z++A))(L:∀a,cI e d f a->cI a (gO z) z a->fz c y B a (gO z) E):eG c o e d (.call {callee:=.value (.func y),args:=D.toArray,argTypes:=S}) j i f a (λk G=>∃m,G=m++A/\E k m):=q7 (p:=.func y) (first:=#[]) (y:=#[]) z A rfl R Q K H (by simpa using L)
def PM {y:fR}{fn:Func}{g:Array M->Sem M}{G:C fj}{B:C M}{ts:Array dk}{k:M}(X:mB i G=some B)(S:c.funcs[y]? =some fn)(A:(fn.name== "runtime.NumGoroutine")=false)(Q:fn.body.isNone=true)(T:Extern.findNext fn=none)(R:Extern.find fn=some g)(W:∀a,(g B.toArray).run c a=.ok k a):dp c o e d (.call {callee:=.value (.func y),args:=G.toArray,argTypes:=ts}) j i f k:=λK D a H P L hh=>by
 have z:(G.toArray.map D.eval)=B.toArray:=by apply lS;simpa using L.wM _ X
 have E:=run_callFunc_extern S A Q T R B.toArray a;rw[W,j8]at E;simp only[execOp,H,resolve,Act.eval,Deferred.ofValue,invoke,z,ke,ku,j8,IX,E4,E]
def so:gO []=cW:=by funext n;simp[gO,cW]
def DG {y:fR}{fn:Func}{A:C fj}{z:C M}{Q:Array dk}{B:M->C V->Prop}(L:mB i A=some z)(H:c.funcs[y]? =some fn)(E:(fn.body.isNone,fn.name== "runtime.NumGoroutine")=(false,false))(G:∀a,cI e d f a->fz c y z a cW B):eG c o e d (.call {callee:=.value (.func y),args:=A.toArray,argTypes:=Q}) j i f a (λk D=>∃m,D=m++f/\B k m):=Ke [] f L H E (cD _) λa K _=>by rw[so];exact G a K
def ud (s:V):gO [s]=s.fq:=by funext n;simp[gO]
def nu {y:fR}{fn:Func}{D:C fj}{B:C M}{T:Array dk}{E:M->C V->Prop}(s:V)(z:C V)(S:mB i D=some B)(Q:c.funcs[y]? =some fn)(K:(fn.body.isNone,fn.name== "runtime.NumGoroutine")=(false,false))(H:f.Perm (s::z))(L:∀a,cI e d f a->cI a s.fq [s] a->fz c y B a s.fq E):eG c o e d (.call {callee:=.value (.func y),args:=D.toArray,argTypes:=T}) j i f a (λk G=>∃m,G=m++z/\E k m):=Ke [s] z S Q K H λa R A=>by rw[ud]at A|-;exact L a R A
end
def Rd.fg {d l:O}{a:Nat->Prop}{i b:C V}{h:V}{c j:Nat}{k:M}{e:C M}(m:Rd d a c k j e)(f:cI d a i l)(g:i.Perm (h::b)):Rd l h.fq c k j e:=by
 have:=m.rJ f (Hc:=[h]) (Hr:=b) g
 rwa [ud]at this
def Rd.D5 {i m:O}{d:Nat->Prop}{j a:C V}{h:V}{n b k:Nat}{l:M}{c:C M}(e:cI i d j m)(f:j.Perm (h::a))(g:row l n b k c∈a):Rd m h.fq b l k c:=by
 have:=Rd.held e (Hc:=[h]) (Hr:=a) f g
 rwa [ud]at this
def fs {j o:O}{e:Nat->Prop}{k:C V}{m b d:Nat}{i:M}{c:C M}(g:cI j e k o){q:Nat}(h:k[q]? =some (row i m b d c))(p:0<d:=by omega):∃f cap,i=.slice (some ⟨f,0,.none⟩) d cap:=by
 have a:o.ownsRow 0 m b i d c:=g.ok h;rcases a.2 with⟨_,n⟩|⟨f,cap,l,n,_⟩
 .omega
 .exact⟨f,cap,n⟩
def fS {j n:O}{d:Nat->Prop}{k:C V}{m b h:Nat}{i:M}{c:C M}(f:cI j d k n){p:Nat}(g:k[p]? =some (row i m b h c)):∃o cap,i=.slice o h cap:=by
 have a:n.ownsRow 0 m b i h c:=f.ok g;rcases a.2 with⟨e,rfl⟩|⟨q,cap,l,e,_⟩
 .exact⟨_,_,e⟩
 .exact⟨_,_,e⟩
def eG.vK {s:dX}{u:Nat}{e:O}{d:Nat->Prop}{f:Op}{g:dk}{t:dD}{r:C V}{v:O}{i j:M->C V->Prop}(z:eG s u e d f g t r v i)(o:∀h a b,i h a->cI e d a b->j h a):eG s u e d f g t r v j:=λA y w x k l m n p=>z A y w x k l m n λh a b q c=>p h a b (o h a b q c) c
section
variable{k:dX}{n:Nat}{c:O}{b:Nat->Prop}{h:dD}{g:C V}{f:O}{j:dk}{l m:fj}{e:M}{i d a bytes:Nat}{o:M}
def BG {p q:Nat}{t r:C M}{x:M}(H:fB k i d a bytes o)(D:ev h l=some e)(E:ev h m=some x)(B:∀f,cI c b (row e d a p t::g) f->Rd f cW a x q r)(z:∀y∈r,y.oneCell'=true)(s:(p+q)*bytes<=140737488355328)(v:p+q<=140737488355328):eG k n c b (.call {callee:=.builtin .append,args:=#[l,m],argTypes:=#[i,i]}) j h (row e d a p t::g) f (λy u=>(∃G cap,y=.slice G (p+q) cap)/\u=row y d a (p+q) (t++r)::g):=(DD H D E B z s v).vK λe u K w A=>⟨by subst w;exact fS A (p:=0) rfl,w⟩
def O3 {t:V}{p q:Nat}{u r:C M}{y:M}(K:fB k i d a bytes o)(E:ev h l=some e)(G:ev h m=some y)(D:∀f,cI c b (t::row e d a p u::g) f->Rd f cW a y q r)(A:∀z∈r,z.oneCell'=true)(s:(p+q)*bytes<=140737488355328)(w:p+q<=140737488355328):eG k n c b (.call {callee:=.builtin .append,args:=#[l,m],argTypes:=#[i,i]}) j h (t::row e d a p u::g) f (λz v=>(∃H cap,z=.slice H (p+q) cap)/\v=t::row z d a (p+q) (u++r)::g):=(DE K E G D A s w).vK λe v L x B=>⟨by subst x;exact fS B (p:=1) rfl,x⟩
def aaa {t u v:V}{p q:Nat}{w r:C M}{A:M}(Q:fB k i d a bytes o)(H:ev h l=some e)(K:ev h m=some A)(G:∀f,cI c b (t::u::v::row e d a p w::g) f->Rd f cW a A q r)(D:∀B∈r,B.oneCell'=true)(s:(p+q)*bytes<=140737488355328)(y:p+q<=140737488355328):eG k n c b (.call {callee:=.builtin .append,args:=#[l,m],argTypes:=#[i,i]}) j h (t::u::v::row e d a p w::g) f (λB x=>(∃L cap,B=.slice L (p+q) cap)/\x=t::u::v::row B d a (p+q) (w++r)::g):=(Kd Q H K G D s y).vK λe x R z E=>⟨by subst z;exact fS E (p:=3) rfl,z⟩
end
def mL (a:C Nat):(str a).size=a.length:=by show(str a).data.size=_;simp[str]
section
variable{c:dX}{l:Nat}{f:O}{b:Nat->Prop}{d:dD}{j:C V}{e a:dk}{h i:fj}{k:IntKind}{g:Int}
def PO (q:Nat){p m n o len:Nat}(D:ev d h=some (.pointer (some ⟨n,o,.none⟩)))(E:ev d i=some (.int k g))(B:c.underlying a=some (.array len p))(A:(c.info? p).map (·.size)=some q)(y:g=(m:Nat))(u:m<len):dp c l f b (.indexAddr a h i) e d j (.pointer (some ⟨n,o+m*q,.none⟩)):=λK v L x G s H=>by
 subst y;obtain⟨w,z,t⟩:=nq.1 A;have r:(⟨n,o,.none⟩:Addr).add (m*q)=⟨n,o+m*q,.none⟩:=by unfold Addr.add;split<;>simp_all
 simp[execOp,x,s.eval D,s.eval E,Instr.indexAt,Instr.sureAddr,asIntOf,gG B,u,sizeOf,typeInfo,z,t,r]
end
end Go.Proofs.YtdlpoonfcdoiiaaGreat
