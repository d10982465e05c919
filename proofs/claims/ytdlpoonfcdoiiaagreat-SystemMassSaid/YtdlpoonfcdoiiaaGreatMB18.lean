/- What the code does, step by step, and plain facts: part 18. They have no conditions. -/
import Derived.Test.YtdlpoonfcdoiiaaGreatMB4
namespace Go.Proofs.YtdlpoonfcdoiiaaGreat
open Go.RowKit Go.Proofs.Tryz
set_option maxHeartbeats 40000000
set_option linter.all false
section
def lR.below {a e:O}(d:lR cW a e):Below a.heap.size a e:=⟨d.os,d.tape,d.output,d.size,λg f=>d.block g f id⟩
open Go.RowKit Go.WideShapes Go.ChangeShapes
section
variable{c:Type}(enc:dk×M->c)(b:dX)(a:O)
def sU:C dk->C M->Prop
 |[],[]=>True
 |f::d,g::e=>qS enc b a f g/\sU d e
 |_,_=>False
variable{enc}{b}{a}
def pt {i:dk}{f:C dk}{d:C M}(h:sU enc b a (i::f) d):∃g e,d=g::e/\qS enc b a i g/\sU enc b a f e:=by
 cases d with
 |nil=>cases h
 |cons g d=>exact⟨g,d,rfl,h⟩
def Ep {d:C M}(e:sU enc b a [] d):d=[]:=by
 cases d with
 |nil=>rfl
 |cons f d=>cases e
end
section
variable{c:Type}{enc:dk×M->c}
def QE {b:dX}{a:O}:∀{d:C dk}{e:C M}{f:C (DataW c)}{k:C MemPlace},
 (∀(n:Nat) o p,d[n]? =some o->e[n]? =some p->∃g,Value.okWide b a .any g o p)->DataW.TrodAll enc b a 0 (λ_=>true) true d e f k->(∀m∈DataW.weightsEach b d f,m<=reachBytes)->sU enc b a d e
 |[],e,f,k,_,i,_=>by obtain⟨rfl,_,_⟩:=trodAll_nil i;trivial
 |o::d,e,f,k,l,i,j=>by obtain⟨p,x,y,w,z,A,rfl,rfl,rfl,⟨h,s⟩,t⟩:=trodAll_cons i;rw[DataW.weightsEach]at j;exact⟨⟨l 0 o p rfl rfl,h,y,z,s,λm i=>j m (gI _ i)⟩,QE (λn u v q r=>l (n+1) u v (by simpa using q) (by simpa using r)) t λm i=>j m (iA _ i)⟩
def QP {b:dX}(n:laidOutB b=true){W l:O}(m:Below W.heap.size W l){q:Nat->Bool}:∀{h:C dk}{i:C M}{g:C (DataW c)}{e:C MemPlace},
 (∀k∈h,b.readableRec k=true/\k<b.types.size)->DataW.TrodAll enc b W 0 (λ_=>true) true h i g e->(∀f∈e,f.block<W.heap.size)->(∀f∈e,q f.block=true)->DataW.TrodAll enc b l 0 q true h i g e
 |[],i,g,e,_,r,_,_=>by obtain⟨rfl,rfl,rfl⟩:=trodAll_nil r;rfl
 |k::h,i,g,e,o,r,j,p=>by obtain⟨D,y,B,x,z,A,rfl,rfl,rfl,s,t⟩:=trodAll_cons r;obtain⟨v,w⟩:=o k (dQ ..);exact⟨z,A,WideElems.Trod_stays n v w s (λf d=>m.same (j f (gI _ d))) (λf d=>p f (gI _ d)),QP n m (λk u=>o k (dN _ u)) t (λf d=>j f (iA _ d)) (λf d=>p f (iA _ d)),rfl⟩
def Eb {f:Checked}{H:Os}{R:fR}{fn:Func}{S:ChangeSpec}{fresh l:Bool}{tb:dk}(own:ownKnob f.prog.godebug=none)(m:H.Started)(s:f.prog.inits.idxOf? R=none)(ad:f.prog.funcs[R]? =some fn)(n:∃(a:O)(i:Tape)(y:Input),a.os=H/\(a.forCall i y).Shaped f.prog/\y.vars=[]/\Input.okWide f.prog (a.forCall i y) .any a.heap.size R y/\S.pre6 enc f.prog fn [] false (a.forCall i y).memory y.args/\({}:Assume).holds f.prog (lone (Frame.enter f.prog R y.args .normal) [] (a.forCall i y)))(h:S.vars=[])(E:∀d:C (DataW c),d.length=fn.params.size->S.fn c d={results:=[.lit (.bool true)],args:=d})(hl:laidOutB f.prog=true)(hr:fn.params.toList.all (λL=>f.prog.readableRec L&&decide (L<f.prog.types.size))=true)(o:fn.resultTypes=#[tb])(af:f.prog.underlying tb=some .bool)(B:∀(W:O)(args:C M),sU enc f.prog W fn.params.toList args->fz f.prog R args W cW λr _=>r=.bool true):ReturnsInHanded {} f H R .any (S.pre6 enc f.prog fn [] false) (S.post enc f.prog fn false fresh l false):=by
 refine returnsInHanded_of_change_sized own m s ad n ?_;intro W A args d gs T G P _ x _;have u:=P;obtain⟨p,q,D,X,rfl,ah,ai⟩:=P;rw[h]at X;obtain⟨rfl,rfl⟩:=trodVars_none X;have ag:S.plain.varTypes f.prog=[]:=by simp[DataSpec.varTypes,ChangeSpec.plain,h]
 rw[ag,eN,eN]at x;have hP:sU enc f.prog W fn.params.toList args.toList:=QE (λj L v e1 e2=>⟨A,G j L v (by simpa using e1) (by simpa using e2)⟩) D λz k=>by have:=yW.1 x z k;simpa using this
 have w:∀z∈p,z.block<W.heap.size:=λz k=>u.lt z (gI _ k);have g:=B W args.toList hP;unfold fz at g;rw[show args.toList.toArray=args from rfl]at g;refine g.mono λe W' ⟨v,H1,he,hh,hv⟩=>⟨v,he,?_⟩;subst hv;have ab:Below W.heap.size W W':=hh.1.below;have fV:d.length=fn.params.size:=by
  have:∀{t:C dk}{Q:C M}{d:C (DataW c)}{K:C MemPlace},DataW.TrodAll enc f.prog W 0 (λ_=>true) true t Q d K->d.length=t.length:=by
   intro t;induction t with
   |nil=>intro Q d K B;obtain⟨_,rfl,_⟩:=trodAll_nil B;rfl
   |cons L t ih=>intro Q d K B;obtain⟨_,_,_,_,_,_,_,rfl,_,_,h2⟩:=trodAll_cons B;simp[ih h2]
  simpa using this D
 have ae:(Value.bool true).resultList fn.resultTypes.size=[.bool true]:=by rw[o];rfl
 refine⟨d,[],p++[],[],p,[],u,?_,?_,?_,?_,λB=>by cases B⟩
 .rw[eN,E d fV,ae,o];exact trodAll_mk1 (shut_bool af true)
 .rw[eN,E d fV];exact QP hl ab (λL ht=>by simpa only[iu,fU]using yW.1 hr L ht) D w λz k=>by simpa using w z k
 .rw[eN,E d fV,h];rfl
 .exact World.keptBut_mono (λz k=>⟨k,.inr (.inl (by simpa using k))⟩) (ab.frame (·∈p++[]))
end
end
def Tryz.own:ownKnob prog.godebug=none:=by kernel_rfl
def Tryz.laidOut:laidOutB prog=true:=by kernel_rfl
section
variable{b:Type}{enc:dk×M->b}{a:O}
def abZ {c:Int}(d:(Lit.int .i64 c).wf=true): -9223372036854775808<=c/\c<=9223372036854775807:=by simpa[Lit.wf,IntKind.min,IntKind.max,IntKind.signed,IntKind.bits]using d
def pr {l:M}(m:qS enc prog a 22 l):∃d e c,l=PA d (c:C Int).length e/\Rd a cW 1 (PA d c.length e) c.length (iv c)/\c.length*8<=140737488351232/\∀f∈c,-9223372036854775808<=f/\f<=9223372036854775807:=by obtain⟨d,e,c,g,h,i,_,j⟩:=Sh (bytes:=8) underlying22 underlying3 (by kernel_rfl) (by kernel_rfl) m;exact⟨d,e,c,g,h,i,λf k=>abZ (j f k)⟩
end
end Go.Proofs.YtdlpoonfcdoiiaaGreat
