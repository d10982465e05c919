/- What the code does, step by step, and plain facts: part 5. They have no conditions. -/
import Derived.Test.YtdlpoonfcdoiiaaGreatMB4
namespace Go.Proofs.YtdlpoonfcdoiiaaGreat
open Go.RowKit Go.Proofs.Tryz
set_option maxHeartbeats 40000000
set_option linter.all false
def zP {a:Int}{b:C Nat}(c:(!pf a b)=true):pf a b=false:=by simpa using c
def zK {a:Int}{b:C Nat}(c:¬(!pf a b)=true):pf a b=true:=by simpa using c
def vy {a:Type}(b c:C (Nat×a))(d:Nat)(e:a):c4 (b++(d,e)::c)=c4 b++d::c4 c:=by simp[c4]
def kN.next {b:Type}{j:Nat}{h f:C (Nat×b)}{g:Nat}{k:b}{a:C Bool}{c d:C Int}{e:C b}(i:kN j (h++(g,k)::f) a c d e):c[g]? =some (dC (-1) (c4 f)):=by have:=i.Hy;rw[vy]at this;exact Ni this
def kN.prev {b:Type}{j:Nat}{f h:C (Nat×b)}{g:Nat}{k:b}{a:C Bool}{d c:C Int}{e:C b}(i:kN j (f++(g,k)::h) a d c e):c[g]? =some (dC (-1) (c4 f).reverse):=by have:=i.HH;rw[vy,AZ,C1,dJ,nJ]at this;exact Ni this
def kN.at {b:Type}{k:Nat}{h i:C (Nat×b)}{g:Nat}{f:b}{a:C Bool}{d e:C Int}{c:C b}(j:kN k (h++(g,f)::i) a d e c):c[g]? =some f:=j.val (g,f) (by simp)
def kN.zn {b:Type}{j:Nat}{g h:C (Nat×b)}{f:Nat}{k:b}{a:C Bool}{c d:C Int}{e:C b}(i:kN j (g++(f,k)::h) a c d e):f<a.length:=i.lt f (by simp[c4])
def ab8 (i n:Nat)(j:C (Nat×_))(k:V)(o:O)(l:iZ fD i n j k)(m:Hl o k):Sr 382 [Z i] o k λr p=>r=F (dC (-1) (c4 j))/\p=[k]:=by obtain⟨f,b,d,g,a,c,e,h,rfl,q⟩:=l;refine dS func382 m ?_;refine eu (jE fD i n j f b d g a c e h) ?_;refine N [0] ?_;refine cL ?_;refine I (gB rfl rfl underlying452) ?_;refine cH [0,4] ?_;refine N [2] ?_;refine dG (d:=[]) (jE fD i n j f b d g a c e h) ?_;refine dP results382 ?_;exact⟨rfl,rfl⟩
def N1 (i n:Nat)(j:C (Nat×_))(k:V)(o:O)(l:iZ eT i n j k)(m:Hl o k):Sr 375 [Z i] o k λr p=>r=F (dC (-1) (c4 j))/\p=[k]:=by obtain⟨f,b,d,g,a,c,e,h,rfl,q⟩:=l;refine dS func375 m ?_;refine eu (jE eT i n j f b d g a c e h) ?_;refine N [0] ?_;refine cL ?_;refine I (gB rfl rfl underlying449) ?_;refine cH [0,4] ?_;refine N [2] ?_;refine dG (d:=[]) (jE eT i n j f b d g a c e h) ?_;refine dP results375 ?_;exact⟨rfl,rfl⟩
def acd (i n:Nat)(j:C (Nat×_))(k:V)(o:O)(l:iZ fD i n j k)(m:Hl o k):Sr 373 [Z i] o k λr p=>r=F ((j.length:Int))/\p=[k]:=by obtain⟨f,b,d,g,a,c,e,h,rfl,q⟩:=l;refine dS func373 m ?_;refine eu (jE fD i n j f b d g a c e h) ?_;refine N [0] ?_;refine cL ?_;refine I (gB rfl rfl underlying452) ?_;refine cH [0,4] ?_;refine N [2] ?_;refine dG (d:=[]) (jE fD i n j f b d g a c e h) ?_;refine dP results373 ?_;exact⟨rfl,rfl⟩
def N7 (q v:Nat)(r:C (Nat×_))(o:V)(a:Int)(s:O)(n:iZ eT q v r o)(e:Hl s o):Sr 376 [Z q,F a] s o λp Q=>Q=[o]/\∃G:Int,p=F G/\(pf a (c4 r)=false->G= -1)/\∀t g p h,r=t++(g,p)::h->a=(g:Nat)->G=dC (-1) (c4 h):=by
 refine dR func376 e ?_;refine Pw 0 func383 (λs d e=>Dp q v r o a s n e) ?_;rintro _ _ S ⟨rfl,rfl⟩;refine I (jl rfl rfl) ?_;refine fP (λb=>?_) λb=>?_
 .refine db results376 ?_;refine⟨rfl,-1,rfl,λ_=>rfl,λt g p h j k=>?_⟩;have:=zP b;rw[k,j,D9,vy]at this;simp at this
 .obtain⟨g,rfl,u⟩:=zI (zK b);obtain⟨t,p,h,rfl⟩:=Ab u;obtain⟨A,w,y,B,f,x,z,D,rfl,c⟩:=n;have l:=c.zn;have m:=c.nd;refine eu (jE eT q v _ A w y B f x z D) ?_;refine eQ λd=>?_;obtain⟨T,cap,j⟩:=fs d (q:=2) rfl;subst j;clear d;refine iq ?_;refine I (cR (ab:=g) (ad:=l)) ?_;refine I (gj 2 (n:=F (dC (-1) (c4 h))) (hv:=sw (Value.int .i64) c.next)) ?_;refine N [4] ?_;refine dG (d:=[]) [_,_,_,_,_] ?_;refine dP results376 ?_;refine⟨rfl,_,rfl,λH=>?_,λK E R L j k=>?_⟩
  .rw[D9,vy]at H;simp at H
  .obtain rfl:E=g:=by omega
   obtain⟨rfl,_,rfl⟩:=Cn m j;rfl
def XE (q v:Nat)(r:C (Nat×_))(o:V)(a:Int)(s:O)(n:iZ eT q v r o)(e:Hl s o):Sr 371 [Z q,F a] s o λp Q=>Q=[o]/\∃G:Int,p=F G/\(pf a (c4 r)=false->G= -1)/\∀h g p t,r=h++(g,p)::t->a=(g:Nat)->G=dC (-1) (c4 h).reverse:=by
 refine dR func371 e ?_;refine Pw 0 func383 (λs d e=>Dp q v r o a s n e) ?_;rintro _ _ S ⟨rfl,rfl⟩;refine I (jl rfl rfl) ?_;refine fP (λb=>?_) λb=>?_
 .refine db results371 ?_;refine⟨rfl,-1,rfl,λ_=>rfl,λh g p t j k=>?_⟩;have:=zP b;rw[k,j,D9,vy]at this;simp at this
 .obtain⟨g,rfl,u⟩:=zI (zK b);obtain⟨h,p,t,rfl⟩:=Ab u;obtain⟨A,w,y,B,f,x,z,D,rfl,c⟩:=n;have l:=c.zn;have m:=c.nd;refine eu (jE eT q v _ A w y B f x z D) ?_;refine eQ λd=>?_;obtain⟨T,cap,j⟩:=fs d (q:=3) rfl;subst j;clear d;refine iq ?_;refine I (cR (ab:=g) (ad:=l)) ?_;refine I (gj 3 (n:=F (dC (-1) (c4 h).reverse)) (hv:=sw (Value.int .i64) c.prev)) ?_;refine N [4] ?_;refine dG (d:=[]) [_,_,_,_,_] ?_;refine dP results371 ?_;refine⟨rfl,_,rfl,λH=>?_,λK E R L j k=>?_⟩
  .rw[D9,vy]at H;simp at H
  .obtain rfl:E=g:=by omega
   obtain⟨rfl,_,rfl⟩:=Cn m j;rfl
def yQ {a:Type}(i:C (Nat×a)->V->Prop)(g:Nat)(c d:C (Nat×a))(k:a)(j:V)(h:M)(f:C V):Prop:=((c++d).length=g/\h=.tuple #[F 0,F 7]/\f=[j])\/((c++d).length≠g/\∃(e:Nat)(b:V),uH (c4 (c++d)) e/\h=.tuple #[F e,F 0]/\f=[b]/\i (c++(e,k)::d) b)
abbrev No {a:Type}(f:VK a)(g b:Nat)(c d:C (Nat×a))(j:a)(h:V)(i:M)(e:C V):Prop:=yQ (iZ f g b) b c d j h i e
def acA (c d:Nat)(i:C (Nat×(Int)))(t:Int)(j:V)(k:O)(m:d<=8192)(g:iZ fD c d i j)(a:Hl k j):Sr 380 [Z c,(fD).val t] k j λr w=>No fD c d i [] t j r w:=by
 obtain⟨s,n,p,u,b,o,q,v,rfl,x⟩:=id g;have h:iZ fD c d (i++[]) (cz (jE fD c d i s n p u b o q v)):=by simpa using g
 refine dR func380 a ?_;refine N [0,1] ?_;refine cL ?_;refine I (gB rfl rfl underlying452) ?_;refine NX 0 0 ?_;refine Y ?_;refine dw (ft _ [] func386 (cD _) (λk y a=>aca c d i [] t _ k m h a)) ?_;rintro r _ A ⟨l,rfl,f⟩;rw[eN];obtain⟨u1,u2,rfl,e,rfl⟩:∃u1 u2,r=PF [u1,u2]/\∃e,l=e:=by
  rcases f with⟨_,rfl,_⟩|⟨_,B,z,_,rfl,_⟩
  .exact⟨_,_,rfl,_,rfl⟩
  .exact⟨_,_,rfl,_,rfl⟩
 refine db results380 ?_;exact f
def W8 (c f:Nat)(h:C (Nat×(Nat×cG Nat)))(t:Nat×cG Nat)(i:V)(j:O)(m:f<=8192)(e:iZ eT c f h i)(a:Hl j i):Sr 378 [Z c,eT.val t] j i λr y=>No eT c f [] h t i r y:=by
 obtain⟨s,n,p,u,b,o,q,v,rfl,z⟩:=id e;refine dR func378 a ?_;refine Mf λl w=>?_;refine N [0,3] ?_;refine cL ?_;refine I (gB rfl rfl underlying449) ?_;refine cH [0,3,7] ?_;refine cQ ?_;refine mm 11 [6] [(_,some 6),(_,none)] [] ((List.Perm.swap ..).trans (ik _)) λx=>?_;refine cL ?_;refine ew rfl (eZ 0 0) ?_;refine ew rfl (di 1 (b:=[_,_])) ?_;refine gY rfl (ft (cz (jE eT c f h s n p u b o q v)) [_] func385 (cD _) (λj A a=>N3 c f [] h t _ j m e a)) ?_;rintro r _ D ⟨k,rfl,d⟩;obtain⟨u1,u2,g,rfl,rfl⟩:∃u1 u2 g,r=PF [u1,u2]/\k=[g]:=by
  rcases d with⟨_,rfl,rfl⟩|⟨_,E,B,_,rfl,rfl,_⟩
  .exact⟨_,_,_,rfl,rfl⟩
  .exact⟨_,_,_,rfl,rfl⟩
 refine⟨_,List.Perm.swap ..,?_⟩;refine cL ?_;refine sQ [4,5] [1] ?_;refine dP results378 ?_;exact d
def AA {b:Type}(k:C (Nat×b)->V->Prop)(l:Nat)(h:C (Nat×b))(a:Int)(m:b)(i:V)(j:M)(f:C V):Prop:=(pf a (c4 h)=false/\j=.tuple #[F 0,F 8]/\f=[i])\/∃d c g e,h=d++(c,g)::e/\a=(c:Nat)/\yQ k l (d++[(c,g)]) e m i j f
abbrev Wa {b:Type}(e:VK b)(f c:Nat)(g:C (Nat×b))(a:Int)(j:b)(h:V)(i:M)(d:C V):Prop:=AA (iZ e f c) c g a j h i d
def ad1 {a:Type}(c:C (Nat×a))(b:Nat)(d:a):dC (-1) (c4 (c++[(b,d)])).reverse=b:=by simp[c4,dC]
def W7 (h k:Nat)(z:C (Nat×(Nat×cG Nat)))(a:Int)(D:Nat×cG Nat)(f:V)(l:O)(x:k<=8192)(e:iZ eT h k z f)(c:Hl l f):Sr 379 [Z h,F a,eT.val D] l f λA L=>Wa eT h k z a D f A L:=by
 refine hJ func379 c ?_;refine Mf λw E=>?_;refine cB ?_;refine cY f [_] func383 (List.Perm.swap ..) (λl d c=>Dp h k z f a l e c) ?_;rintro _ _ G ⟨rfl,rfl⟩;refine I (jl rfl rfl) ?_;refine fP (λb=>?_) λb=>?_
 .refine N [6,7] ?_;refine cK [0] ?_;refine dP results379 ?_;exact .inl ⟨zP b,rfl,rfl⟩
 .obtain⟨r,rfl,y⟩:=zI (zK b);obtain⟨t,v,s,rfl⟩:=Ab y;have p:iZ eT h k ((t++[(r,v)])++s) f:=by simpa using e
  obtain⟨P,R,T,vV,B,S,W,vs,rfl,n⟩:=id e;have o:=n.zn;refine eQ λd=>?_;obtain⟨g,cap,Q⟩:=nB d (s:=0) (t:=2) rfl rfl;subst Q;clear d;refine cC ?_;refine mm 15 [10] [(_,some 10),(_,none)] [] (ik _) λK=>?_;refine df ?_;refine ew rfl (eZ 0 0) ?_;refine Y ?_;refine ew rfl (cR (ab:=r) (ad:=o)) ?_;refine ew rfl (sO 0 2 (n:=F (dC (-1) (c4 s))) (hv:=sw (Value.int .i64) n.next)) ?_;refine ew rfl (di 1 (b:=[_,_])) ?_;refine gY rfl (ft _ [_] func385 (cD _) (λl d c=>by have H:=N3 h k (t++[(r,v)]) s D _ l x p c;rw[ad1]at H;exact H)) ?_;rintro A _ G ⟨u,rfl,m⟩;obtain⟨u1,u2,q,rfl,rfl⟩:∃u1 u2 q,A=PF [u1,u2]/\u=[q]:=by
   rcases m with⟨_,rfl,rfl⟩|⟨_,r,X,_,rfl,rfl,_⟩
   .exact⟨_,_,_,rfl,rfl⟩
   .exact⟨_,_,_,rfl,rfl⟩
  refine⟨_,List.Perm.swap ..,?_⟩;refine cL ?_;refine sQ [6,7] [1] ?_;refine dP results379 ?_;exact .inr ⟨t,r,v,s,rfl,rfl,m⟩
def Di {b:Type}(c:VK b)(e:C (Nat×b))(a:Int)(f:M):Prop:=(pf a (c4 e)=false/\f=.tuple #[c.val c.zero,F 8])\/∃h g d i,e=h++(g,d)::i/\a=(g:Nat)/\f=.tuple #[c.val d,F 0]
def ab3 (l q:Nat)(n:C (Nat×Int))(a:Int)(h:V)(k:O)(g:iZ fD l q n h)(d:Hl k h):Sr 381 [Z l,F a] k h λB u=>u=[h]/\Di fD n a B:=by
 refine dR func381 d ?_;refine Pw 0 func384 (λk c d=>QM l q n h a k g d) ?_;rintro _ _ H ⟨rfl,rfl⟩;refine I (jl rfl rfl) ?_;refine fP (λb=>?_) λb=>?_
 .refine db results381 ?_;exact⟨rfl,.inl ⟨zP b,rfl⟩⟩
 .obtain⟨r,rfl,m⟩:=zI (zK b);obtain⟨s,p,t,rfl⟩:=Ab m;obtain⟨D,x,z,E,o,y,A,G,rfl,e⟩:=id g;have f:=e.zn;refine eQ λc=>?_;obtain⟨K,cap,w⟩:=nB c (s:=0) (t:=4) rfl rfl;subst w;clear c;refine NX 0 0 ?_;refine Y ?_;refine I (cR (ab:=r) (ad:=f)) ?_;refine I (aa0 (a:=F p) 0 4 rfl rfl rfl underlying3 rfl (Iw fD Cb e.at)) ?_;refine db results381 ?_;exact⟨rfl,.inr ⟨s,r,p,t,rfl,rfl,rfl⟩⟩
def Xa (n x:Nat)(r:C (Nat×(Nat×cG Nat)))(b:Int)(g:V)(m:O)(l:iZ eT n x r g)(e:Hl m g):Sr 370 [Z n,F b] m g λL B=>B=[g]/\Di eT r b L:=by
 refine dR func370 e ?_;refine NV [J 0,vQ] λo t=>?_;refine cB ?_;refine cY g [_] func383 (List.Perm.swap ..) (λm a e=>Dp n x r g b m l e) ?_;rintro _ _ T ⟨rfl,rfl⟩;refine I (jl rfl rfl) ?_;refine fP (λc=>?_) λc=>?_
 .refine NV [J 0,vQ] λp u=>?_;refine K3 0 (f:=[_,_]) ?_;refine cO 2 (u:=[_,_]) λv=>?_;refine N [4,5] ?_;refine eM ?_;refine⟨_,_,λf d a=>eW results370 (eX (e4 2 rfl underlying454 rfl (by kernel_rfl) rfl) (gg rfl eY)) f d _ a,(gq [_]).cons _|>.trans (mr [_,_] [_]),?_⟩;exact⟨rfl,.inl ⟨zP c,rfl⟩⟩
 .obtain⟨y,rfl,q⟩:=zI (zK c);obtain⟨z,f,A,rfl⟩:=Ab q;obtain⟨Q,E,H,R,s,G,K,S,rfl,h⟩:=id l;have k:=h.zn;refine eQ λa=>?_;obtain⟨W,cap,D⟩:=nB a (s:=0) (t:=4) rfl rfl;subst D;clear a;refine NX 0 0 ?_;refine Y ?_;refine I (cR (ab:=y) (ad:=k)) ?_;refine I (qN 0 4 (b:=eT.cells f) (hv:=Iw eT Ca h.at)) ?_;refine cO 1 (u:=[_,_]) λw=>?_;refine N [4,5] ?_;refine eM ?_;refine⟨_,_,λf d a=>eW results370 (eX (e4 1 rfl underlying454 rfl (by kernel_rfl) rfl) (gg rfl eY)) f d _ a,mr [_] [_],?_⟩;exact⟨rfl,.inr ⟨z,y,f,A,rfl,rfl,rfl⟩⟩
def zi {b:Type}(d:VK b)(l:C (Nat×b)->V->Prop)(i:C (Nat×b))(a:Int)(m:V)(j:M)(g:C V):Prop:=(pf a (c4 i)=false/\j=.tuple #[d.val d.zero,F 8]/\g=[m])\/∃e k h f c,i=e++(k,h)::f/\a=(k:Nat)/\j=.tuple #[d.val h,F 0]/\g=[c]/\l (e++f) c
abbrev Ns {b:Type}(c:VK b)(e g:Nat)(f:C (Nat×b))(a:Int)(h:V)(i:M)(d:C V):Prop:=zi c (iZ c e g) f a h i d
def ab2 (R X:Nat)(l:C (Nat×Int))(h:Int)(r:V)(P:O)(hn:X<=8192)(ag:iZ fD R X l r)(W:Hl P r):Sr 372 [Z R,F h] P r λu ab=>Ns fD R X l h r u ab:=by
 refine dR func372 W ?_;refine Pw 0 func384 (λP n W=>QM R X l r h P ag W) ?_;rintro _ _ w1 ⟨rfl,rfl⟩;refine I (jl rfl rfl) ?_;refine fP (λH=>?_) λH=>?_
 .refine db results372 ?_;exact .inl ⟨zP H,rfl,rfl⟩
 .obtain⟨g,rfl,hx⟩:=zI (zK H);obtain⟨b,q,d,rfl⟩:=Ab hx;obtain⟨uV,nV,pV,vV,a,S,T,o,rfl,c⟩:=id ag;have f:=c.zn;have au:=c.le;have ay:=c.lx;have aw:=c.lp;have ax:=c.lv;have ah:=EO fD Cb o;have av:=c.len;have ai:=c.next;have aj:=c.prev;have az:=c.nd;have af:(b++(g,q)::d).length=b.length+d.length+1:=by simp;omega
  refine eu (d:=[]) (jE fD R X _ uV nV pV vV a S T o) ?_;refine eQ λn=>?_;obtain⟨A,s,rfl⟩:=fs n (q:=1) rfl;obtain⟨B,w,rfl⟩:=fs n (q:=2) rfl;obtain⟨D,x,rfl⟩:=fs n (q:=3) rfl;obtain⟨E,y,rfl⟩:=fs n (q:=4) rfl;clear n;refine cC ?_;refine kB 24 [] λaA=>?_;refine df ?_;refine cN rfl (cR (ab:=g) (ad:=f)) ?_;refine cN rfl (DV (a:=F q) 4 rfl underlying3 rfl rfl (Iw fD Cb c.at)) ?_;refine df ?_;refine cN rfl (cR (ab:=g) (ad:=f)) ?_;refine cN rfl (gj 3 (n:=F (dC (-1) (c4 b).reverse)) (hv:=sw (Value.int .i64) aj)) ?_;refine df ?_;refine cN rfl (cR (ab:=g) (ad:=f)) ?_;refine cN rfl (gj 2 (n:=F (dC (-1) (c4 d))) (hv:=sw (Value.int .i64) ai)) ?_;refine N [0,1,6,7,8,9] ?_;refine cL ?_;refine I (e9 rfl rfl) ?_;refine cH [0,1,6,7,8,9,37] ?_;refine eS (λm ab w'=>m=[(0,Z R),(1,F g),(6,F 0),(7,F q),(8,F (dC (-1) (c4 b).reverse)),(9,F (dC (-1) (c4 d)))]/\ab=[cF R [F X,F ((b++(g,q)::d).length:Int),F (dC (-1) (c4 (b++d))),F (dC (-1) (c4 (b++(g,q)::d)).reverse),vS A a.length s,vS B a.length w,vS D a.length x,vS E a.length y] fD.list,row (vS A a.length s) 4 1 a.length (m3 a),row (vS B a.length w) 3 1 a.length (iv (lO S (c4 b) (dC (-1) (c4 d)))),row (vS D a.length x) 3 1 a.length (iv T),row (vS E a.length y) fD.elem fD.sz a.length (iP fD o)]) ?_ ?_
  .refine jc rfl (λK=>?_) (λK=>?_)
   .have j:b=[]:=by simpa using yj K
    subst j;refine KW 0 (t:=[_]) λap=>?_;refine cH [0,1,6,7,8,9] ?_;exact⟨rfl,rfl⟩
   .obtain⟨Q,t,j⟩:=yi K;have G:Q<a.length:=c.lt Q (by
     have:Q∈(c4 b).reverse:=by rw[j];simp
     rw[c4,dE];exact gI _ (za.1 this))
    have ad:dC (-1) (c4 (b++(g,q)::d))=dC (-1) (c4 (b++d)):=by
     cases b with
     |nil=>simp at j
     |cons p b=>rfl
    refine fw ?_;refine I (cR (ab:=Q) (hi:=by rw[j];rfl) (ad:=G)) ?_;refine iQ (fK 2 (q:=[_]) (y:=iv (S.set Q (dC (-1) (c4 d)))) (hl:=by simp[iv];omega) (ae:=map_set (Value.int .i64) _ (by omega))) ?_;rintro _ _ aq rfl;refine cH [0,1,6,7,8,9] ?_;exact⟨rfl,by rw[yC j,<-ad];rfl⟩
  .rintro _ _ P ⟨rfl,rfl⟩;refine cL ?_;refine I (e9 rfl rfl) ?_;refine cH [0,1,6,7,8,9,50] ?_;refine eS (λm ab w'=>m=[(0,Z R),(1,F g),(6,F 0),(7,F q)]/\ab=[cF R [F X,F ((b++(g,q)::d).length:Int),F (dC (-1) (c4 (b++d))),F (dC (-1) (c4 (b++d)).reverse),vS A a.length s,vS B a.length w,vS D a.length x,vS E a.length y] fD.list,row (vS A a.length s) 4 1 a.length (m3 a),row (vS B a.length w) 3 1 a.length (iv (lO S (c4 b) (dC (-1) (c4 d)))),row (vS D a.length x) 3 1 a.length (iv (lO T (c4 d).reverse (dC (-1) (c4 b).reverse))),row (vS E a.length y) fD.elem fD.sz a.length (iP fD o)]) ?_ ?_
   .refine jc rfl (λL=>?_) (λL=>?_)
    .have k:d=[]:=by simpa using yj L
     subst k;refine KW 0 (t:=[_]) λar=>?_;refine cH [0,1,6,7] ?_;have e:dC (-1) (c4 b).reverse=dC (-1) (c4 (b++[])).reverse:=by rw[eN]
     exact⟨rfl,by rw[<-e];rfl⟩
    .obtain⟨Q,t,k⟩:=yi L;have G:Q<a.length:=c.lt Q (by
      have:Q∈c4 d:=by rw[k];simp
      rw[vy];exact iA _ (dN _ this))
     have ae:dC (-1) (c4 (b++(g,q)::d)).reverse=dC (-1) (c4 (b++d)).reverse:=by
      rcases yY d with rfl|⟨B',p,rfl⟩
      .simp at k
      .simp[dC]
     refine fw ?_;refine I (cR (ab:=Q) (hi:=by rw[k];rfl) (ad:=G)) ?_;refine iQ (fK 3 (q:=[_]) (y:=iv (T.set Q (dC (-1) (c4 b).reverse))) (hl:=by simp[iv];omega) (ae:=map_set (Value.int .i64) _ (by omega))) ?_;rintro _ _ am rfl;refine cH [0,1,6,7] ?_;exact⟨rfl,by rw[yC (a:=(c4 d).reverse) (by rw[C3];exact k),<-ae];rfl⟩
   .rintro _ _ P ⟨rfl,rfl⟩;refine Y ?_;refine eO 15 [12,14] [_] [_,_,_,_] (cD _) λao=>?_;refine fh ?_;refine cC ?_;refine cN rfl (cR (ab:=g) (ad:=f)) ?_;refine jW rfl (fK 1 (q:=[_]) (y:=m3 (a.set g false)) (hl:=by simp[m3];omega) (ae:=map_set Value.bool false f)) ?_;rintro _ _ ak rfl;refine⟨_,cD _,?_⟩;refine cN rfl (cR (ab:=g) (ad:=f)) ?_;refine jW rfl (fK 4 (q:=[_]) (y:=iP fD (o.set g 0)) (hl:=by rw[ah];show 0+g*1+1<=o.length*1;omega) (ae:=EP fD Cb 0 (by omega))) ?_;rintro _ _ al rfl;refine⟨_,cD _,?_⟩;refine KW 0 (t:=[_]) λan=>?_;refine cH [7] ?_;refine N [4,5] ?_;refine dG (d:=[]) [_,_,_,_,_] ?_;refine dP results372 ?_;refine .inr ⟨b,g,q,d,_,rfl,rfl,rfl,rfl,vS A a.length s,vS B a.length w,vS D a.length x,vS E a.length y,_,_,_,_,?_,c.remove (G:=0)⟩;have e1:((b++d).length:Int)=((b++(g,q)::d).length:Int)-1:=by rw[af,cX];omega
    rw[jE,fy,e1];rfl
def W9 (W ae:Nat)(l:C (Nat×(Nat×cG Nat)))(q:Int)(r:V)(af:O)(hn:ae<=8192)(hr:iZ eT W ae l r)(ad:Hl af r):Sr 374 [Z W,F q] af r λu ag=>Ns eT W ae l q r u ag:=by
 refine dR func374 ad ?_;refine NV [J 0,vQ] λj aw=>?_;refine NV [J 0,vQ] λk ay=>?_;refine Pw 2 func383 (λaf g ad=>Dp W ae l r q af hr ad) ?_;rintro _ _ w1 ⟨rfl,rfl⟩;refine I (jl rfl rfl) ?_;refine fP (λQ=>?_) λQ=>?_
 .refine K3 1 (f:=[_,_]) ?_;refine cO 2 (u:=[_,_]) λaz=>?_;refine N [4,5] ?_;refine eM ?_;refine⟨_,_,λo ab g=>eW results374 (eX (e4 2 rfl underlying454 rfl (by kernel_rfl) rfl) (gg rfl eY)) o ab _ g,mr [_] [_,_],?_⟩;exact .inl ⟨zP Q,rfl,rfl⟩
 .obtain⟨n,rfl,hx⟩:=zI (zK Q);obtain⟨b,o,d,rfl⟩:=Ab hx;obtain⟨uV,nV,pV,vV,a,X,P,x,rfl,c⟩:=id hr;have h:=c.zn;have aD:=c.le;have aH:=c.lx;have aF:=c.lp;have aG:=c.lv;have ak:=EO eT Ca x;have aE:=c.len;have al:=c.next;have am:=c.prev;have aI:=c.nd;have aj:(b++(n,o)::d).length=b.length+d.length+1:=by simp;omega
  refine eu (d:=[_,_]) (jE eT W ae _ uV nV pV vV a X P x) ?_;refine eQ λg=>?_;obtain⟨E,y,rfl⟩:=fs g (q:=1) rfl;obtain⟨G,A,rfl⟩:=fs g (q:=2) rfl;obtain⟨H,B,rfl⟩:=fs g (q:=3) rfl;obtain⟨K,D,rfl⟩:=fs g (q:=4) rfl;clear g;refine cC ?_;refine eO 25 [21,22] [_,_,_,_,_,_,_] [] (ik _) λaJ=>?_;refine df ?_;refine cN rfl (cR (ab:=n) (ad:=h)) ?_;refine cN rfl (je 4 (b:=eT.cells o) (hv:=Iw eT Ca c.at)) ?_;refine df ?_;refine cN rfl (cR (ab:=n) (ad:=h)) ?_;refine cN rfl (gj 3 (n:=F (dC (-1) (c4 b).reverse)) (hv:=sw (Value.int .i64) am)) ?_;refine df ?_;refine cN rfl (cR (ab:=n) (ad:=h)) ?_;refine cN rfl (gj 2 (n:=F (dC (-1) (c4 d))) (hv:=sw (Value.int .i64) al)) ?_;refine eh rfl (mP [J 0,vQ]) ?_;rintro _ _ au ⟨f,rfl,rfl⟩;refine⟨_,eg.symm,?_⟩;refine jW rfl (gD 7 (q:=[_,_])) ?_;rintro _ _ av rfl;refine⟨_,cD _,?_⟩;refine N [0,1,4,6,7,8,9] ?_;refine cL ?_;refine I (e9 rfl rfl) ?_;refine cH [0,1,4,6,7,8,9,37] ?_;refine eS (λm ag w'=>m=[(0,Z W),(1,F n),(4,Z j),(6,Z k),(7,Z f),(8,F (dC (-1) (c4 b).reverse)),(9,F (dC (-1) (c4 d)))]/\ag=[cF W [F ae,F ((b++(n,o)::d).length:Int),F (dC (-1) (c4 (b++d))),F (dC (-1) (c4 (b++(n,o)::d)).reverse),vS E a.length y,vS G a.length A,vS H a.length B,vS K a.length D] eT.list,row (vS E a.length y) 4 1 a.length (m3 a),row (vS G a.length A) 3 1 a.length (iv (lO X (c4 b) (dC (-1) (c4 d)))),row (vS H a.length B) 3 1 a.length (iv P),row (vS K a.length D) eT.elem eT.sz a.length (iP eT x),cF k [J 0,vQ] 454,cF j [J 0,vQ] 454,cF f (eT.cells o) 454]) ?_ ?_
  .refine jc rfl (λR=>?_) (λR=>?_)
   .have s:b=[]:=by simpa using yj R
    subst s;refine KW 0 (t:=[_]) λaA=>?_;refine cH [0,1,4,6,7,8,9] ?_;exact⟨rfl,rfl⟩
   .obtain⟨T,t,s⟩:=yi R;have L:T<a.length:=c.lt T (by
     have:T∈(c4 b).reverse:=by rw[s];simp
     rw[c4,dE];exact gI _ (za.1 this))
    have ah:dC (-1) (c4 (b++(n,o)::d))=dC (-1) (c4 (b++d)):=by
     cases b with
     |nil=>simp at s
     |cons p b=>rfl
    refine fw ?_;refine I (cR (ab:=T) (hi:=by rw[s];rfl) (ad:=L)) ?_;refine iQ (fK 2 (q:=[_]) (y:=iv (X.set T (dC (-1) (c4 d)))) (hl:=by simp[iv];omega) (ae:=map_set (Value.int .i64) _ (by omega))) ?_;rintro _ _ aB rfl;refine cH [0,1,4,6,7,8,9] ?_;exact⟨rfl,by rw[yC s,<-ah];rfl⟩
  .rintro _ _ af ⟨rfl,rfl⟩;refine cL ?_;refine I (e9 rfl rfl) ?_;refine cH [0,1,4,6,7,8,9,50] ?_;refine eS (λm ag w'=>m=[(0,Z W),(1,F n),(4,Z j),(6,Z k),(7,Z f)]/\ag=[cF W [F ae,F ((b++(n,o)::d).length:Int),F (dC (-1) (c4 (b++d))),F (dC (-1) (c4 (b++d)).reverse),vS E a.length y,vS G a.length A,vS H a.length B,vS K a.length D] eT.list,row (vS E a.length y) 4 1 a.length (m3 a),row (vS G a.length A) 3 1 a.length (iv (lO X (c4 b) (dC (-1) (c4 d)))),row (vS H a.length B) 3 1 a.length (iv (lO P (c4 d).reverse (dC (-1) (c4 b).reverse))),row (vS K a.length D) eT.elem eT.sz a.length (iP eT x),cF k [J 0,vQ] 454,cF j [J 0,vQ] 454,cF f (eT.cells o) 454]) ?_ ?_
   .refine jc rfl (λS=>?_) (λS=>?_)
    .have w:d=[]:=by simpa using yj S
     subst w;refine KW 0 (t:=[_]) λaC=>?_;refine cH [0,1,4,6,7] ?_;have e:dC (-1) (c4 b).reverse=dC (-1) (c4 (b++[])).reverse:=by rw[eN]
     exact⟨rfl,by rw[<-e];rfl⟩
    .obtain⟨T,t,w⟩:=yi S;have L:T<a.length:=c.lt T (by
      have:T∈c4 d:=by rw[w];simp
      rw[vy];exact iA _ (dN _ this))
     have ai:dC (-1) (c4 (b++(n,o)::d)).reverse=dC (-1) (c4 (b++d)).reverse:=by
      rcases yY d with rfl|⟨B',p,rfl⟩
      .simp at w
      .simp[dC]
     refine fw ?_;refine I (cR (ab:=T) (hi:=by rw[w];rfl) (ad:=L)) ?_;refine iQ (fK 3 (q:=[_]) (y:=iv (P.set T (dC (-1) (c4 b).reverse))) (hl:=by simp[iv];omega) (ae:=map_set (Value.int .i64) _ (by omega))) ?_;rintro _ _ ap rfl;refine cH [0,1,4,6,7] ?_;exact⟨rfl,by rw[yC (a:=(c4 d).reverse) (by rw[C3];exact w),<-ai];rfl⟩
   .rintro _ _ af ⟨rfl,rfl⟩;refine Y ?_;refine eO 15 [12,14] [_,_] [_,_,_,_,_,_] (de [0,4] _ rfl) λax=>?_;refine fh ?_;refine Y ?_;refine cN rfl (di 1 (b:=[_,_])) ?_;refine cN rfl (cR (ab:=n) (ad:=h)) ?_;refine jW rfl (fK 2 (q:=[_]) (y:=m3 (a.set n false)) (hl:=by simp[m3];omega) (ae:=map_set Value.bool false h)) ?_;rintro _ _ an rfl;refine⟨_,cD _,?_⟩;refine cN rfl (cR (ab:=n) (ad:=h)) ?_;refine jW rfl (fK 5 (q:=[_,_]) (y:=iP eT (x.set n eT.zero)) (hl:=by rw[ak];show 0+n*2+2<=x.length*2;omega) (ae:=EP eT Ca eT.zero (by omega))) ?_;rintro _ _ ao rfl;refine⟨_,cD _,?_⟩;refine Ax [0,4,7] [0,1,1,1,1,1,1] ?_;refine KW 0 (t:=[_]) λaq=>?_;refine K3 6 (f:=[_,_]) ?_;refine cO 5 (u:=[_,_]) λar=>?_;refine N [4,5] ?_;refine dG (d:=[_,_]) [_,_,_,_,_] ?_;refine eM ?_;refine⟨_,_,λo ab g=>eW results374 (eX (e4 1 rfl underlying454 rfl (by kernel_rfl) rfl) (gg rfl eY)) o ab _ g,mr [_] [_,_],?_⟩;refine .inr ⟨b,n,o,d,_,rfl,rfl,rfl,rfl,vS E a.length y,vS G a.length A,vS H a.length B,vS K a.length D,_,_,_,_,?_,c.remove (G:=eT.zero)⟩;have e1:((b++d).length:Int)=((b++(n,o)::d).length:Int)-1:=by rw[aj,cX];omega
    rw[jE,fy,e1];rfl
section
variable{b:Type}{d:C (Nat×b)->V->Prop}{f:VK b}{g:Nat}{A B:C (Nat×b)}{h a:b}{r:V}{e:M}{c:C V}{y:Nat}
def Lm (A B:C (Nat×b))(y:Nat)(a:b):pf (y:Int) (c4 (A++(y,a)::B))=true:=by rw[D9,vy];simp
def AA.ok (i:AA d g (A++(y,a)::B) y h r e c)(j:(c4 (A++(y,a)::B)).Nodup):yQ d g (A++[(y,a)]) B h r e c:=by
 rcases i with⟨i,_⟩|⟨m,l,o,n,k,p,i⟩
 .rw[Lm]at i;cases i
 .obtain rfl:y=l:=by omega
  obtain⟨rfl,rfl,rfl⟩:=Cn j k;exact i
def zi.ok (i:zi f d (A++(y,a)::B) y r e c)(k:(c4 (A++(y,a)::B)).Nodup):∃j,e=.tuple #[f.val a,F 0]/\c=[j]/\d (A++B) j:=by
 rcases i with⟨i,_⟩|⟨o,n,q,p,j,l,s,rfl,rfl,m⟩
 .rw[Lm]at i;cases i
 .obtain rfl:y=n:=by omega
  obtain⟨rfl,rfl,rfl⟩:=Cn k l;exact⟨j,rfl,rfl,m⟩
end
section
variable{b:Type}{i:C (Nat×b)->V->Prop}{c:VK b}{g:Nat}{A B e:C (Nat×b)}{j a:b}{r:V}{f:M}{h:C V}{y:Nat}{d:Int}
def Di.ok (k:Di c (A++(y,a)::B) y f)(l:(c4 (A++(y,a)::B)).Nodup):f=PF [c.val a,F 0]:=by
 rcases k with⟨k,_⟩|⟨o,n,q,p,m,s,rfl⟩
 .rw[Lm]at k;cases k
 .obtain rfl:y=n:=by omega
  obtain⟨rfl,rfl,rfl⟩:=Cn l m;rfl
def iZ.nd {k:Nat}(l:iZ c k g e r):(c4 e).Nodup:=by obtain⟨_,_,_,_,_,_,_,_,_,m⟩:=l;exact m.nd
end
abbrev Bk:=Nat×Nat×Nat×C (Nat×Int)
def iG (b:C Bk):C (Nat×(Nat×cG Nat)):=b.map λa=>(a.1,(a.2.1,some a.2.2.1))
def oJ (a:Bk):C (Int×Nat):=a.2.2.2.map λb=>(b.2,a.2.1)
def en (a:C Bk):C (Int×Nat):=a.flatMap oJ
def oe (a b:C Bk):iG (a++b)=iG a++iG b:=by simp[iG]
def wF (a:Bk)(b:C Bk):iG (a::b)=(a.1,(a.2.1,some a.2.2.1))::iG b:=rfl
def vi (a b:C Bk):en (a++b)=en a++en b:=by simp[en]
def vj (b:Bk)(a:C Bk):en (b::a)=oJ b++en a:=by simp[en]
def Xy (a:C Bk):(iG a).length=a.length:=by simp[iG]
def R5 (a:C Bk):c4 (iG a)=a.map (·.1):=by simp[c4,iG]
def abo {a:C Bk}(e:∀d∈a,d.2.2.2≠[]):a.length<=(en a).length:=by
 induction a with
 |nil=>simp
 |cons d a c=>have f:=AW.2 (e d (dQ ..));have g:=c λh b=>e h (dN _ b);rw[vj,cX,eE,oJ,dL];omega
abbrev eU:=C (Int×Nat)
def eR (a:eU):C Int:=a.map (·.1)
def oq:eU->Int->cG Nat
 |[],_=>none
 |a::b,id=>if a.1=id then some a.2 else oq b id
def fW:eU->Int->Nat->eU
 |[],id,a=>[(id,a)]
 |b::c,id,a=>if b.2<=a then b::fW c id a else(id,a)::b::c
def rem:eU->Int->eU
 |[],_=>[]
 |b::a,id=>if b.1=id then a else b::rem a id
def G9 {a:eU}{id:Int}:oq a id=none↔id∉eR a:=by
 induction a with
 |nil=>simp[oq,eR]
 |cons e a c=>
  rw[oq];split
  .rename_i b;simp[eR,b]
  .rename_i b;rw[c];simp[eR];intro _;exact λd=>b d.symm
def adq {a d:eU}{id:Int}(b:id∉eR a):oq (a++d) id=oq d id:=by
 induction a with
 |nil=>rfl
 |cons f a c=>simp only[eR,dA,dh,tM]at b;rw[kP,oq,cJ (λe=>b.1 e.symm)];exact c b.2
def adr {a c:eU}{id:Int}{b:Nat}(d:id∉eR a):oq (a++(id,b)::c) id=some b:=by rw[adq d,oq,cM rfl]
def aim {a d:eU}{id:Int}{e:Nat}(b:id∉eR a):rem (a++(id,e)::d) id=a++d:=by
 induction a with
 |nil=>simp[rem]
 |cons g a c=>simp only[eR,dA,dh,tM]at b;rw[kP,rem,cJ (λf=>b.1 f.symm),c b.2];rfl
def Q3 {b c:eU}{id:Int}{e:Nat}(d:∀a∈b,a.2<=e)(f:∀a∈c,e<a.2):fW (b++c) id e=b++(id,e)::c:=by
 induction b with
 |nil=>
  cases c with
  |nil=>rfl
  |cons a c=>have:=f a (dQ ..);rw[kF,fW,cJ (by omega)];rfl
 |cons a b h=>have:=d a (dQ ..);rw[kP,fW,cM this,h λi g=>d i (dN _ g)];rfl
def ab4 (a b:eU):eR (a++b)=eR a++eR b:=by simp[eR]
def L8 {c:C Int}{n:Nat}(k:c.Nodup)(a:∀d∈c,0<=d/\d<n):c.length<=n:=by
 have g:(c.map Int.toNat).Nodup:=by
  refine List.Pairwise.map _ ?_ (k.imp_of_mem λ{e f} i j b=>(show¬e.toNat=f.toNat from λp=>?_))
  .exact λe f o=>o
  .have:=a e i;have:=a f j;exact b (by omega)
 have h:=Hv (c.map Int.toNat) (List.range n) g λq l=>by obtain⟨d,m,rfl⟩:=dz.1 l;have:=a d m;exact lE.2 (by omega)
 simpa using h
def HJ {b:C Int}{c:Nat}{id:Int}(g:b.Nodup)(h:∀d∈b,0<=d/\d<c)(f:0<=id/\id<c)(e:id∉b):b.length<c:=by
 have:=L8 (c:=id::b) (n:=c) (iB.2 ⟨e,g⟩) (λd a=>by
  rcases dh.1 a with rfl|a
  .exact f
  .exact h d a)
 rw[eE]at this;omega
def sE (a:cG (Nat×Nat)):C M:=match a with
 |none=>[.bool false,F 0,F 0]
 |some (b,c)=>[.bool true,F b,F c]
def jI (a:C (cG (Nat×Nat))):C M:=a.flatMap sE
def HE (a:cG (Nat×Nat)):(sE a).length=3:=by cases a<;>rfl
def HF (a:C (cG (Nat×Nat))):(jI a).length=a.length*3:=by
 induction a with
 |nil=>rfl
 |cons c a b=>simp only[jI,ji,cX,HE,eE]at b|-;omega
def ahz (a b:C (cG (Nat×Nat))):jI (a++b)=jI a++jI b:=by simp[jI]
def LY {a:C (cG (Nat×Nat))}{b:Nat}{f:cG (Nat×Nat)}(h:a[b]? =some f):((jI a).drop (0+b*3)).take 3=sE f:=by
 obtain⟨d,rfl⟩:=da.1 h;have g:a=a.take b++a[b]::a.drop (b+1):=by rw[<-jP d,gJ]
 have e:(jI (a.take b)).length=b*3:=by rw[HF,eD];omega
 have c:jI a=jI (a.take b)++(sE a[b]++jI (a.drop (b+1))):=by
  conv=>lhs;rw[g]
  simp only[jI,j9,ji]
 rw[c,dU,<-e,kZ,uO (by rw[HE];exact dT _),gS (by rw[HE];exact dT _)]
def Sp {a:C (cG (Nat×Nat))}{b:Nat}(c:cG (Nat×Nat))(d:b<a.length):(jI a).take (0+b*3)++sE c++(jI a).drop (0+b*3+3)=jI (a.set b c):=by
 have i:a=a.take b++a[b]::a.drop (b+1):=by rw[<-jP d,gJ]
 have h:(jI (a.take b)).length=b*3:=by rw[HF,eD];omega
 have e:jI a=jI (a.take b)++(sE a[b]++jI (a.drop (b+1))):=by
  conv=>lhs;rw[i]
  simp only[jI,j9,ji]
 have f:a.set b c=a.take b++c::a.drop (b+1):=qU.trans (cM d);have g:jI (a.set b c)=jI (a.take b)++(sE c++jI (a.drop (b+1))):=by rw[f];simp only[jI,j9,ji]
 rw[g,e,dU,<-h,oF,dJ];congr 2;rw[<-dJ,show(jI (a.take b)).length+3=(jI (a.take b)++sE a[b]).length by rw[cX,HE],kZ]
structure k6 (d:Nat)(b:C Bk)(c:C (cG (Nat×Nat))):Prop where
 len:c.length=d
 od:(b.map λa=>a.2.1).Pairwise (·<·)
 ne:∀a∈b,a.2.2.2≠[]
 nd:(b.map (·.1)).Nodup
 wZ:∀a∈b,(c4 a.2.2.2).Nodup
 vw:(eR (en b)).Nodup
 kI:∀f∈eR (en b),0<=f/\f<d
 at_:∀a∈b,∀e∈a.2.2.2,c[e.2.toNat]? =some (some (a.1,e.1))
 no:∀id:Nat,id<d->(id:Int)∉eR (en b)->c[id]? =some none
 ep:∀a∈b,a.2.1<=9223372036854775808
def k6.new (a:Nat):k6 a [] (List.replicate a none):=⟨o3,List.Pairwise.nil,by simp,xD,by simp,xD,by simp[en,eR],by simp,λid b _=>by simp[b],by simp⟩
def akB:fB prog 455 512 3 24 (.agg #[.bool false,F 0,F 0]):=.mk' underlying455 (by kernel_rfl) rfl (by decide)
def mQ (b:Nat):C Bk->C V->Prop
 |[],[]=>True
 |c::d,e::a=>iZ fD c.2.2.1 b c.2.2.2 e/\mQ b d a
 |_,_=>False
def mQ.split {i:Nat}:∀{f e:C Bk}{a:C V},mQ i (f++e) a->∃b c,a=b++c/\mQ i f b/\mQ i e c
 |[],e,a,d=>⟨[],a,rfl,trivial,d⟩
 |k::f,e,[],d=>d.elim
 |k::f,e,j::a,d=>by obtain⟨b,c,rfl,g,h⟩:=mQ.split d.2;exact⟨j::b,c,rfl,⟨d.1,g⟩,h⟩
def mQ.join {g:Nat}:∀{e d:C Bk}{c b:C V},mQ g e c->mQ g d b->mQ g (e++d) (c++b)
 |[],d,[],b,_,h=>h
 |j::e,d,i::c,b,a,f=>⟨a.1,mQ.join a.2 f⟩
 |j::e,d,[],b,a,_=>a.elim
 |[],d,i::c,b,a,_=>a.elim
def mQ.cons_inv {e:Nat}{f:Bk}{g:C Bk}{a:C V}(d:mQ e (f::g) a):∃c b,a=c::b/\iZ fD f.2.2.1 e f.2.2.2 c/\mQ e g b:=by
 cases a with
 |nil=>exact d.elim
 |cons c a=>exact⟨c,a,rfl,d.1,d.2⟩
def mK (g e len f:Nat)(a:M)(b:C (cG (Nat×Nat)))(c:V)(d:C V):C V:=[cF g [F e,F len,Z f,a] 457,row a 512 3 e (jI b),c,cz d]
abbrev Mh (g h:Nat)(f:C Bk)(e:Nat)(a:M)(b:C (cG (Nat×Nat)))(c:V)(d:C V):C V:=mK g h (en f).length e a b c d
def zj (h a:Nat)(e:C Bk)(i:V):Prop:=1<=a/\a<=8192/\∃g f b c d,i=cz (Mh h a e g f b c d)/\iZ eT g a (iG e) c/\mQ a e d/\k6 a e b
def qu (b d:Nat)(c:eU)(e:V):Prop:=∃a,c=en a/\zj b d a e
def ady (a:Nat):(madeCells (Value.agg #[.bool false,F 0,F 0]).cells (a*3)).toList=jI (List.replicate a none):=by
 have f:∀a,((List.range (a*3)).map λg=>(#[Value.bool false,F 0,F 0]:Array M)[g % 3]!)=jI (List.replicate a none):=by
  intro a;induction a with
  |zero=>rfl
  |succ a e=>
   rw[lT,AY,ahz,<-e,pL,pL,pL];simp only[dE,dA,kD,dJ];congr 1;have b:(a*3) % 3=0:=by omega
   have c:(a*3+1) % 3=1:=by omega
   have d:(a*3+2) % 3=2:=by omega
   rw[b,c,d];rfl
 rw[<-f a];simp only[madeCells,AK,AL];rfl
def Yo (e:Int)(b:Nat)(a:cG Addr)(d c:Nat)(f:O):(Instr.build 457 [(0,F e),(2,Z b),(3,PA a d c)].toArray).run prog f=.ok (PE [F e,F 0,Z b,PA a d c]) f:=by kernel_rfl
def aiu (a:Nat)(d:O)(g:1<=a)(h:a<=8192):Sn 257 [F a] d λt o=>∃m c,t=.tuple #[Z m,F 0]/\o=[c]/\zj m a [] c:=by
 refine dS func257 hS ?_;refine Ku func293 (λd q=>N6 a d) ?_;rintro _ _ u (⟨_,rfl,rfl⟩|⟨s,n,i,r,_,_,rfl,rfl,b⟩)
 .omega
 obtain rfl:a=s:=by omega
 refine N [0,4,5] ?_;refine cL ?_;refine I (jt rfl rfl) ?_;refine cH [0,4,5,12] ?_;refine kL rfl (λp=>absurd p (by simp)) (λ_=>?_);refine eL ?_;refine dw (qy (y:=a) (B:=jI (List.replicate a none)) rfl rfl akB (by omega) (by omega) (ady a).symm) ?_;rintro _ _ j ⟨e,rfl,rfl⟩;refine I (ee (λd=>Yo _ _ _ _ _ d)) ?_;refine dK λf k=>?_;refine N [2,3] ?_;refine sL ?_;refine cK [1,1,1,0] ?_;refine dG (d:=[]) [_,_,_,_] ?_;refine dP results257 ?_;exact⟨_,_,rfl,rfl,g,h,n,_,_,i,[],rfl,b,trivial,k6.new a⟩
def ahA {a:C (cG (Nat×Nat))}{d:Nat}{c:cG (Nat×Nat)}(e:a[d]? =some c):(jI a)[0+d*3+0]? =some (.bool c.isSome):=by
 have b:(((jI a).drop (0+d*3)).take 3)[0]? =some (.bool c.isSome):=by rw[LY e];cases c<;>rfl
 rw[mT,cM (by omega),kQ]at b;exact b
def adF {a:eU}{id:Int}:id∈eR a↔∃b,(id,b)∈a:=by simp[eR]
def D8 {e:C Bk}{id:Int}:id∈eR (en e)↔∃b∈e,∃f,(f,id)∈b.2.2.2:=by
 simp only[adF,en,rZ,oJ,dz,r6];constructor
 .rintro⟨h,b,a,g,c,rfl,rfl⟩;exact⟨b,a,g.1,c⟩
 .rintro⟨b,a,f,d⟩;exact⟨_,b,a,_,d,rfl,rfl⟩
def k6.acB {i:Nat}{h:C Bk}{c:C (cG (Nat×Nat))}(d:k6 i h c)(id:Int):((0<=id/\id<i)/\∃j,c[id.toNat]? =some (some j))↔id∈eR (en h):=by
 constructor
 .rintro⟨a,j,f⟩;refine pI λk=>?_;have:=d.no id.toNat (by omega) (by rwa [show((id.toNat:Nat):Int)=id by omega]);rw[f]at this;cases this
 .intro b;have a:=d.kI id b;obtain⟨l,e,m,g⟩:=D8.1 b;exact⟨a,_,d.at_ l e _ g⟩
def HP (x E:Nat)(w:C Bk)(p:V)(id:Int)(G:O)(s:zj x E w p)(t:Hl G p):Sr 360 [Z x,F id] G p λS H=>S=.bool (decide (id∈eR (en w)))/\H=[p]:=by
 obtain⟨y,z,T,L,e,Q,R,rfl,B,D,k⟩:=s;have A:=k.len;refine dR func360 t ?_;refine eQ λm=>?_;obtain⟨W,K,rfl⟩:=nB m (s:=0) (t:=1) rfl rfl;clear m;refine N [0,1] ?_;refine cQ ?_;refine I (zx rfl rfl underlying403) ?_;refine Y ?_;refine oV (H:=2) (A:=decide (0<=id)) 2 [(0,_),(1,_)] ⟨rfl,rfl,trivial⟩ rfl rfl rfl rfl rfl (λo=>?_) (λv=>?_)
 .refine Y ?_;refine dZ rfl rfl (m6 rfl rfl) ?_;exact iy
 refine Y ?_;refine oV (H:=6) (A:=decide (id<(E:Int))) 6 [(0,_),(1,_)] ⟨rfl,rfl,trivial⟩ rfl rfl rfl rfl rfl (λl=>?_) (λq=>?_)
 .refine cL ?_;refine dZ rfl rfl (eZ 0 0) ?_;refine dZ rfl rfl (gN rfl rfl) ?_;exact iy
 refine Y ?_;refine oV (H:=14) (A:=(e.getD id.toNat none).isSome) 8 [] trivial rfl rfl rfl rfl rfl (λb=>?_) (λr=>?_)
 .refine cQ ?_;refine dZ rfl rfl (eZ 0 0) ?_;refine Y ?_;simp only[iu,fU]at b;obtain⟨f,rfl⟩:∃f:Nat,id=f:=⟨id.toNat,by omega⟩;obtain⟨n,d⟩:∃n,e[f]? =some n:=⟨_,dr (by omega)⟩;refine dZ rfl rfl (cR (ab:=f)) ?_;refine Y ?_;refine dZ rfl rfl (cU (z:=.bool (e.getD ((f:Int).toNat) none).isSome) (sO 0 1 (n:=.bool n.isSome) (hv:=ahA d)) (by simp[d])) ?_;exact iy
 refine db results360 ?_;refine⟨?_,rfl⟩;show Value.bool _=_;congr 1;rw[CQ];simp only[iu,fU,<-k.acB id];constructor
 .rintro⟨⟨⟨_,g⟩,h⟩,a⟩;refine⟨⟨g,h⟩,?_⟩;rw[jM]at a;cases d:e[id.toNat]?with
  |none=>rw[d]at a;cases a
  |some n=>rw[d]at a;cases n with
   |none=>cases a
   |some f=>exact⟨f,rfl⟩
 .rintro⟨⟨g,h⟩,f,u⟩;exact⟨⟨⟨rfl,g⟩,h⟩,by rw[jM,u];rfl⟩
def Et (h g len:Nat)(v:C Bk)(k:Bk)(w:C Bk)(f:Nat)(c:M)(d:C (cG (Nat×Nat)))(a:V)(e:C V)(l:O)(b:iZ eT f g (iG (v++k::w)) a)(q:Hl l (cz (mK h g len f c d a e))):Sr 361 [Z h,F k.1] l (cz (mK h g len f c d a e)) λz x=>z=.agg #[J k.2.1,Z k.2.2.1]/\x=[cz (mK h g len f c d a e)]:=by rw[oe,wF]at b;refine dR func361 q ?_;refine eu (mK h g len f c d a e) ?_;refine NV [J 0,vQ] λn s=>?_;refine Pw 3 func370 (λl i j=>Xa f g _ k.1 a l b j) ?_;rintro _ _ A ⟨rfl,r⟩;obtain rfl:=r.ok b.nd;refine NV [J 0,vQ] λo t=>?_;refine cO 0 λm=>?_;refine K3 0 (f:=[_,_]) ?_;refine cO 2 λu=>?_;refine cH [4] ?_;refine cK [3,3,1,2,1] ?_;refine dG (d:=[_]) [_,_,_,_] ?_;refine cK [1,0] ?_;refine eM ?_;refine⟨_,_,λy p i=>HN 0 results361 rfl y p i underlying454 rfl (by kernel_rfl) rfl,fO ..,?_⟩;exact⟨rfl,rfl⟩
def Mg (d q:Nat)(l:C Bk)(b:Bk)(m:C Bk)(c:V)(k:O)(e:zj d q (l++b::m) c)(f:Hl k c):Sr 361 [Z d,F b.1] k c λu s=>u=.agg #[J b.2.1,Z b.2.2.1]/\s=[c]:=by obtain⟨n,o,r,g,h,i,j,rfl,a,p,t⟩:=e;exact Et d q _ l b m r g h i j k a f
def BW {c:C Bk}{e:Int×Nat}(d:e∈en c):∃b∈c,e.2=b.2.1:=by simp only[en,rZ,oJ,dz]at d;obtain⟨b,a,f,_,rfl⟩:=d;exact⟨b,a,rfl⟩
def N2 {c:Bk}{b:Int×Nat}(a:b∈oJ c):b.2=c.2.1:=by simp only[oJ,dz]at a;obtain⟨d,_,rfl⟩:=a;rfl
def JI {e f:C Bk}{a:Bk}(b:((e++a::f).map λa=>a.2.1).Pairwise (·<·)):(∀g∈e,g.2.1<a.2.1)/\∀h∈f,a.2.1<h.2.1:=by rw[dE,dA,mU,jD]at b;refine⟨λg c=>b.2.2 _ (gu c) _ (dQ ..),λh d=>b.2.1.1 _ (gu d)⟩
def k6.add {B:Nat}{r a:C Bk}{p:C (cG (Nat×Nat))}{f s D:Nat}(q:k6 B r p)(G:f<B)(g:(f:Int)∉eR (en r))(k:(a.map λb=>b.2.1).Pairwise (·<·))(c:∀b∈a,b.2.2.2≠[])(v:(a.map (·.1)).Nodup)(m:∀b∈a,(c4 b.2.2.2).Nodup)(l:∀b∈a,b.2.1<=9223372036854775808)(n:(eR (en a)).Perm ((f:Int)::eR (en r)))(z:∀b∈a,∀e∈b.2.2.2,(b.1=s/\e=(D,(f:Int)))\/∃d∈r,d.1=b.1/\e∈d.2.2.2):k6 B a (p.set f (some (s,D))):=by
 have y:=q.len;refine⟨by rw[fy];exact y,k,c,v,m,n.nodup_iff.2 (iB.2 ⟨g,q.vw⟩),λK o=>?_,λb A e w=>?_,λH x h=>?_,l⟩
 .rcases dh.1 (n.mem_iff.1 o)with rfl|o
  .omega
  .exact q.kI K o
 .rcases z b A e w with⟨j,rfl⟩|⟨d,i,j,t⟩
  .rw[j];show(p.set f _)[(f:Int).toNat]? =_;rw[yU,gm (by omega)]
  .have u:e.2∈eR (en r):=D8.2 ⟨d,i,e.1,t⟩;have E:=q.kI _ u;have c:f≠e.2.toNat:=λL=>g (by rw[show(f:Int)=e.2 by omega];exact u);rw[fE c,<-j];exact q.at_ d i e t
 .rw[n.mem_iff,dh,tM]at h;rw[fE (by omega)];exact q.no H x h.2
def k6.del {G:Nat}{v a:C Bk}{t:C (cG (Nat×Nat))}{u:Nat}(m:k6 G v t)(j:(a.map λb=>b.2.1).Pairwise (·<·))(c:∀b∈a,b.2.2.2≠[])(q:(a.map (·.1)).Nodup)(l:∀b∈a,(c4 b.2.2.2).Nodup)(k:∀b∈a,b.2.1<=9223372036854775808)(d:(eR (en v)).Perm ((u:Int)::eR (en a)))(B:∀b∈a,∀i∈b.2.2.2,∃e∈v,e.1=b.1/\i∈e.2.2.2):k6 G a (t.set u none):=by
 have A:=m.len;have p:=iB.1 (d.nodup_iff.1 m.vw);refine⟨by rw[fy];exact A,j,c,q,l,p.2,λK D=>m.kI K (d.mem_iff.2 (dN _ D)),λb r i h=>?_,λE z o=>?_,k⟩
 .obtain⟨e,s,x,y⟩:=B b r i h;have f:i.2∈eR (en a):=D8.2 ⟨b,r,i.1,h⟩;have H:=m.kI _ (d.mem_iff.2 (dN _ f));have c:u≠i.2.toNat:=λw=>p.1 (by rw[show(u:Int)=i.2 by omega];exact f);rw[fE c,<-x];exact m.at_ e s i y
 .by_cases g:u=E
  .subst g;rw[gm (by omega)]
  .rw[fE g];refine m.no E z λn=>?_;rcases dh.1 (d.mem_iff.1 n)with w|w
   .omega
   .exact o w
def xV (a:Bk)(b:Nat)(id:Int):Bk:=(a.1,a.2.1,a.2.2.1,a.2.2.2++[(b,id)])
def Qh (b c:C Bk)(a:Bk)(d:Nat)(id:Int):en (b++xV a d id::c)=(en b++oJ a)++(id,a.2.1)::en c:=by simp[vi,vj,oJ,xV]
def KL (a b:C Bk)(c:Bk):en (a++c::b)=(en a++oJ c)++en b:=by simp[vi,vj]
def HG {a b:C Int}{c:Int}:(a++c::b).Perm (c::(a++b)):=eg
def k6.push {p:Nat}{k l:C Bk}{e:Bk}{h:C (cG (Nat×Nat))}{i j:Nat}(c:k6 p (k++e::l) h)(n:i<p)(g:(i:Int)∉eR (en (k++e::l)))(o:j∉c4 e.2.2.2):k6 p (k++xV e j i::l) (h.set i (some (e.1,j))):=by
 refine c.add n g ?_ ?_ ?_ ?_ ?_ ?_ ?_
 .have:=c.od;rw[dE,dA]at this|-;exact this
 .intro d a;rcases dV.1 a with a|a
  .exact c.ne d (gI _ a)
  rcases dh.1 a with rfl|a
  .simp[xV]
  .exact c.ne d (iA _ (dN _ a))
 .have:=c.nd;rw[dE,dA]at this|-;exact this
 .intro d a;rcases dV.1 a with a|a
  .exact c.wZ d (gI _ a)
  rcases dh.1 a with rfl|a
  .have:=c.wZ e (by simp);show((e.2.2.2++[(j,(i:Int))]).map Prod.fst).Nodup;rw[dE,kR];exact⟨this,by simp,by rintro q m r f rfl;simp at f;subst f;exact o m⟩
  .exact c.wZ d (iA _ (dN _ a))
 .intro d a;rcases dV.1 a with a|a
  .exact c.ep d (gI _ a)
  rcases dh.1 a with rfl|a
  .exact c.ep e (by simp)
  .exact c.ep d (iA _ (dN _ a))
 .rw[Qh,KL];simp only[eR,dE,dA];exact HG
 .intro d a s b;rcases dV.1 a with a|a
  .exact .inr ⟨d,gI _ a,rfl,b⟩
  rcases dh.1 a with rfl|a
  .rcases dV.1 b with b|b
   .exact .inr ⟨e,by simp,rfl,b⟩
   .exact .inl ⟨rfl,fI.1 b⟩
  .exact .inr ⟨d,iA _ (dN _ a),rfl,b⟩
def acs {d e:C Bk}{c:Bk}{l:Nat}{id:Int}(j:((d++c::e).map λc=>c.2.1).Pairwise (·<·)):fW (en (d++c::e)) id c.2.1=en (d++xV c l id::e):=by
 obtain⟨f,g⟩:=JI j;rw[Qh,KL];refine Q3 (λk a=>?_) λk a=>?_
 .rcases dV.1 a with a|a
  .obtain⟨h,b,i⟩:=BW a;have:=f h b;omega
  .rw[N2 a];exact dT _
 .obtain⟨h,b,i⟩:=BW a;have:=g h b;omega
def k6.bucket {t:Nat}{j k:C Bk}{m:C (cG (Nat×Nat))}{o v f n x:Nat}(d:k6 t (j++k) m)(s:o<t)(l:(o:Int)∉eR (en (j++k)))(b:f∉(j++k).map (·.1))(p:∀i∈j,i.2.1<n)(q:∀i∈k,n<i.2.1)(r:n<=9223372036854775808):k6 t (j++(f,n,x,[(v,(o:Int))])::k) (m.set o (some (f,v))):=by
 refine d.add s l ?_ ?_ ?_ ?_ ?_ ?_ ?_
 .have:=d.od;rw[dE,mU]at this;rw[dE,dA,mU,jD];refine⟨this.1,⟨λu e=>?_,this.2.1⟩,λu e w b=>?_⟩
  .obtain⟨i,h,rfl⟩:=dz.1 e;exact q i h
  .rcases dh.1 b with rfl|b
   .obtain⟨i,h,rfl⟩:=dz.1 e;exact p i h
   .exact this.2.2 u e w b
 .intro c a;rcases dV.1 a with a|a
  .exact d.ne c (gI _ a)
  rcases dh.1 a with rfl|a
  .simp
  .exact d.ne c (iA _ a)
 .have:=d.nd;rw[dE]at this b;rw[dE,dA];exact eg.nodup_iff.2 (iB.2 ⟨b,this⟩)
 .intro c a;rcases dV.1 a with a|a
  .exact d.wZ c (gI _ a)
  rcases dh.1 a with rfl|a
  .simp
  .exact d.wZ c (iA _ a)
 .intro c a;rcases dV.1 a with a|a
  .exact d.ep c (gI _ a)
  rcases dh.1 a with rfl|a
  .exact r
  .exact d.ep c (iA _ a)
 .rw[vi,vj,vi];simp only[eR,oJ,dE,dA,kD,nJ];exact HG
 .intro c a y g;rcases dV.1 a with a|a
  .exact .inr ⟨c,gI _ a,rfl,g⟩
  rcases dh.1 a with rfl|a
  .exact .inl ⟨rfl,fI.1 g⟩
  .exact .inr ⟨c,iA _ a,rfl,g⟩
def aco {d e:C Bk}{n f c l:Nat}{id:Int}(g:∀i∈d,i.2.1<c)(h:∀i∈e,c<i.2.1):fW (en (d++e)) id c=en (d++(f,c,l,[(n,id)])::e):=by rw[vi,vi,vj];exact Q3 (λm a=>by obtain⟨j,b,k⟩:=BW a;have:=g j b;omega) λm a=>by obtain⟨j,b,k⟩:=BW a;exact k▸h j b
def zp (a:Bk)(b c:C (Nat×Int)):Bk:=(a.1,a.2.1,a.2.2.1,b++c)
def Gz (d e:C Bk)(a:Bk)(f g:C (Nat×Int))(h:Nat)(id:Int)(b:a.2.2.2=f++(h,id)::g):en (d++a::e)=(en d++f.map λc=>(c.2,a.2.1))++(id,a.2.1)::((g.map λc=>(c.2,a.2.1))++en e):=by simp[vi,vj,oJ,b]
def Qi (c d:C Bk)(b:Bk)(e f:C (Nat×Int)):en (c++zp b e f::d)=(en c++e.map λa=>(a.2,b.2.1))++((f.map λa=>(a.2,b.2.1))++en d):=by simp[vi,vj,oJ,zp]
def k6.take {m:Nat}{k l:C Bk}{f:Bk}{h:C (cG (Nat×Nat))}{i j:C (Nat×Int)}{n o:Nat}(c:k6 m (k++f::l) h)(e:f.2.2.2=i++(o,(n:Int))::j)(g:i++j≠[]):k6 m (k++zp f i j::l) (h.set n none):=by
 refine c.del ?_ ?_ ?_ ?_ ?_ ?_ ?_
 .have:=c.od;rw[dE,dA]at this|-;exact this
 .intro d a;rcases dV.1 a with a|a
  .exact c.ne d (gI _ a)
  rcases dh.1 a with rfl|a
  .exact g
  .exact c.ne d (iA _ (dN _ a))
 .have:=c.nd;rw[dE,dA]at this|-;exact this
 .intro d a;rcases dV.1 a with a|a
  .exact c.wZ d (gI _ a)
  rcases dh.1 a with rfl|a
  .have:=c.wZ f (by simp);rw[e,vy]at this;show((i++j).map Prod.fst).Nodup;rw[dE];exact(iB.1 (eg.nodup_iff.1 this)).2
  .exact c.wZ d (iA _ (dN _ a))
 .intro d a;rcases dV.1 a with a|a
  .exact c.ep d (gI _ a)
  rcases dh.1 a with rfl|a
  .exact c.ep f (by simp)
  .exact c.ep d (iA _ (dN _ a))
 .rw[Gz _ _ _ _ _ _ _ e,Qi];simp only[eR,dE,dA];exact HG
 .intro d a p b;rcases dV.1 a with a|a
  .exact⟨d,gI _ a,rfl,b⟩
  rcases dh.1 a with rfl|a
  .refine⟨f,by simp,rfl,?_⟩;rw[e];rcases dV.1 b with b|b
   .exact gI _ b
   .exact iA _ (dN _ b)
  .exact⟨d,iA _ (dN _ a),rfl,b⟩
def k6.gone {l:Nat}{f g:C Bk}{j:Bk}{e:C (cG (Nat×Nat))}{k m:Nat}(d:k6 l (f++j::g) e)(i:j.2.2.2=[(m,(k:Int))]):k6 l (f++g) (e.set k none):=by have a:(f++g).Sublist (f++j::g):=List.Sublist.append_left (fO ..) _;refine d.del (d.od.sublist (a.map _)) (λc b=>d.ne c (a.subset b)) (d.nd.sublist (a.map _)) (λc b=>d.wZ c (a.subset b)) (λc b=>d.ep c (a.subset b)) ?_ (λc b n h=>⟨c,a.subset b,rfl,h⟩);rw[Gz _ _ _ [] [] m k i,vi];simp only[eR,dE,dA,kD,kF,eN];exact HG
def HM {l:Nat}{b f:C Bk}{a:Bk}{i:C (cG (Nat×Nat))}{g j:C (Nat×Int)}{n:Nat}{id:Int}(k:k6 l (b++a::f) i)(e:a.2.2.2=g++(n,id)::j):rem (en (b++a::f)) id=en (b++zp a g j::f)/\oq (en (b++a::f)) id=some a.2.1:=by have c:=k.vw;rw[Gz _ _ _ _ _ _ _ e,ab4]at c;have d:id∉eR (en b++g.map λm=>(m.2,a.2.1)):=λh=>(kR.1 c).2.2 id h id (dQ ..) rfl;rw[Gz _ _ _ _ _ _ _ e,Qi];exact⟨aim d,adr d⟩
def abn (a b:C Bk)(c:Bk):en (a++zp c [] []::b)=en (a++b):=by simp[vi,vj,oJ,zp]
def acq (a:eU)(id:Int)(c:Nat):(fW a id c).length=a.length+1:=by
 induction a with
 |nil=>rfl
 |cons d a b=>rw[fW];split<;>simp[b]
def K5 (a:C Bk):Nat:=match a with
 |[]=>0
 |b::_=>b.2.1
def G6 {b:C Bk}{a:Bk}:dC (-1) (c4 (iG (b++[a]))).reverse=(a.1:Int):=by simp[iG,c4,dC]
def Rl {a:C Bk}(c:dC (-1) (c4 (iG a)).reverse= -1):a=[]:=by
 rcases yY a with rfl|⟨b,d,rfl⟩
 .rfl
 .rw[I6,G6]at c;omega
def Rm {b:C Bk}(d:dC (-1) (c4 (iG b)).reverse≠-1):∃a c,b=a++[c]:=by
 rcases yY b with rfl|⟨a,c,rfl⟩
 .exact absurd rfl d
 .exact⟨a,c,by rw[I6]⟩
section
variable{i:dX}{k:Nat}{c:O}{b:Nat->Prop}{h l:fJ}{m:Nat->fJ}{j:dD}{d f a:C V}{e:V}{g:O}
def F5:cI c b (cz (f++e::a)::d) g↔cI c b (e::cz (f++a)::d) g:=by
 have o:((f++e::a)++d).Perm ((f++a)++(e::d)):=by rw[dJ,dJ];refine vX _ ?_;exact(eg (l₁:=a) (l₂:=d) (a:=e)).symm
 constructor
 .intro n;exact(cI.cz.1 ((cI.cz.2 n).perm o)).perm (List.Perm.swap ..)
 .intro n;exact cI.cz.1 ((cI.cz.2 (n.perm (List.Perm.swap ..))).perm o.symm)
def Va {n:Code}(o:W i k c b n h l m j (e::cz (f++a)::d) g):W i k c b n h l m j (cz (f++e::a)::d) g:=lh F5.1 o
def Ix {n:Code}(o:W i k c b n h l m j (cz (f++e::a)::d) g):W i k c b n h l m j (e::cz (f++a)::d) g:=lh F5.2 o
def atl {p:Array Oper}{n:C Oper}(o:WL i k c b p h n j (e::cz (f++a)::d) g):WL i k c b p h n j (cz (f++e::a)::d) g:=vL F5.1 o
end
def XP (b:Int)(a:Nat)(c:O):(Instr.build 454 [(0,J b),(1,Z a)].toArray).run prog c=.ok (PE [J b,Z a]) c:=by kernel_rfl
def Yk (b c:Int)(a:O):(Instr.build 512 [(0,.bool true),(1,F b),(2,F c)].toArray).run prog a=.ok (PE [.bool true,F b,F c]) a:=by kernel_rfl
def SP (Q e:Nat)(ai am:C Bk)(r:V)(S x:Nat)(s:O)(hx:S<e)(ak:(S:Int)∉eR (en (ai++am)))(hc:x<=9223372036854775808)(hA:∀d∈ai,d.2.1<x)(hr:zj Q e (ai++am) r)(hs:Hl s r):Sr 363 [Z Q,F S,J x,F (dC (-1) (c4 (iG ai)).reverse)] s r λv H=>v=F 0/\∃ag,H=[ag]/\qu Q e (fW (en (ai++am)) S x) ag:=by
 obtain⟨aJ,al,y,q,n,l,E,rfl,A,aB,hI⟩:=id hr;refine sP func363 hs ?_;refine N [0,1,2,3] ?_;refine Y ?_;refine eu (mK Q e _ y q n l E) ?_;refine Pw 2 func375 (λs u c=>N1 y e _ l s A c) ?_;rintro _ _ w1 ⟨rfl,rfl⟩;refine Y ?_;refine fu [1,1,0,0] ?_;refine qh (d:=[]) [_,_,_,_] ?_;refine cH [0,1,2,3,9] ?_;refine cL ?_;refine I (jt rfl rfl) ?_;refine cH [0,1,2,3,9,21] ?_;refine eS (λm H w'=>m=[(0,Z Q),(1,F S),(2,J x),(3,F (dC (-1) (c4 (iG ai)).reverse)),(9,F (dC (-1) (c4 (iG am))))]/\H=[cz (mK Q e (en (ai++am)).length y q n l E)]) ?_ ?_
 .refine jc rfl (λap=>?_) (λap=>?_)
  .obtain⟨A0,G,rfl⟩:=Rm (by simpa using ap);rw[G6];refine eu (mK Q e _ y q n l E) ?_;refine Pw 2 func376 (λs u c=>N7 y e _ l G.1 s A c) ?_;rintro _ _ w2 ⟨rfl,L,rfl,_,w⟩;obtain rfl:=w (iG A0) G.1 _ (iG am) (by rw[oe,oe,dJ];rfl) rfl;refine Y ?_;refine fu [1,1,0,0] ?_;refine qh (d:=[]) [_,_,_,_] ?_;refine cH [0,1,2,3,9] ?_;exact⟨rfl,rfl⟩
  .obtain rfl:ai=[]:=Rl (by simpa using ap);refine kw [0,1,2,3,9] rfl (iY ?_);exact⟨rfl,rfl⟩
 .rintro _ _ w3 ⟨rfl,rfl⟩;refine cC ?_;refine dB (λk m H w'=>∃f b,m=[(0,Z Q),(1,F S),(2,J x),(3,F (dC (-1) (c4 (iG f)).reverse)),(9,F (dC (-1) (c4 (iG b))))]/\H=[cz (mK Q e (en (ai++am)).length y q n l E)]/\ai++am=f++b/\(∀d∈f,d.2.1<x)/\k=b.length) am.length ⟨ai,am,rfl,rfl,rfl,hA,rfl⟩ ?_;rintro k _ _ w4 ⟨f,b,rfl,rfl,hS,an,hk⟩;refine cL ?_;refine I (jt rfl rfl) ?_;refine Y ?_;refine oV (H:=2) (A:=decide ((K5 b:Int)<(x:Int))) 6 [(0,_),(1,_),(2,_),(3,_),(9,_)] ⟨rfl,rfl,rfl,rfl,rfl,trivial⟩ rfl rfl rfl rfl rfl (λax=>?_) (λaV=>?_)
  .refine cC ?_;obtain⟨d,h,rfl⟩:∃d h,b=d::h:=by
    cases b with
    |nil=>simp[iG,c4,dC]at ax
    |cons d t=>exact⟨d,t,rfl⟩
   refine nh rfl rfl (ft (cz (mK Q e _ y q n l E)) [] func361 (cD _) (λs u c=>Et Q e _ f d h y q n l E s (hS▸A) c)) ?_;rintro _ _ w5 ⟨_,rfl,rfl,rfl⟩;refine dZ rfl rfl (DT rfl underlying454 rfl underlying23 rfl rfl) ?_;refine Y ?_;refine dZ rfl rfl (gN rfl rfl) ?_;exact iy
  refine fP (λaj=>?_) λaj=>?_
  .refine cC ?_;obtain⟨d,h,rfl⟩:∃d h,b=d::h:=by
    cases b with
    |nil=>simp[iG,c4,dC]at aj
    |cons d t=>exact⟨d,t,rfl⟩
   refine eu (mK Q e _ y q n l E) ?_;refine Pw 2 func376 (λs u c=>N7 y e _ l d.1 s A c) ?_;rintro _ _ w6 ⟨rfl,L,rfl,_,w⟩;obtain rfl:=w (iG f) d.1 _ (iG h) (by rw[hS,oe];rfl) rfl;refine cC ?_;refine fu [1,1,0,0] ?_;refine qh (d:=[]) [_,_,_,_] ?_;refine cH [0,1,2,3,9] ?_;refine⟨h.length,by rw[hk];exact Fy _,f++[d],h,by rw[G6];rfl,rfl,by rw[hS,dJ];rfl,λt R=>?_,rfl⟩;rcases dV.1 R with R|R
   .exact an t R
   .rw[fI]at R;subst R;have h2:=(iu _ _).mp aj|>.2;have h3:(t.2.1:Int)<(x:Int):=nr h2;omega
  .have aG:b=[]\/x<=K5 b:=by
    cases b with
    |nil=>exact .inl rfl
    |cons d t=>refine .inr (Nat.le_of_not_lt λK=>aj ?_);rw[iu];refine⟨?_,gb (by show(d.2.1:Int)<x;have h':d.2.1<x:=K;omega)⟩;simp only[wF,dA,dC];exact gb (by omega)
   refine dI ?_;refine cL ?_;refine I (e9 rfl rfl) ?_;refine Y ?_;refine lj (H:=2) (A:=decide ((K5 b:Int)≠(x:Int))) 6 [(0,_),(1,_),(2,_),(3,_),(9,_)] ⟨rfl,rfl,rfl,rfl,rfl,trivial⟩ rfl rfl rfl rfl rfl (λay=>?_) (λaW=>?_)
   .refine cC ?_;obtain⟨d,h,rfl⟩:∃d h,b=d::h:=by
     cases b with
     |nil=>simp[iG,c4,dC]at ay
     |cons d t=>exact⟨d,t,rfl⟩
    refine nh rfl rfl (ft (cz (mK Q e _ y q n l E)) [] func361 (cD _) (λs u c=>Et Q e _ f d h y q n l E s (hS▸A) c)) ?_;rintro _ _ w5 ⟨_,rfl,rfl,rfl⟩;refine dZ rfl rfl (DT rfl underlying454 rfl underlying23 rfl rfl) ?_;refine Y ?_;refine dZ rfl rfl (jt rfl rfl) ?_;exact iy
   refine cH [0,1,2,3,9,54] ?_;refine eS (λm H w'=>∃(ab:C Bk)(o:Bk)(ad:C Bk)(T:V)(B:C V)(ah:V)(D:C V),m=[(0,Z Q),(1,F S),(9,F o.1)]/\H=[cz (mK Q e (en (ai++am)).length y q n T (B++ah::D))]/\iZ eT y e (iG (ab++o::ad)) T/\mQ e ab B/\iZ fD o.2.2.1 e o.2.2.2 ah/\mQ e ad D/\o.2.2.2.length<e/\(∀L,uH (c4 o.2.2.2) L->k6 e (ab++xV o L S::ad) (n.set S (some (o.1,L)))/\en (ab++xV o L S::ad)=fW (en (ai++am)) S x)) ?_ ?_
   .refine kL rfl (λW=>?_) (λW=>?_)
    .obtain⟨B,D,aF,av,aw⟩:=mQ.split (hS▸aB:mQ e (f++b) E);subst aF;have p:k6 e (f++b) n:=hS▸hI;have au:(S:Int)∉eR (en (f++b)):=hS▸ak;have X:=HJ p.vw p.kI (id:=(S:Int)) (by omega) au;have aI:=abo p.ne;simp only[eR,dL]at X;have az:=Xy (f++b);have ae:iZ eT y e (iG (f++b)) l:=hS▸A;have ao:∀d∈b,x<d.2.1:=by
      cases b with
      |nil=>exact λd hs=>absurd hs (nn)
      |cons d h=>
       have h1:x<=d.2.1:=by
        rcases aG with K|K
        .cases K
        .exact K
       have h2:d.2.1≠x:=by
        rw[jh]at W;rcases W with K|K
        .have h':=nr K;simp only[wF,dA,dC]at h';omega
        .have h':=nr K;have aX:(d.2.1:Int)≠x:=h';omega
       intro t R;rcases dh.1 R with rfl|R
       .omega
       .have:=(JI p.od).2 t R;omega
     refine NX 0 0 ?_;refine dd func377 (λs u=>ach e s) ?_;rintro _ _ w7 (⟨_,rfl,rfl⟩|⟨k',k0,rN,aY,_,_,rfl,rfl,aK⟩)
     .omega
     obtain rfl:e=k':=by omega
     refine N [0,1,2,3,10,11] ?_;refine cL ?_;refine I (jt rfl rfl) ?_;refine cH [0,1,2,3,10,11,64] ?_;refine kL rfl (λK=>absurd K (by simp)) (λ_=>?_);refine df ?_;refine I (ee (λs=>XP _ _ s)) ?_;refine dj [J 0,vQ] λaO aP=>?_;refine cO 0 λaQ=>?_;refine cH [0,1,3,12] ?_;refine cL ?_;refine I (e9 rfl rfl) ?_;refine fu [2,0,0] ?_;refine CK (mK Q e _ y q n l (B++D)) ?_;refine fu [0,0,1,2,1,0] ?_;refine cH [0,1,3,12,70] ?_;refine eS (λm H w'=>∃(L:Nat)(ag:V),m=[(0,Z Q),(1,F S),(9,F L),(11,F 0)]/\H=[cF Q [F e,F ((en (ai++am)).length:Int),Z y,q] 457,row q 512 3 e (jI n),cz (B++D),rN,ag]/\iZ eT y e (iG (f++(L,x,k0,[])::b)) ag/\L∉(f++b).map (·.1)) ?_ ?_
     .refine jc rfl (λaq=>?_) (λaq=>?_)
      .obtain rfl:f=[]:=Rl (by simpa using aq);refine eO 11 [5] [_,_,_,_,_] [_] (cD _) λaT=>?_;refine cL ?_;refine cN rfl (di 4 (b:=[_,_])) ?_;refine eh rfl (ft l [_,_,_,_,_] func378 (c8 5 rfl) (λs u c=>W8 y e _ (x,some k0) l s al ae c)) ?_;rintro _ _ a1 ⟨_,rfl,⟨K,_⟩|⟨_,L,r2,w,rfl,rfl,P⟩⟩
       .exfalso;rw[kF,kF]at K;rw[kF]at aI X az;omega
       refine⟨_,lF,?_⟩;refine df ?_;refine Ax [0,1,9,11] [0,0,0,0,1] ?_;exact⟨L,r2,rfl,rfl,P,by rw[<-R5];exact w.1⟩
      .obtain⟨A0,G,rfl⟩:=Rm (by simpa using aq);rw[G6];refine eO 12 [6] [_,_,_,_,_] [_] (cD _) λaU=>?_;refine df ?_;refine cN rfl (di 4 (b:=[_,_])) ?_;refine eh rfl (ft l [_,_,_,_,_] func379 (c8 5 rfl) (λs u c=>W7 y e _ G.1 (x,some k0) l s al ae c)) ?_;rintro _ _ a2 ⟨_,rfl,hG⟩;rw[oe,oe,dJ]at hG;have aA:=ae.nd;rw[oe,oe,dJ]at aA
       replace hG:=AA.ok (A:=iG A0) (y:=G.1) (a:=(G.2.1,some G.2.2.1)) (B:=iG b) hG aA
       obtain⟨K,_⟩|⟨_,L,r2,w,rfl,rfl,P⟩:=hG
       .exfalso;rw[oe,oe]at az;have:(iG A0++[(G.1,G.2.1,some G.2.2.1)]++iG b).length=e:=K;have h3:(iG A0++iG [G]++iG b).length=e:=this;omega
       refine⟨_,lF,?_⟩;refine df ?_;refine Ax [0,1,9,11] [0,0,0,0,1] ?_;refine⟨L,r2,rfl,rfl,?_,?_⟩
       .rw[oe,oe,wF];exact P
       .rw[<-R5,oe,oe];exact w.1
     .rintro _ _ a3 ⟨L,ag,rfl,rfl,aE,aN⟩;refine cQ ?_;refine I (jt rfl rfl) ?_;refine cH [0,1,9,11,91] ?_;refine kL rfl (λK=>absurd K (by simp)) (λ_=>?_);refine cK [3,2,0,0,0] ?_;refine Ix ?_;refine cK [1,1,1,0] ?_;refine dG (d:=[]) [_,_,_,_] ?_;refine kw [0,1,9] rfl (iY ?_);exact⟨f,(L,x,k0,[]),b,ag,B,rN,D,rfl,rfl,aE,av,aK,aw,by show 0<e;omega,λz hz=>⟨p.bucket hx au aN an ao hc,by rw[hS];exact(aco an ao).symm⟩⟩
    .obtain⟨d,h,rfl⟩:∃d h,b=d::h:=by
      cases b with
      |nil=>exact absurd rfl W
      |cons d t=>exact⟨d,t,rfl⟩
     have aM:d.2.1=x:=by refine pI λK=>W ?_;rw[jh];exact .inr (gb (by show(d.2.1:Int)≠x;omega))
     refine kw [0,1,9] rfl (iY ?_);obtain⟨B,rb,rfl,h1,h2⟩:=mQ.split (hS▸aB:mQ e (f++d::h) E);obtain⟨ah,D,rfl,h3,h4⟩:=h2.cons_inv;have p:k6 e (f++d::h) n:=hS▸hI;have X:=HJ p.vw p.kI (id:=(S:Int)) (by omega) (hS▸ak);refine⟨f,d,h,l,B,ah,D,rfl,rfl,hS▸A,h1,h3,h4,?_,λL w=>⟨p.push hx (hS▸ak) w.1,?_⟩⟩
     .rw[KL]at X;simp only[eR,dL,cX,oJ]at X;omega
     .rw[hS,<-aM,acs p.od]
   .rintro _ _ a4 ⟨ab,o,ad,T,B,ah,D,rfl,rfl,af,av,aL,aw,aZ,aC⟩;refine Pw 0 func361 (λs u c=>Et Q e _ ab o ad y q n T _ s af c) ?_;rintro _ _ a5 ⟨rfl,rfl⟩;rw[eN];refine CK (mK Q e _ y q n T (B++ah::D)) ?_;refine fu [3,0,0,0] ?_;refine atl ?_;refine I (DT rfl underlying454 rfl underlying452 rfl rfl) ?_;refine Pw 0 func380 (λs u c=>acA o.2.2.1 e o.2.2.2 (S:Int) ah s al aL c) ?_;rintro _ _ a6 (⟨K,_⟩|⟨_,L,r2,w,rfl,rfl,P⟩)
    .exfalso;rw[eN]at K;omega
    rw[eN]at w;obtain⟨aH,ar⟩:=aC L w;have a0:=hI.len;have aD:=HJ hI.vw hI.kI (id:=(S:Int)) (by omega) ak;simp only[eR,dL]at aD;refine N [0,1,9,13,14] ?_;refine cL ?_;refine I (jt rfl rfl) ?_;refine cH [0,1,9,13,14,103] ?_;refine kL rfl (λK=>absurd K (by simp)) (λ_=>?_);refine cC ?_;refine eQ λu=>?_;obtain⟨g,cp,rfl⟩:=fs u (q:=3) rfl;clear u;refine iq ?_;refine I (ee (λs=>Yk _ _ s)) ?_;refine I (cR (ab:=S) (ad:=hx)) ?_;refine iQ (fK 3 (q:=sE (some (o.1,L))) (y:=jI (n.set S (some (o.1,L)))) (h1:=by simp[sE,Value.oneCell']) (hl:=by rw[HF];show 0+S*3+3<=_;omega) (ae:=Sp _ (by omega))) ?_;rintro _ _ aR rfl;refine KW 2 λaS=>?_;refine cH [] ?_;refine N [8] ?_;refine Ix ?_;refine cK [1,1,1,0] ?_;refine dG (d:=[]) [_,_,_,_] ?_;refine dP results363 ?_;refine⟨rfl,_,rfl,ab++xV o L S::ad,ar.symm,aJ,al,y,vS g e cp,_,T,B++r2::D,?_,?_,av.join ⟨P,aw⟩,aH⟩
    .rw[Mh,ar,acq,mK];rfl
    .rw[oe,wF]at af;rw[oe,wF];exact af
def Yl (a:O):(Instr.build 512 #[]).run prog a=.ok (PE [.bool false,F 0,F 0]) a:=by kernel_rfl
def ain {b:eU}{id:Int}(a:id∈eR b):(rem b id).length+1=b.length:=by
 induction b with
 |nil=>simp[eR]at a
 |cons e b d=>
  rw[rem];split
  .simp
  .rename_i c;simp only[eR,dA,dh]at a;have:=d (by rcases a with rfl|a;exact absurd rfl c;exact a);rw[eE,eE];omega
def SQ (af k:Nat)(d:C Bk)(b:Bk)(t:C Bk)(ad ae:C (Nat×Int))(y o:Nat)(r:V)(w:O)(c:b.2.2.2=ad++(y,(o:Int))::ae)(hr:zj af k (d++b::t) r)(hs:Hl w r):Sr 362 [Z af,F o] w r λv H=>v=.tuple #[J b.2.1,F (dC (-1) (c4 (iG d)).reverse)]/\∃e r',H=[r']/\zj af k (d++e) r'/\en (d++e)=rem (en (d++b::t)) (o:Int):=by
 obtain⟨am,E,R,pV,u,n,rs,rfl,G,ao,l⟩:=id hr;have az:=l.len;have X:(o:Int)∈eR (en (d++b::t)):=D8.2 ⟨b,by simp,y,by rw[c];simp⟩;have ai:=l.kI _ X
 replace ai:o<k:=by omega
 have al:u[o]? =some (some (b.1,y)):=by have:=l.at_ b (by simp) (y,(o:Int)) (by rw[c];simp);simpa using this
 obtain⟨ra,rb,rfl,S,an⟩:=ao.split;obtain⟨ri,rc,rfl,W,T⟩:=an.cons_inv;have aA:=ain X;obtain⟨K,_⟩:=HM l c;have ay:(en (d++b::t)).length<=k:=by have:=L8 l.vw l.kI;simpa[eR]using this
 have f:iZ eT R k (iG d++(b.1,b.2.1,some b.2.2.1)::iG t) n:=by rw[oe,wF]at G;exact G
 refine dR func362 hs ?_;refine eQ λp=>?_;obtain⟨g,ag,rfl⟩:=nB p (s:=0) (t:=1) rfl rfl;clear p;refine NX 0 0 ?_;refine Y ?_;refine I (cR (ab:=o) (ad:=ai)) ?_;refine I (qN 0 1 (b:=sE (some (b.1,y))) (hv:=LY al)) ?_;refine dj [.bool false,F 0,F 0] λap aq=>?_;refine cO 0 (u:=[_,_,_]) λar=>?_;refine Pw 1 func361 (λw p a=>Et af k _ d b t R _ u n _ w G a) ?_;rintro _ _ w2 ⟨rfl,rfl⟩;refine dj [J 0,vQ] λx au=>?_;refine cO 0 (u:=[_,_]) λav=>?_;refine cH [0,1,6,7] ?_;refine Y ?_;refine cK [1,0,0] ?_;refine eu (mK af k _ R _ u n (ra++ri::rc)) ?_;refine cK [0,0,1,1,1,0] ?_;refine eO 8 [6] [_,_,_,_,_] [_] (cD _) λaB=>?_;refine eL ?_;refine eh rfl (ft n [_,_,_,_,_] func371 (c8 5 rfl) (λw p a=>XE R k _ n b.1 w f a)) ?_;rintro _ _ w3 ⟨_,rfl,rfl,z,rfl,_,hz⟩;obtain rfl:=hz (iG d) b.1 _ (iG t) rfl rfl;refine⟨_,lF,?_⟩;refine N [0,1,5,6,7] ?_;refine Y ?_;refine cK [2,0,0,0,0,0] ?_;refine Va ?_;refine Pw 0 func372 (λw p a=>ab2 b.2.2.1 k (ad++(y,(o:Int))::ae) y ri w E (c▸W) a) ?_;rintro _ _ w4 hG;obtain⟨ab,rfl,rfl,L⟩:=zi.ok hG (iZ.nd (c▸W));refine Pw 0 func373 (λw p a=>acd b.2.2.1 k (ad++ae) ab w L a) ?_;rintro _ _ w5 ⟨rfl,rfl⟩;refine I (e9 rfl rfl) ?_;refine cH [0,1,5,6,7,34] ?_;refine eS (λm H w'=>∃(e:C Bk)(s:C V)(P:V),m=[(0,Z af),(1,F o),(5,F (dC (-1) (c4 (iG d)).reverse)),(7,Z x)]/\H=[cF af [F k,F ((en (d++b::t)).length:Int),Z R,vS g k ag] 457,row (vS g k ag) 512 3 k (jI u),cz s,P,cF x [J b.2.1,Z b.2.2.1] 454]/\iZ eT R k (iG (d++e)) P/\mQ k (d++e) s/\k6 k (d++e) (u.set o none)/\en (d++e)=rem (en (d++b::t)) (o:Int)) ?_ ?_
 .refine jc rfl (λB=>?_) (λB=>?_)
  .have A:ad++ae=[]:=by have:((ad++ae).length:Int)=0:=B;exact Jk.1 (by omega)
   obtain⟨rfl,rfl⟩:=List.append_eq_nil_iff.1 A;refine eO 7 [6] [_,_,_,_,_,_] [_] (cD _) λaC=>?_;refine eL ?_;refine eh rfl (ft n [_,_,_,_,_,_] func374 (c8 6 rfl) (λw p a=>W9 R k _ b.1 n w E f a)) ?_;rintro _ _ w6 ⟨_,rfl,aj⟩;obtain⟨Q,rfl,rfl,q⟩:=zi.ok aj f.nd;refine⟨_,lF,?_⟩;refine Ax [0,1,5,7] [2,2,1,3,1] ?_;exact⟨t,ra++rc,Q,rfl,rfl,by rw[oe];exact q,S.join T,l.gone c,by rw[K,abn]⟩
  .have A:ad++ae≠[]:=λh=>B (by rw[h];rfl);refine Ix ?_;refine cK [1,1,0,2,0] ?_;refine kw [0,1,5,7] rfl (iY ?_);exact⟨zp b ad ae::t,ra++ab::rc,n,rfl,rfl,by rw[oe,wF];exact f,S.join ⟨L,T⟩,l.take c A,K.symm⟩
 .rintro _ _ w7 ⟨e,s,Q,rfl,rfl,q,ah,ak,D⟩;refine fw ?_;refine I (ee Yl) ?_;refine I (cR (ab:=o) (ad:=ai)) ?_;refine iQ (fK 1 (q:=sE none) (y:=jI (u.set o none)) (h1:=by simp[sE,Value.oneCell']) (hl:=by rw[HF];show 0+o*3+3<=_;omega) (ae:=Sp _ (by omega))) ?_;rintro _ _ aw rfl;refine KW 0 (t:=[_]) λax=>?_;refine cH [5,7] ?_;refine N [4,5] ?_;refine cK [0,0,1,0] ?_;refine dG (d:=[]) [_,_,_,_] ?_;refine dP results362 ?_;refine⟨rfl,e,_,rfl,⟨am,E,R,vS g k ag,_,Q,s,?_,q,ah,ak⟩,D⟩;rw[Mh,D,mK,show(((rem (en (d++b::t)) (o:Int)).length:Nat):Int)=((en (d++b::t)).length:Int)-1 by omega];rfl
end Go.Proofs.YtdlpoonfcdoiiaaGreat
