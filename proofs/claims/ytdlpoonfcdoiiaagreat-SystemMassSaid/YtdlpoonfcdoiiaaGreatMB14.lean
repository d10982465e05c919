/- What the code does, step by step, and plain facts: part 14. They have no conditions. -/
import Derived.Test.YtdlpoonfcdoiiaaGreatMB13
namespace Go.Proofs.YtdlpoonfcdoiiaaGreat
open Go.RowKit Go.Proofs.Tryz
set_option maxHeartbeats 40000000
set_option linter.all false
structure Dh (c:PC)(a:PS):Prop where
 dY:a.total<=9223372036854775808
 iO:a.iO<=a.total
 len:a.E.length<=96
 nD:gd (cE a.E)
 one:∀b∈a.E,b.1≠ByteArray.empty/\b.1.size<=255/\1<=b.2.1/\b.2.1+b.2.2<=a.total
 fk:fk a.E<=a.total
 rows:a.R=[]\/a.R.length=c.depth
 row:∀d∈a.R,d.length=c.width/\∀b∈d,b<=a.total
section
variable{b:O}{a:PC}
def ai2 {c:PS}(P:a.Ok)(G:Dh a c)(d h e K:M)(x:Rd b cW 3 e c.E.length (dn c.E))(D:o7 b cW K c.R):Sn 245 [gV a d h,xo c.total e c.iO K] b λr T=>r=F 0/\T=[]:=by
 obtain⟨B,ag,ad,A,y,ae,v,z⟩:=G;obtain⟨L,l,rfl,-,ab,X⟩:=id x;obtain⟨vs,-,⟨Q,s,rfl,-⟩,-⟩:=id D;refine enter (g:=62) func245 rfl rfl [(0,.agg (cP a d h).toArray),(1,PE [J c.total,.slice L c.E.length l,J c.iO,.slice Q c.R.length s])] rfl ⟨rfl,rfl,trivial⟩ hS ?_;refine Mf (f:=cP a d h) λi aj=>?_;refine dK λk ak=>?_;refine K4 [2,3,5,6,26,27,28] ?_;refine dB (λq m T w'=>∃f:Nat,m=[(2,Z i),(3,Z k),(5,J (fk (c.E.take f):Int)),(6,.bool true),(26,.slice L c.E.length l),(27,F c.E.length),(28,F f)]/\T=[cF k [J c.total,.slice L c.E.length l,J c.iO,.slice Q c.R.length s] 206,cF i (cP a d h) 27]/\q+f=c.E.length) c.E.length ⟨0,rfl,rfl,rfl⟩ ?_;rintro q _ _ w1 ⟨f,rfl,rfl,hq⟩;refine cZ (λH=>?_) λH=>?_
 .obtain⟨p,w⟩:∃p,c.E[f]? =some p:=⟨c.E[f]'(by omega),dr (by omega)⟩;obtain⟨g,o,rfl,-⟩:=X.resolve_left (by omega);obtain⟨t1,t2⟩:=LV w;obtain⟨ah,ai,k3,k4⟩:=y p (eH w);refine eL ?_;refine I (cR (ab:=f)) ?_;refine I (kY (b:=dy (some p)) (hc:=λj u af=>Cr x w af)) ?_;refine dj [vE,J 0,J 0] λW al=>?_;refine KW 0 (t:=dy (some p)) (G:=dy (some p)) (h1:=by simp[dy,Value.oneCell']) λam=>?_;refine K3 1 (f:=[J c.total,.slice (some ⟨g,o,.none⟩) c.E.length l,J c.iO,.slice Q c.R.length s]) ?_;refine Y ?_;refine dd func289 (λb t=>ai7 _ _ f p (x.dx t) ⟨_,_,_,rfl⟩ w A ah ai k3 k4 B (by omega)) ?_;rintro _ _ an ⟨rfl,rfl⟩;refine cB ?_;refine dd func88 (λb t=>qL (fk (c.E.take f)) p.2.1 b) ?_;rintro _ _ w2 ⟨rfl,rfl⟩;rw[cM (show fk (c.E.take f)+p.2.1<18446744073709551616 by omega),gb (show fk (c.E.take f)+p.2.1<18446744073709551616 by omega)];refine N [2,3,5,6,10,26,27,28] ?_;refine N [2,3,5,6,26,27,28] ?_;refine cK [1,1] ?_;refine N [2,3,5,6,26,27,28] ?_;exact⟨q-1,by omega,f+1,by rw[t1];rfl,rfl,by omega⟩
 .obtain rfl:f=c.E.length:=by omega
  rw[j6];refine dI ?_;refine K3 1 (f:=cP a d h) ?_;refine I (di 0 (b:=[J c.total,.slice L c.E.length l,J c.iO,.slice Q c.R.length s])) ?_;refine dd func290 (λb t=>ajW P d h _ _ ⟨_,_,_,rfl⟩ (o7.dx D t) v z) ?_;rintro _ _ S ⟨rfl,rfl⟩;refine N [4] ?_;refine gT results245 ?_;exact⟨rfl,rfl⟩
end
section
variable{d:O}{a:PC}{sv b e:M}{c:C SV}
def adB (p:a.Ok)(W:c.length=a.dm)(l:me d cW sv c)(s:∀h∈c,Dh a h.S)(v:qd c<=9223372036854775808)(w:∃x a,e=.slice x 16 a):Sn 183 [gV a b e,sv] d λab z=>ab=F 0/\z=[]:=by
 have T:=p.dm;obtain⟨At,f,rfl⟩:=w;obtain⟨x,r,rfl,-,D,B⟩:=id l.1;refine enter (g:=35) func183 rfl rfl [(0,.agg (cP a b (.slice At 16 f)).toArray),(1,_)] rfl ⟨rfl,rfl,trivial⟩ hS ?_;refine Mf (f:=cP a b (.slice At 16 f)) λi H=>?_;refine K3 0 (f:=cP a b (.slice At 16 f)) ?_;refine dd func115 (λd k=>HS p b At f d) ?_;rintro _ _ K ⟨rfl,rfl⟩;refine K4 [1,2,19,20,21] ?_;refine dB (λG P z ad=>∃q:Nat,P=[(1,.slice x c.length r),(2,Z i),(19,.slice x c.length r),(20,F c.length),(21,F q)]/\z=[cF i (cP a b (.slice At 16 f)) 27]/\G+q=c.length) c.length ⟨0,rfl,rfl,rfl⟩ ?_;rintro G _ _ ae ⟨q,rfl,rfl,X⟩;refine cZ (λt=>?_) λt=>?_
 .obtain⟨h,m⟩:∃h,c[q]? =some h:=⟨c[q]'(by omega),dr (by omega)⟩;obtain⟨g,o,rfl,_⟩:=B.resolve_left (by omega);obtain⟨f1,f2⟩:=l.form m;obtain⟨d1,d2⟩:=l.2 h (eH m);refine df ?_;refine I (cR (ab:=q)) ?_;refine I (kY (b:=nc h) (hc:=λj u E=>l.at_ m E)) ?_;refine dj [J 0,vN,J 0,vN] λA L=>?_;refine cO 0 (u:=nc h) (H:=nc h) (h1:=Ig f1 f2) λQ=>?_;refine K3 1 (f:=cP a b (.slice At 16 f)) ?_;refine I (di 0 (b:=nc h)) ?_;refine dd func245 (λd k=>ai2 p (s h (eH m)) b (.slice At 16 f) h.e h.rv (d1.dx k) (o7.dx d2 k)) ?_;rintro _ _ R ⟨rfl,rfl⟩;refine N [1,2,8,19,20,21] ?_;refine N [1,2,8,19,20,21,29] ?_;refine cC ?_;refine cK [1] ?_;refine N [1,2,19,20,21] ?_;exact⟨G-1,by omega,q+1,rfl,rfl,by omega⟩
 .refine dI ?_;refine cL ?_;refine dd func137 (λd k=>RY (me.dx l k) (by omega) v) ?_;rintro _ _ y ⟨rfl,rfl⟩;refine N [34] ?_;refine N [4] ?_;refine gT results183 ?_;exact⟨rfl,rfl⟩
def qJ (a:PC)(f:Nat->PS)(g i:Nat):Nat:=((List.range i).map λh=>(f ((g+h) % a.dm)).iO).sum
def SY (a:PC)(f:Nat->PS)(g h:Nat):qJ a f g (h+1)=qJ a f g h+(f ((g+h) % a.dm)).iO:=by unfold qJ;rw[pL,dE,mV];simp
def aiJ {a:PC}{j:Nat->PS}{k g h:Nat}(l:g<=h):qJ a j k g<=qJ a j k h:=by
 obtain⟨f,rfl⟩:∃f,h=g+f:=⟨h-g,by omega⟩;induction f with
 |zero=>exact dT _
 |succ f i=>exact gF (i (by omega)) (by rw[<-ma,SY];omega)
def Ry (f:Nat)(g:C Nat)(h:Nat):oS f (g++[h])=max (oS f g) h:=by unfold oS;rw[uK];rfl
def adN {k:Nat->PS}(p:a.Ok)(Q:c.length=a.dm)(w:∀(i:Nat)(m:SV),c[i]? =some m->m.S=k i)(q:me d cW sv c)(v:∀m∈c,Dh a m.S)(D:qd c<=9223372036854775808)(E:∃K a,e=.slice K 16 a)(A:∀f,f<a.dm->qJ a k f a.spread<=9223372036854775808):Sn 141 [gV a b e,sv] d λr t=>r=J (Eh a k:Int)/\t=[]:=by
 have ag:=p.dm;have ah:=p.spread;obtain⟨At,l,rfl⟩:=E;obtain⟨K,u,rfl,-,R,L⟩:=id q.1;refine enter (g:=44) func141 rfl rfl [(0,.agg (cP a b (.slice At 16 l)).toArray),(1,_)] rfl ⟨rfl,rfl,trivial⟩ hS ?_;refine Mf (f:=cP a b (.slice At 16 l)) λh X=>?_;refine K3 0 (f:=cP a b (.slice At 16 l)) ?_;refine Ku func183 (λd z=>adB p Q (me.dx q z) v D ⟨_,_,rfl⟩) ?_;rintro _ _ P ⟨rfl,rfl⟩;refine K4 [1,2,5,14,15] ?_;refine dB (λT S t W=>∃f:Nat,S=[(1,.slice K c.length u),(2,Z h),(5,J (oS 0 ((List.range f).map λf=>qJ a k f a.spread):Int)),(14,F a.dm),(15,F f)]/\t=[cF h (cP a b (.slice At 16 l)) 27]/\T+f=a.dm) a.dm ⟨0,rfl,rfl,rfl⟩ ?_;rintro T _ _ w1 ⟨f,rfl,rfl,hq⟩;refine cZ (λx=>?_) λx=>?_
 .refine K4 [1,2,5,6,7,14,15,19,20] ?_;refine dB (λs S t W=>∃j:Nat,S=[(1,.slice K c.length u),(2,Z h),(5,J (oS 0 ((List.range f).map λf=>qJ a k f a.spread):Int)),(6,F f),(7,J (qJ a k f j:Int)),(14,F a.dm),(15,F f),(19,F a.spread),(20,F j)]/\t=[cF h (cP a b (.slice At 16 l)) 27]/\s+j=a.spread) a.spread ⟨0,rfl,rfl,rfl⟩ ?_;rintro s _ _ w2 ⟨j,rfl,rfl,af⟩;refine cZ (λy=>?_) λy=>?_
  .have ab:(f+j) % a.dm<a.dm:=uQ _ (by omega);obtain⟨m,G⟩:∃m,c[(f+j) % a.dm]? =some m:=⟨c[(f+j) % a.dm]'(by omega),dr (by omega)⟩;obtain⟨g,o,rfl,_⟩:=L.resolve_left (by omega);have H:=w _ m G;have B:=SY a k f j;have ad:=aiJ (a:=a) (j:=k) (k:=f) (g:=j+1) (h:=a.spread) (by omega);have ae:=A f (by omega);refine N [1,2,5,6,7,8,14,15,19,20] ?_;refine fh ?_;refine I (cR (ab:=(f+j) % a.dm) (hi:=by norm_cast)) ?_;refine Y ?_;refine I (jd (n:=J ((k ((f+j) % a.dm)).iO:Int)) (hc:=by rw[<-H];exact q.at_ (j:=2) G rfl)) ?_;refine dd func88 (λd z=>qL (qJ a k f j) (k ((f+j) % a.dm)).iO d) ?_;rintro _ _ w3 ⟨rfl,rfl⟩;rw[cM (show qJ a k f j+(k ((f+j) % a.dm)).iO<18446744073709551616 by omega)];refine ir [1,2,5,6,7,14,15,19,20] ?_;exact⟨s-1,by omega,j+1,by rw[B];rfl,rfl,by omega⟩
  .obtain rfl:j=a.spread:=by omega
   refine dI ?_;refine cQ ?_;refine I (wR (r:=((max (oS 0 ((List.range f).map λf=>qJ a k f a.spread)) (qJ a k f a.spread):Nat):Int)) rfl rfl (by split<;>omega)) ?_;refine ir [1,2,5,14,15] ?_;exact⟨T-1,by omega,f+1,by rw[pL,dE,dA,kD,Ry];rfl,rfl,by omega⟩
 .obtain rfl:f=a.dm:=by omega
  refine dI ?_;refine N [4] ?_;refine gT results141 ?_;exact⟨rfl,rfl⟩
end
def asN (a b:C Nat):dF (a++b)=dF a++dF b:=by unfold dF;rw[dE]
section
variable{a:O}
def abQ (g:Nat)(o:M)(b:C Nat)(a:O)(m:Rd a cW 1 o b.length (dF b))(q:b.length<=1000000):Sn 182 [J g,o] a λt i=>t=J (oS g b:Int)/\i=[]:=by
 obtain⟨p,j,rfl,-,l,k⟩:=id m;refine dR func182 hS ?_;refine K4 [0,7,8,9] ?_;refine dB (λn s i u=>∃c:Nat,s=[(0,J (oS g (b.take c):Int)),(7,.slice p b.length j),(8,F b.length),(9,F c)]/\i=[]/\n+c=b.length) b.length ⟨0,rfl,rfl,rfl⟩ ?_;rintro n _ _ v ⟨c,rfl,rfl,r⟩;refine cZ (λe=>?_) λe=>?_
 .obtain⟨h,f⟩:∃h,b[c]? =some h:=⟨b[c]'(by omega),dr (by omega)⟩;obtain⟨w,x,rfl,_,_,d⟩:=k.resolve_left (by omega);refine df ?_;refine I (cR (ab:=c)) ?_;refine I (jd (n:=J h) (hc:=by rw[fT];exact d c _ (by unfold dF;rw[eK,f];rfl))) ?_;refine N [0,6,7,8,9] ?_;refine cQ ?_;refine I (wR (r:=((max (oS g (b.take c)) h:Nat):Int)) rfl rfl (by split<;>omega)) ?_;refine ir [0,7,8,9] ?_;refine⟨n-1,by omega,c+1,?_,rfl,by omega⟩;rw[ia,f];show _=[(0,Value.int .u64 ((oS g (b.take c++[h]):Nat):Int)),_,_,_];rw[Ry];rfl
 .obtain rfl:c=b.length:=by omega
  rw[j6];refine dI ?_;refine db results182 ?_;exact⟨rfl,rfl⟩
def ald (i:Nat)(w:M)(b:C En)(a:O)(f:Rd a cW 3 w b.length (dn b))(y:b.length<=100000):Sn 140 [w,J i] a λB j=>B=J (oS i (b.map λc=>c.2.2):Int)/\j=[]:=by
 obtain⟨x,m,rfl,-,o,n⟩:=id f;refine dR func140 hS ?_;refine N [0,1] ?_;refine N [0,1,5] ?_;refine N [1,5,8,9,10] ?_;refine Y ?_;refine gh 23 1 ?_;refine dB (λr A j D=>∃(d:Nat)(h:M),A=[(1,J i),(5,h),(8,.slice x b.length m),(9,F b.length),(10,F d)]/\j=[row h 23 1 d (dF ((b.take d).map λc=>c.2.2))]/\r+d=b.length) b.length ⟨0,_,rfl,rfl,rfl⟩ ?_;rintro r _ _ E ⟨d,h,rfl,rfl,z⟩;refine cZ (λe=>?_) λe=>?_
 .obtain⟨c,g⟩:∃c,b[d]? =some c:=⟨b[d]'(by omega),dr (by omega)⟩;obtain⟨H,L,rfl,_⟩:=n.resolve_left (by omega);refine df ?_;refine I (cR (ab:=d)) ?_;refine I (kY (b:=dy (some c)) (hc:=λK h q=>Cr f g q)) ?_;refine dj [vE,J 0,J 0] λk s=>?_;refine cO 0 (u:=dy (some c)) (H:=dy (some c)) (h1:=by simp[dy,Value.oneCell']) λt=>?_;refine cB ?_;refine gZ qe (ae:=by decide) λl u=>?_;refine dw (jo 2 qe) ?_;rintro u2 _ G ⟨_,rfl⟩;refine fu [2] ?_;refine ir [1,5,8,9,10] ?_;refine⟨r-1,by omega,d+1,u2,rfl,?_,by omega⟩;rw[ia,g];show _=[row u2 23 1 (d+1) (dF ((b.take d++[c]).map λc=>c.2.2))];rw[dE,asN];rfl
 .obtain rfl:d=b.length:=by omega
  rw[j6];refine dI ?_;refine cL ?_;refine dd func182 (λa p=>abQ i h (b.map λc=>c.2.2) a (by rw[dL];exact Rd.dM p (l:=0) rfl) (by rw[dL];omega)) ?_;rintro _ _ v ⟨rfl,rfl⟩;refine N [4] ?_;refine gT results140 ?_;exact⟨rfl,rfl⟩
end
def ta {a:C En}{b:Nat}{c:En}(d:a[b]? =some c):((dn a).drop (0+b*3)).take 3=dy (some c):=tZ d
def BK {a:C En}{b:Nat}(c:En)(e:b<a.length):(dn a).take (0+b*3)++dy (some c)++(dn a).drop (0+b*3+3)=dn (a.set b c):=by
 have f:a=a.take b++a[b]::a.drop (b+1):=by rw[<-jP e,gJ]
 have d:a.set b c=a.take b++c::a.drop (b+1):=qU.trans (cM e);rw[d]
 conv=>lhs;rw[f]
 exact Kk _ _ _ _ (by rw[eD];omega)
def swp (a:C En)(b c:Nat):C En:=match a[b]?,a[c]?with
 |some d,some e=>(a.set b e).set c d
 |_,_=>a
def Ih {a:C En}{d e:Nat}{f g:En}(b:a[d]? =some f)(c:a[e]? =some g):swp a d e=(a.set d g).set e f:=by unfold swp;rw[b,c]
def BZ (a d:C En)(c:En){b:Nat}(e:b=a.length):(a++c::d)[b]? =some c:=by subst e;rw[nm (dT _),nK];rfl
def Te (a b:C En)(f d:En){c:Nat}(e:c=a.length):(a++f::b).set c d=a++d::b:=by subst e;rw[C4 _ _ (dT _),nK];rfl
def Ua (a c e:C En)(d b:En){i g:Nat}(f:i=a.length)(j:g=a.length+1+c.length):swp (a++d::(c++b::e)) i g=a++b::(c++d::e):=by
 have h:(a++d::(c++b::e))[g]? =some b:=by have:=BZ (a++d::c) e b (b:=g) (by simp;omega);simpa using this
 rw[Ih (BZ a _ d f) h,Te _ _ _ _ f];have:=Te (a++b::c) e b d (c:=g) (by simp;omega);simpa using this
def akp (b:C En)(c d:Nat):swp b c d=swp b d c:=by
 unfold swp;cases e:b[c]? <;>cases a:b[d]? <;>try rfl
 by_cases f:c=d
 .subst f;rw[e]at a;cases a;rfl
 .exact List.set_comm _ _ f
def Ub (a b:C En)(e f:En){d:Nat}(c:d=a.length):swp (a++e::f::b) d (d+1)=a++f::e::b:=Ua a [] b e f c (by simp;omega)
def akq {d b g c i:C En}{h a k l:Nat}(o:b.length=h)(p:c.length=h)(s:a<h)(q:k=d.length+a)(r:l=d.length+h+g.length+a):swp (d++(c.take a++b.drop a)++g++(b.take a++c.drop a)++i) k l=d++(c.take (a+1)++b.drop (a+1))++g++(b.take (a+1)++c.drop (a+1))++i:=by
 have m:b.drop a=b[a]::b.drop (a+1):=jP (by omega);have n:c.drop a=c[a]::c.drop (a+1):=jP (by omega);have e:b.take (a+1)=b.take a++[b[a]]:=by rw[ia,dr (by omega)];rfl
 have f:c.take (a+1)=c.take a++[c[a]]:=by rw[ia,dr (by omega)];rfl
 rw[m,n,e,f];have:=Ua (d++c.take a) (b.drop (a+1)++g++b.take a) (c.drop (a+1)++i) b[a] c[a] (i:=k) (g:=l) (by simp;omega) (by simp;omega);simp only[dJ,kP,kF]at this|-;exact this
section
variable{lt:En->En->Bool}
def yE {h:C En}(k:iF lt h){f g:Nat}{i j:En}(d:h[f]? =some i)(e:h[g]? =some j)(a:f<g):lt i j=true:=by obtain⟨b,rfl⟩:=da.1 d;obtain⟨c,rfl⟩:=da.1 e;exact r3.1 k f g b c a
def TN {a b:C En}(c:iF lt a)(d:iF lt b)(e:∀f∈a,∀g∈b,lt f g=true):iF lt (a++b):=mU.2 ⟨c,d,e⟩
def TO {a b:C En}:iF lt (a++b)↔iF lt a/\iF lt b/\∀c∈a,∀d∈b,lt c d=true:=mU
def Hg {c:C En}{d:Nat}{e:En}(f:e∈c.take d):∃b,b<d/\c[b]? =some e:=by
 obtain⟨b,a⟩:=ka.1 f;rw[mT]at a;split at a
 .exact⟨b,by assumption,a⟩
 .cases a
def LG {d:C En}{c:Nat}{e:En}(f:e∈d.drop c):∃b,c<=b/\d[b]? =some e:=by obtain⟨b,a⟩:=ka.1 f;rw[kQ]at a;exact⟨c+b,by omega,a⟩
def Zb (B:qm lt){p q:C En}{E r:Nat}(y:iF lt p)(z:iF lt q)(j:(cE (p++q)).Nodup)(w:E=0\/q.length<=r\/∃b c,p[E-1]? =some b/\q[r]? =some c/\lt c b=false)(x:r=0\/p.length<=E\/∃b c,q[r-1]? =some b/\p[E]? =some c/\lt b c=true):∀b∈p.take E++q.take r,∀c∈p.drop E++q.drop r,lt b c=true:=by
 have L:∀{b c},b∈p->c∈q->b.1≠c.1:=λ{b c} g h G=>by unfold cE at j;rw[dE,kR]at j;exact j.2.2 _ (gu g) _ (gu h) G
 have le:∀{o:C En},iF lt o->∀{s t:Nat}{b c D:En},o[s]? =some b->o[t]? =some c->s<=t->lt c D=true->lt b D=true:=λ{o} A {s t b c D} f d i l=>by
  rcases o4 i with v|v
  .exact B.tr (yE A f d v) l
  .subst v;rw[f]at d;cases d;exact l
 have u:∀{o:C En},iF lt o->∀{s t:Nat}{b c D:En},o[s]? =some b->o[t]? =some c->s<=t->lt D b=true->lt D c=true:=λ{o} A {s t b c D} f d i l=>by
  rcases o4 i with v|v
  .exact B.tr l (yE A f d v)
  .subst v;rw[f]at d;cases d;exact l
 intro b g c h;rcases dV.1 g with g|g<;>rcases dV.1 h with h|h<;>obtain⟨s,f,e⟩:=Hg g<;>obtain⟨t,d,a⟩:=LG h
 .exact yE y e a (by omega)
 .have H:=(da.1 a).1;rcases w with w|w|⟨Q,R,m,n,k⟩
  .omega
  .omega
  .have K:lt Q R=true:=B.dY (λr=>L (eH m) (eH n) r.symm) k;exact le y e m (by omega) (u z n a (by omega) K)
 .have H:=(da.1 a).1;rcases x with x|x|⟨Q,R,m,n,k⟩
  .omega
  .omega
  .exact le z e m (by omega) (u y n a (by omega) k)
 .exact yE z e a (by omega)
end
def R4 {e b c:C En}(f:(cE e).Nodup)(d:(b++c).Perm e):(cE b).Nodup/\(cE c).Nodup:=by have a:(cE (b++c)).Nodup:=(d.map Prod.fst).nodup_iff.2 f;unfold cE at a;rw[dE,kR]at a;exact⟨a.1,a.2.1⟩
def J3 (a b:C En)(c d:Nat):((a.take c++b.take d)++(a.drop c++b.drop d)).Perm (a++b):=by
 have e:((a.take c++b.take d)++(a.drop c++b.drop d)).Perm ((a.take c++a.drop c)++(b.take d++b.drop d)):=by simp only[dJ];refine vX _ ?_;rw[<-dJ,<-dJ (a.drop c)];exact I5 _ lF
 rw[gJ,gJ]at e;exact e
def TJ {c:Type}[Inhabited c]{L:dX}{Q:fR}{enc:c->M}{t:O}{b e cap w d:Nat}{v:C c}{K:M}(G:Hl t (row (vS b e cap) w 1 e (v.map enc))){a:C c}(H:a.length=e)(E:d<=e)(B:Calls L Q #[vS b e cap] t λk u=>k=.returned K/\∃x s,u=Go.Sort.grow (Go.Sort.putRow enc (Go.Sort.ahead t x) b 0 a.toArray) s):fz L Q [vS b e cap] t (row (vS b e cap) w 1 e (v.map enc)).fq λS R=>S=K/\R=[row (vS b d cap) w 1 d ((a.take d).map enc)]:=by
 refine nY B λk u=>?_;rintro⟨rfl,x,s,rfl⟩;obtain⟨i,p,-⟩:=G.2.1;refine⟨K,[row (vS b d cap) w 1 d ((a.take d).map enc)],rfl,⟨⟨rfl,rfl,rfl,?_,λr h q=>?_⟩,⟨?_,?_,by simp⟩,trivial⟩,rfl,rfl⟩
 .simp[Go.Sort.grow,Go.Sort.putRow,Go.Sort.mapBlock,Go.Sort.ahead]
 .have o:b≠r:=λy=>q (by rw[<-y];rfl);rw[Go.Sort.heap_grow_old _ _ (by simpa using h)];simp[Go.Sort.putRow,Go.Sort.mapBlock,Go.Sort.ahead,Array.getElem?_modify,o]
 .have m:=Go.Lib.ownsRow_putRow (q:=x) (k:=d) (ys:=a) i H E;refine⟨m.1,?_⟩;rcases m.2 with⟨g,_⟩|⟨l,f,j,g,z,n,A⟩
  .cases g
  .have D:l<(Go.Sort.putRow enc (Go.Sort.ahead t x) b 0 a.toArray).heap.size:=(mS.1 n).1;exact .inr ⟨l,f,j,g,z,by rw[Go.Sort.heap_grow_old _ _ D];exact n,A⟩
 .intro r h;have:r=b:=by have:some b=some r:=h;cases this;rfl
  subst this;have:=(p r rfl).1;refine⟨?_,.inr rfl⟩;simp[Go.Sort.grow,Go.Sort.putRow,Go.Sort.mapBlock,Go.Sort.ahead];omega
def Oy {b:C (C UInt8)}(s:b.Pairwise λl v=>l<=v):∀a,a<=b.length->(Go.Lib.compactUpTo b.toArray a).Pairwise (λl v=>l<v)/\(∀w,w∈Go.Lib.compactUpTo b.toArray a↔w∈b.take a)
 |0,_=>by simp[Go.Lib.compactUpTo]
 |a+1,E=>by
  obtain⟨n,j⟩:=Oy s a (by omega);have k:b.toArray[a]! =b[a]:=by simp[getElem!_pos,show a<b.length by omega]
  have D:b.take (a+1)=b.take a++[b[a]]:=by rw[ia,dr (by omega)];rfl
  rw[Go.Lib.compactUpTo_succ,D,k];by_cases f:Go.Lib.keeps b.toArray a=true
  .rw[cM f];refine⟨mU.2 ⟨n,r4 _ _,λl A v o=>?_⟩,λw=>by simp only[dV,j]⟩;rw[fI]at o;subst o;obtain⟨m,g,t⟩:=List.getElem_of_mem ((j l).1 A);rw[eD]at g;rw[List.getElem_take]at t;have i:a≠0:=by omega
   have r:b[a]≠b[a-1]:=by
    have c:a=0\/b.toArray[a]!≠b.toArray[a-1]! :=by unfold Go.Lib.keeps at f;exact nr f
    have e:b.toArray[a-1]! =b[a-1]:=by simp[getElem!_pos,show a-1<b.length by omega]
    rw[k,e]at c;exact c.resolve_left i
   have h:∀m u (g:m<b.length) (q:u<b.length),m<=u->b[m]<=b[u]:=λm u g q p=>by
    rcases o4 p with d|d
    .exact r3.1 s m u g q d
    .subst d;exact List.le_refl _
   have x:l<=b[a-1]:=by rw[<-t];exact h _ _ (by omega) (by omega) (by omega)
   have y:b[a-1]<=b[a]:=h _ _ (by omega) (by omega) (by omega);have z:b[a-1]<b[a]:=pI λd=>r (List.le_antisymm (List.not_lt.1 d) y);exact List.lt_of_le_of_lt x z
  .rw[cJ f,eN];refine⟨n,λw=>?_⟩;rw[j,dV];constructor
   .exact .inl
   .rintro(d|d)
    .exact d
    .rw[fI]at d;subst d;have c:¬(a=0\/b.toArray[a]!≠b.toArray[a-1]!):=λd=>f (by unfold Go.Lib.keeps;exact gb d);have i:a≠0:=λd=>c (.inl d);have e:b.toArray[a-1]! =b[a-1]:=by simp[getElem!_pos,show a-1<b.length by omega]
     have B:b[a]=b[a-1]:=by rw[k,e]at c;exact pI λd=>c (.inr d)
     rw[B];exact List.mem_iff_getElem.2 ⟨a-1,by rw[eD];omega,by rw[List.getElem_take]⟩
def b8 (a:U):C UInt8:=a.data.toList
def TX (a:C U):(a.map b8).map encStr=a.map Value.string:=Go.Lib.map_encStr a
def ad0 (a b:U):eI a b=decide (b8 a<b8 b):=bytesLess_eq _ _
def Y2 (d:C U):∃n,Go.Lib.compact ((d.map b8).mergeSort λa e=>decide (a<=e))=(qH d).map b8/\n=(qH d).length:=by
 refine⟨_,?_,rfl⟩;have q:=Fo (d.map b8) (λa e=>decide (a<=e));have s:((d.map b8).mergeSort λa e=>decide (a<=e)).Pairwise λi j=>i<=j:=by
  have:=Jl (le:=λa e:C UInt8=>decide (a<=e)) (λi j x f c=>by
   simp only[fU]at*;exact List.le_trans f c) (λi j=>by
   simp only[jh,fU];exact List.le_total i j) (d.map b8)
  exact this.imp λu=>nr u
 obtain⟨f,c⟩:=Oy s _ (dT _);generalize w:(d.map b8).mergeSort (λa e=>decide (a<=e))=m at*;show Go.Lib.compactUpTo m.toArray m.length=_;generalize v:Go.Lib.compactUpTo m.toArray m.length=h at*;rw[j6]at c;have b:∀a,a∈h↔∃g∈d,b8 g=a:=λa=>by rw[c,q.mem_iff,dz]
 have k:h=(h.map λa=>(⟨a.toArray⟩:U)).map b8:=by rw[jj];refine(wc h).symm.trans (k5 λa _=>?_);simp[b8]
 have hS:gd (h.map λa=>(⟨a.toArray⟩:U)):=by refine oE.2 (f.imp λ{i j} l=>?_);rw[ad0];exact gb (by simpa[b8]using l)
 have p:∀g,g∈(h.map λa=>(⟨a.toArray⟩:U))↔g∈d:=λg=>by
  rw[dz];constructor
  .rintro⟨a,t,rfl⟩;obtain⟨n,r,rfl⟩:=(b a).1 t;have:(⟨(b8 n).toArray⟩:U)=n:=by simp[b8]
   rw[this];exact r
  .intro o;exact⟨b8 g,(b _).2 ⟨g,o,rfl⟩,by simp[b8]⟩
 rw[k,adI hS p]
def rf (e b d c f:C En)(a:Nat):C En:=e++(c.take a++b.drop a)++d++(b.take a++c.drop a)++f
def aaM (b d a e c:C En):rf b d a e c 0=b++d++a++e++c:=by simp[rf]
def aaK {e a d b f:C En}{c:Nat}(g:a.length=c)(h:b.length=c):rf e a d b f c=e++b++d++a++f:=by unfold rf;rw[gS (by omega),gS (by omega),qn (by omega),qn (by omega)];simp
def aaL {c e b f d:C En}{a g:Nat}(h:e.length=a)(i:f.length=a)(j:g<=a):(rf c e b f d g).length=c.length+a+b.length+a+d.length:=by unfold rf;simp only[cX,eD,iz];omega
section
variable{c:O}{b cap a:Nat}
def ME (g j h k i:C En){d e m:Nat}(y:M)(o:j.length=m)(p:k.length=m)(r:d=g.length)(H:e=g.length+m+h.length)(G:a=g.length+m+h.length+m+i.length)(D:a<=1000000)(A:Hl c (row (vS b a cap) 48 3 a (dn (g++j++h++k++i)))):Sr 323 [vS b a cap,F d,F e,F m,y] c (row (vS b a cap) 48 3 a (dn (g++j++h++k++i))) λ_ x=>x=[row (vS b a cap) 48 3 a (dn (g++k++h++j++i))]:=by
 refine Aq func323 A ?_;refine K4 [0,1,2,3,10] ?_;refine dB (λB R x c=>∃(f:Nat),R=[(0,vS b a cap),(1,F d),(2,F e),(3,F m),(10,F f)]/\x=[row (vS b a cap) 48 3 a (dn (rf g j h k i f))]/\B+f=m) m ⟨0,rfl,by rw[aaM],rfl⟩ ?_;rintro B _ _ S ⟨f,rfl,rfl,L⟩;refine cZ (λs=>?_) λs=>?_
 .have Q:(rf g j h k i f).length=a:=by rw[aaL o p (by omega)];omega
  obtain⟨q,t⟩:∃q,(rf g j h k i f)[d+f]? =some q:=⟨_,dr (by omega)⟩;obtain⟨n,u⟩:∃n,(rf g j h k i f)[e+f]? =some n:=⟨_,dr (by omega)⟩;refine cQ ?_;refine mm 24 [21,23] [(_,some 21)] [] (cD _) λE=>?_;refine fh ?_;refine cQ ?_;refine ew rfl (cR (ab:=e+f) (hi:=by omega)) ?_;refine ew rfl (je 0 (b:=dy (some n)) (hv:=ta u)) ?_;refine cL ?_;refine ew rfl (cR (ab:=d+f) (hi:=by omega)) ?_;refine ew rfl (je 0 (b:=dy (some q)) (hv:=ta t)) ?_;refine ew rfl (cR (ab:=d+f) (hi:=by omega)) ?_;refine jC rfl (fK 0 (q:=dy (some n)) (y:=dn ((rf g j h k i f).set (d+f) n)) (h1:=by simp[dy,Value.oneCell']) (hl:=by rw[pX,tY];omega) (ae:=BK n (by omega))) ?_;rintro _ _ v rfl;refine⟨_,cD _,?_⟩;refine ew rfl (cR (ab:=e+f) (hi:=by omega)) ?_;refine jC rfl (fK 0 (q:=dy (some q)) (y:=dn (((rf g j h k i f).set (d+f) n).set (e+f) q)) (h1:=by simp[dy,Value.oneCell']) (hl:=by rw[pX,tY,fy];omega) (ae:=BK q (by rw[fy];omega))) ?_;rintro _ _ w rfl;refine⟨_,cD _,?_⟩;refine ir [0,1,2,3,10] ?_;refine⟨B-1,by omega,f+1,rfl,?_,by omega⟩;have z:rf g j h k i (f+1)=((rf g j h k i f).set (d+f) n).set (e+f) q:=by rw[<-Ih t u];exact(akq o p (by omega) (by omega) (by omega)).symm
  rw[z];rfl
 .obtain rfl:f=m:=by omega
  rw[aaK o p];refine dI ?_;refine⟨_,_,λd r K=>im (p:=[]) results323 rfl d r _,gq _,?_⟩;rfl
def aiB (n w x v:C En){f i j:Nat}(y:M)(K:f=n.length)(hm:i=n.length+w.length)(hb:j=n.length+w.length+x.length)(hN:a=n.length+w.length+x.length+v.length)(z:a<=1000000)(T:0<w.length)(W:0<x.length)(hs:Hl c (row (vS b a cap) 48 3 a (dn (n++(w++x)++v)))):Sr 318 [vS b a cap,F f,F i,F j,y] c (row (vS b a cap) 48 3 a (dn (n++(w++x)++v))) λ_ S=>S=[row (vS b a cap) 48 3 a (dn (n++(x++w)++v))]:=by
 refine Aq func318 hs ?_;refine K4 [0,2,4,10,11] ?_;refine dB (λk m S c=>∃(g h:Nat)(p d e q:C En),m=[(0,vS b a cap),(2,F i),(4,y),(10,F g),(11,F h)]/\S=[row (vS b a cap) 48 3 a (dn (n++(p++d++e++q)++v))]/\k=g+h/\d.length=g/\e.length=h/\0<g/\0<h/\n.length+p.length+g=i/\p++e++d++q=x++w/\p.length+g+h+q.length=w.length+x.length) (w.length+x.length) ⟨w.length,x.length,[],w,x,[],?_,by simp,rfl,rfl,rfl,T,W,by simp;omega,by simp,by simp⟩ ?_
 .rw[show((i:Int)-(f:Int))=(w.length:Int) by omega,show((j:Int)-(i:Int))=(x.length:Int) by omega]
 rintro k _ _ w1 ⟨g,h,p,d,e,q,rfl,rfl,rfl,A,B,X,P,af,G,ab⟩;refine cZ (λL=>?_) λL=>?_
 .refine cZ (λQ=>?_) λQ=>?_
  .obtain⟨r,s,rfl,D⟩:∃r s,d=r++s/\r.length=h:=⟨d.take h,d.drop h,(gJ ..).symm,by rw[eD];omega⟩;have ad:h+s.length=g:=by rw[cX]at A;omega
   rw[show n++(p++(r++s)++e++q)++v=(n++p)++r++s++e++(q++v) by simp only[dJ,eN]];refine df ?_;refine I (cU (z:=F ((i-g:Nat):Int)) (Px rfl rfl) (by congr 1;omega)) ?_;refine cQ ?_;refine dw (nu (_) [] rfl func323 (by kernel_rfl) (cD _) (λc H o=>ME (n++p) r s e (q++v) y D B (by rw[cX];omega) (by rw[cX];omega) (by rw[cX,cX];omega) z o)) ?_;rintro _ _ R ⟨_,rfl,rfl⟩;refine ir [0,2,4,10,11] ?_;refine⟨g-h+h,by omega,g-h,h,p++e,s,r,q,?_,by simp only[dJ,eN],rfl,by omega,D,by omega,P,by rw[cX];omega,by rw[<-G];simp only[dJ,eN],by rw[cX];omega⟩;rw[show((g-h:Nat):Int)=(g:Int)-(h:Int) by omega]
  .obtain⟨t,u,rfl,E⟩:∃t u,e=t++u/\u.length=g:=⟨e.take (h-g),e.drop (h-g),(gJ ..).symm,by rw[iz];omega⟩;have ae:t.length+g=h:=by rw[cX]at B;omega
   rw[show n++(p++d++(t++u)++q)++v=(n++p)++d++t++u++(q++v) by simp only[dJ,eN]];refine df ?_;refine I (cU (z:=F ((i-g:Nat):Int)) (Px rfl rfl) (by congr 1;omega)) ?_;refine cL ?_;refine I (cU (z:=F ((i+h-g:Nat):Int)) (Px rfl rfl) (by congr 1;omega)) ?_;refine cC ?_;refine dw (nu (_) [] rfl func323 (by kernel_rfl) (cD _) (λc H o=>ME (n++p) d t u (q++v) y A E (by rw[cX];omega) (by rw[cX];omega) (by rw[cX,cX];omega) z o)) ?_;rintro _ _ R ⟨_,rfl,rfl⟩;refine ir [0,2,4,10,11] ?_;refine⟨g+(h-g),by omega,g,h-g,p,u,t,d++q,?_,by simp only[dJ,eN],rfl,E,by omega,X,by omega,by omega,by rw[<-G];simp only[dJ,eN],by rw[cX];omega⟩;rw[show((h-g:Nat):Int)=(h:Int)-(g:Int) by omega]
 .obtain rfl:g=h:=by omega
  rw[show n++(p++d++e++q)++v=(n++p)++d++[]++e++(q++v) by simp only[dJ,kF]];refine dI ?_;refine cL ?_;refine I (cU (z:=F ((i-g:Nat):Int)) (Px rfl rfl) (by congr 1;omega)) ?_;refine cQ ?_;refine dw (nu (_) [] rfl func323 (by kernel_rfl) (cD _) (λc H o=>ME (n++p) d [] e (q++v) y A B (by rw[cX];omega) (by rw[cX,qp];omega) (by rw[cX,cX,qp];omega) z o)) ?_;rintro _ _ R ⟨_,rfl,rfl⟩;refine cH [] ?_;refine⟨_,_,λf K H=>im (p:=[]) results318 rfl f K _,gq _,?_⟩;rw[<-G];simp only[dJ,kF,eN]
end
def GO {b:Int}{c:Nat}(h0:0<=b)(a:b/2=(c:Int)):b.fdiv (2^min (1:Int).toNat IntKind.u64.bits)=(c:Int):=by rw[Int.fdiv_eq_ediv_of_nonneg _ (by decide)];exact a
def GK {e a g h:C En}{f d:Nat}(b:f=e.length+d)(c:d<a.length):(e++(a++g)++h)[f]? =a[d]? :=by subst b;rw[dJ,nm (by omega),Nat.add_sub_cancel_left,dJ,nk c]
def GM {e d a g:C En}{f c:Nat}(b:f=e.length+d.length+c)(h:c<a.length):(e++(d++a)++g)[f]? =a[c]? :=by subst b;rw[dJ,nm (by omega),dJ,nm (by omega),nk (by omega)];congr 1;omega
def QK {d e:C En}(a:(cE (d++e)).Nodup){f g:En}(b:f∈d)(c:g∈e):f.1≠g.1:=λh=>by unfold cE at a;rw[dE,kR]at a;exact a.2.2 _ (gu b) _ (gu c) h
def FK (lt:En->En->Bool)(i:fR)(g cap c n:Nat):Prop:=∀(d a b f:C En)(j e k:Nat)(l:O),a.length+b.length<=n->0<a.length->0<b.length->j=d.length->e=d.length+a.length->k=d.length+a.length+b.length->c=d.length+a.length+b.length+f.length->iF lt a->iF lt b->(cE (a++b)).Nodup->Hl l (row (vS g c cap) 48 3 c (dn (d++(a++b)++f)))->Sr 306 [vS g c cap,F j,F e,F k,.func (.func i) #[] #[]] l (row (vS g c cap) 48 3 c (dn (d++(a++b)++f))) λ_ m=>∃h,m=[row (vS g c cap) 48 3 c (dn (d++h++f))]/\h.Perm (a++b)/\iF lt h
section
variable{lt:En->En->Bool}{b:fR}{d:Func}{c cap a:Nat}
def akt (ab:qm lt)(aL:prog.funcs[b]? =some d)(aK:(d.body.isNone,d.name== "runtime.NumGoroutine")=(false,false))(aA:rW prog b lt)(a7:a<=1000000){K:Nat}(ih:FK lt b c cap a K):FK lt b c cap a (K+1):=by
 intro t s u v g o q w hK hA hB ha hm hb hN sA sB aC hs;have aT:(t++(s++u)++v).length=a:=by simp only[cX];omega
 refine Aq func306 hs ?_;refine cZ (λaU=>?_) λaU=>?_
 .obtain⟨r,rfl⟩:∃r,s=[r]:=Jj.1 (by omega);refine K4 [0,1,4,10,11] ?_;refine dB (λk m H w=>∃(B R:Nat),m=[(0,vS c a cap),(1,F g),(4,.func (.func b) #[] #[]),(10,F ((o+B:Nat):Int)),(11,F ((o+R:Nat):Int))]/\H=[row (vS c a cap) 48 3 a (dn (t++([r]++u)++v))]/\R=B+k/\R<=u.length/\(∀D n,D<B->u[D]? =some n->lt n r=true)/\(∀D n,R<=D->u[D]? =some n->lt n r=false)) u.length ⟨0,u.length,?_,rfl,by omega,dT _,λD n ag=>by omega,λD n ag p=>by have:=(da.1 p).1;omega⟩ ?_
  .rw[show((o+u.length:Nat):Int)=(q:Int) by simp at hm hb;omega];rfl
  rintro k _ _ w1 ⟨B,R,rfl,rfl,hk,hq,ap,ao⟩;refine cZ (λa8=>?_) λa8=>?_
  .have bh:0<k:=by omega
   have bl:o=t.length+1:=by simpa using hm
   obtain⟨n,p⟩:∃n,u[(B+R)/2]? =some n:=⟨_,dr (by omega)⟩;have aH:(t++([r]++u)++v)[o+(B+R)/2]? =some n:=by rw[GM (c:=(B+R)/2) (by simp;omega) (by omega)];exact p
   have aG:(t++([r]++u)++v)[g]? =some r:=by rw[GK (d:=0) (by omega) (by simp)];rfl
   refine iq ?_;refine I (zA (r:=((o+(B+R)/2:Nat):Int)) rfl rfl (by omega) (GO (by omega) (by omega))) ?_;refine N [0,1,4,10,11,12] ?_;refine Y ?_;refine kB 11 [9] λbD=>?_;refine cQ ?_;refine cN rfl (Kz 3 (w:=o+(B+R)/2) rfl rfl underlying43 (by kernel_rfl) rfl) ?_;refine cN rfl (Gu (D:=dy (some n)) 0 rfl underlying48 rfl (by kernel_rfl) rfl (ta aH)) ?_;refine cC ?_;refine cN rfl (Kz 3 (w:=g) rfl rfl underlying43 (by kernel_rfl) rfl) ?_;refine cN rfl (Gu (D:=dy (some r)) 0 rfl underlying48 rfl (by kernel_rfl) rfl (ta aG)) ?_;refine eh rfl (q7 [] _ rfl rfl aL aK (cD _) (λw hh _=>by rw[so];exact aA n r w)) ?_;rintro _ _ w4 ⟨_,rfl,⟨n4,rfl,aq⟩,rfl⟩;refine⟨_,cD _,?_⟩;refine cN rfl (cU (z:=.bool (lt n r)) (gN rfl rfl) (dq Value.bool aq)) ?_;refine fP (λaB=>?_) λaB=>?_
   .refine N [0,1,4,10,11] ?_;refine⟨R-((B+R)/2+1),by omega,(B+R)/2+1,R,?_,rfl,by omega,hq,λD z T af=>?_,ao⟩
    .rw[show((o+((B+R)/2+1):Nat):Int)=((o+(B+R)/2:Nat):Int)+1 by omega]
    .rcases o4 (wj T)with ag|ag
     .exact ab.tr (yE sB af p ag) aB
     .subst ag;rw[af]at p;cases p;exact aB
   .refine N [0,1,4,10,11] ?_;refine⟨(B+R)/2-B,by omega,B,(B+R)/2,rfl,rfl,by omega,by omega,ap,λD z T af=>?_⟩;have az:lt n r=false:=by simpa using aB
    rcases o4 T with ag|ag
    .cases aQ:lt z r with
     |false=>rfl
     |true=>rw[ab.tr (yE sB p af ag) aQ]at az;cases az
    .subst ag;rw[af]at p;cases p;exact az
  .obtain rfl:B=R:=by omega
   have bB:a=t.length+1+u.length+v.length:=by simpa using hN
   have bl:o=t.length+1:=by simpa using hm
   refine dI ?_;refine K4 [0,10,13] ?_;refine dB (λk m H w=>∃(f:Nat),m=[(0,vS c a cap),(10,F ((o+B:Nat):Int)),(13,F ((g+f:Nat):Int))]/\H=[row (vS c a cap) 48 3 a (dn ((t++u.take f)++r::(u.drop f++v)))]/\f+k=B) B ⟨0,rfl,by simp,by omega⟩ ?_;rintro k2 _ _ w1 ⟨f,rfl,rfl,bi⟩;refine cZ (λa9=>?_) λa9=>?_
   .obtain⟨n,p⟩:∃n,u[f]? =some n:=⟨_,dr (by omega)⟩;have an:u.drop f=n::u.drop (f+1):=by obtain⟨S,rfl⟩:=da.1 p;exact jP S
    have aP:u.take (f+1)=u.take f++[n]:=by rw[ia,p];rfl
    rw[an,show(n::u.drop (f+1))++v=n::(u.drop (f+1)++v)from rfl];have a2:((t++u.take f)++r::n::(u.drop (f+1)++v)).length=a:=by have S:=dq List.length an;simp only[cX,eE,iz,eD,qp]at S hN|-;omega
    have ae:(t++u.take f).length=g+f:=by rw[cX,eD];omega
    have ak:((t++u.take f)++r::n::(u.drop (f+1)++v))[g+f]? =some r:=BZ _ _ _ ae.symm;have al:((t++u.take f)++r::n::(u.drop (f+1)++v))[g+f+1]? =some n:=by
     have:=BZ ((t++u.take f)++[r]) (u.drop (f+1)++v) n (b:=g+f+1) (by rw[cX,ae];rfl)
     rwa [dJ,nJ]at this
    refine cQ ?_;refine mm 18 [15,17] [(_,some 15)] [] (cD _) λbw=>?_;refine iq ?_;refine ew rfl (Kz 3 (w:=g+f+1) rfl rfl underlying43 (by kernel_rfl) (by omega)) ?_;refine ew rfl (Gu (D:=dy (some n)) 0 rfl underlying48 rfl (by kernel_rfl) rfl (ta al)) ?_;refine cC ?_;refine ew rfl (Kz 3 (w:=g+f) rfl rfl underlying43 (by kernel_rfl) rfl) ?_;refine ew rfl (Gu (D:=dy (some r)) 0 rfl underlying48 rfl (by kernel_rfl) rfl (ta ak)) ?_;refine ew rfl (Kz 3 (w:=g+f) rfl rfl underlying43 (by kernel_rfl) rfl) ?_;refine jC rfl (aam (B:=dy (some n)) (G:=dn (((t++u.take f)++r::n::(u.drop (f+1)++v)).set (g+f) n)) rfl rfl rfl (by kernel_rfl) (by simp[dy,Value.oneCell']) (by rw[pX,tY];omega) (BK n (by omega))) ?_;rintro _ _ bo rfl;refine⟨_,cD _,?_⟩;refine ew rfl (Kz 3 (w:=g+f+1) rfl rfl underlying43 (by kernel_rfl) (by omega)) ?_;refine jC rfl (aam (B:=dy (some r)) (G:=dn ((((t++u.take f)++r::n::(u.drop (f+1)++v)).set (g+f) n).set (g+f+1) r)) rfl rfl rfl (by kernel_rfl) (by simp[dy,Value.oneCell']) (by rw[pX,tY,fy];omega) (BK r (by rw[fy];omega))) ?_;rintro _ _ bp rfl;refine⟨_,cD _,?_⟩;refine ir [0,10,13] ?_;refine⟨k2-1,by omega,f+1,rfl,?_,by omega⟩;have S:(t++u.take (f+1))++r::(u.drop (f+1)++v)=(((t++u.take f)++r::n::(u.drop (f+1)++v)).set (g+f) n).set (g+f+1) r:=by rw[<-Ih ak al,Ub (t++u.take f) _ _ _ ae.symm,aP];simp only[dJ,kP,kF]
    rw[S];rfl
   .obtain rfl:f=B:=by omega
    refine dI ?_;refine dP results306 ?_;refine⟨u.take f++r::u.drop f,by simp only[dJ,kP],?_,?_⟩
    .refine eg.trans ?_;rw[gJ];exact cD _
    .refine My (by rw[gJ];exact sB) (λn p=>?_) λn p=>?_
     .obtain⟨D,T,W⟩:=Hg p;exact ap D n T W
     .obtain⟨D,T,W⟩:=LG p;exact ab.dY (λe=>QK aC (fI.2 rfl) (eH W) e.symm) (ao D n T W)
 .refine cZ (λba=>?_) λba=>?_
  .obtain⟨r,rfl⟩:∃r,u=[r]:=Jj.1 (by omega);refine K4 [0,2,4,14,15] ?_;refine dB (λk m H w=>∃(B R:Nat),m=[(0,vS c a cap),(2,F o),(4,.func (.func b) #[] #[]),(14,F ((g+B:Nat):Int)),(15,F ((g+R:Nat):Int))]/\H=[row (vS c a cap) 48 3 a (dn (t++(s++[r])++v))]/\R=B+k/\R<=s.length/\(∀D n,D<B->s[D]? =some n->lt r n=false)/\(∀D n,R<=D->s[D]? =some n->lt r n=true)) s.length ⟨0,s.length,?_,rfl,by omega,dT _,λD n ag=>by omega,λD n ag p=>by have:=(da.1 p).1;omega⟩ ?_
   .rw[show((g+s.length:Nat):Int)=(o:Int) by omega];rfl
   rintro k _ _ w1 ⟨B,R,rfl,rfl,hk,hq,ap,ao⟩;refine cZ (λbb=>?_) λbb=>?_
   .have bh:0<k:=by omega
    obtain⟨n,p⟩:∃n,s[(B+R)/2]? =some n:=⟨_,dr (by omega)⟩;have aH:(t++(s++[r])++v)[g+(B+R)/2]? =some n:=by rw[GK (d:=(B+R)/2) (by omega) (by omega)];exact p
    have aG:(t++(s++[r])++v)[o]? =some r:=by rw[GM (c:=0) (by omega) (by simp)];rfl
    refine iq ?_;refine I (zA (r:=((g+(B+R)/2:Nat):Int)) rfl rfl (by omega) (GO (by omega) (by omega))) ?_;refine N [0,2,4,14,15,16] ?_;refine Y ?_;refine kB 12 [9] λbx=>?_;refine cQ ?_;refine cN rfl (Kz 3 (w:=o) rfl rfl underlying43 (by kernel_rfl) rfl) ?_;refine cN rfl (Gu (D:=dy (some r)) 0 rfl underlying48 rfl (by kernel_rfl) rfl (ta aG)) ?_;refine cC ?_;refine cN rfl (Kz 3 (w:=g+(B+R)/2) rfl rfl underlying43 (by kernel_rfl) rfl) ?_;refine cN rfl (Gu (D:=dy (some n)) 0 rfl underlying48 rfl (by kernel_rfl) rfl (ta aH)) ?_;refine eh rfl (q7 [] _ rfl rfl aL aK (cD _) (λw hh _=>by rw[so];exact aA r n w)) ?_;rintro _ _ w4 ⟨_,rfl,⟨n4,rfl,aq⟩,rfl⟩;refine⟨_,cD _,?_⟩;refine cN rfl (cU (z:=.bool (lt r n)) (gN rfl rfl) (dq Value.bool aq)) ?_;refine fP (λaI=>?_) λaI=>?_
    .refine N [0,2,4,14,15] ?_;have X:lt r n=false:=by simpa using aI
     refine⟨R-((B+R)/2+1),by omega,(B+R)/2+1,R,?_,rfl,by omega,hq,λD z T af=>?_,ao⟩
     .rw[show((g+((B+R)/2+1):Nat):Int)=((g+(B+R)/2:Nat):Int)+1 by omega]
     .rcases o4 (wj T)with ag|ag
      .cases aQ:lt r z with
       |false=>rfl
       |true=>rw[ab.tr aQ (yE sA af p ag)]at X;cases X
      .subst ag;rw[af]at p;cases p;exact X
    .refine N [0,2,4,14,15] ?_;refine⟨(B+R)/2-B,by omega,B,(B+R)/2,rfl,rfl,by omega,by omega,ap,λD z T af=>?_⟩;have X:lt r n=true:=by simpa using aI
     rcases o4 T with ag|ag
     .exact ab.tr X (yE sA p af ag)
     .subst ag;rw[af]at p;cases p;exact X
   .obtain rfl:B=R:=by omega
    refine dI ?_;refine K4 [0,14,17] ?_;refine dB (λk m H w=>∃(f:Nat),m=[(0,vS c a cap),(14,F ((g+B:Nat):Int)),(17,F ((g+f:Nat):Int))]/\H=[row (vS c a cap) 48 3 a (dn ((t++s.take f)++r::(s.drop f++v)))]/\f=B+k/\f<=s.length) (s.length-B) ⟨s.length,?_,by simp,by omega,dT _⟩ ?_
    .rw[show((g+s.length:Nat):Int)=(o:Int) by omega]
    rintro k2 _ _ w1 ⟨f,rfl,rfl,bi,hc⟩;refine cZ (λbc=>?_) λbc=>?_
    .obtain⟨h,rfl⟩:∃h,f=h+1:=⟨f-1,by omega⟩;obtain⟨n,p⟩:∃n,s[h]? =some n:=⟨_,dr (by omega)⟩;have an:s.drop h=n::s.drop (h+1):=by obtain⟨S,rfl⟩:=da.1 p;exact jP S
     have aP:s.take (h+1)=s.take h++[n]:=by rw[ia,p];rfl
     rw[aP,<-dJ t (s.take h) [n],dJ (t++s.take h) [n] (r::(s.drop (h+1)++v)),nJ];have a2:((t++s.take h)++n::r::(s.drop (h+1)++v)).length=a:=by have S:=dq List.length an;simp only[cX,eE,iz,eD,qp]at S hN|-;omega
     have ae:(t++s.take h).length=g+h:=by rw[cX,eD];omega
     have ak:((t++s.take h)++n::r::(s.drop (h+1)++v))[g+h]? =some n:=BZ _ _ _ ae.symm;have al:((t++s.take h)++n::r::(s.drop (h+1)++v))[g+h+1]? =some r:=by
      have:=BZ ((t++s.take h)++[n]) (s.drop (h+1)++v) r (b:=g+h+1) (by rw[cX,ae];rfl)
      rwa [dJ,nJ]at this
     refine cQ ?_;refine mm 18 [15,17] [(_,some 15)] [] (cD _) λbz=>?_;refine iq ?_;refine ew rfl (Kz 3 (w:=g+h) rfl rfl underlying43 (by kernel_rfl) (by omega)) ?_;refine ew rfl (Gu (D:=dy (some n)) 0 rfl underlying48 rfl (by kernel_rfl) rfl (ta ak)) ?_;refine cC ?_;refine ew rfl (Kz 3 (w:=g+h+1) rfl rfl underlying43 (by kernel_rfl) (by omega)) ?_;refine ew rfl (Gu (D:=dy (some r)) 0 rfl underlying48 rfl (by kernel_rfl) rfl (ta al)) ?_;refine ew rfl (Kz 3 (w:=g+h+1) rfl rfl underlying43 (by kernel_rfl) (by omega)) ?_;refine jC rfl (aam (B:=dy (some n)) (G:=dn (((t++s.take h)++n::r::(s.drop (h+1)++v)).set (g+h+1) n)) rfl rfl rfl (by kernel_rfl) (by simp[dy,Value.oneCell']) (by rw[pX,tY];omega) (BK n (by omega))) ?_;rintro _ _ bq rfl;refine⟨_,cD _,?_⟩;refine ew rfl (Kz 3 (w:=g+h) rfl rfl underlying43 (by kernel_rfl) (by omega)) ?_;refine jC rfl (aam (B:=dy (some r)) (G:=dn ((((t++s.take h)++n::r::(s.drop (h+1)++v)).set (g+h+1) n).set (g+h) r)) rfl rfl rfl (by kernel_rfl) (by simp[dy,Value.oneCell']) (by rw[pX,tY,fy];omega) (BK r (by rw[fy];omega))) ?_;rintro _ _ br rfl;refine⟨_,cD _,?_⟩;refine ir [0,14,17] ?_;refine⟨k2-1,by omega,h,?_,?_,by omega,by omega⟩
     .rw[show((g+(h+1):Nat):Int)-1=((g+h:Nat):Int) by omega]
     .have S:(t++s.take h)++r::(s.drop h++v)=(((t++s.take h)++n::r::(s.drop (h+1)++v)).set (g+h+1) n).set (g+h) r:=by rw[<-Ih al ak,akp,Ub (t++s.take h) _ _ _ ae.symm,an];simp only[dJ,kP,kF]
      rw[S];rfl
    .obtain rfl:f=B:=by omega
     refine dI ?_;refine dP results306 ?_;refine⟨s.take f++r::s.drop f,by simp only[dJ,kP],?_,?_⟩
     .refine eg.trans ?_;rw[gJ];exact(pK r s).symm
     .refine My (by rw[gJ];exact sA) (λn p=>?_) λn p=>?_
      .obtain⟨D,T,W⟩:=Hg p;exact ab.dY (λe=>QK aC (eH W) (fI.2 rfl) e.symm) (ap D n T W)
      .obtain⟨D,T,W⟩:=LG p;exact ao D n T W
  .refine fw ?_;refine I (zA (r:=(((g+q)/2:Nat):Int)) rfl rfl (by omega) (GO (by omega) (by omega))) ?_;refine N [0,1,2,3,4,18] ?_;refine Y ?_;obtain⟨mid,aM⟩:∃mid,mid=(g+q)/2:=⟨_,rfl⟩;rw[<-aM];refine N [0,1,2,3,4,18,19] ?_;refine N [0,1,2,3,4,18,19] ?_;refine N [0,1,2,3,4,18,19,140] ?_;refine eS (λm H w=>∃(G D:Nat),m=[(0,vS c a cap),(1,F g),(2,F o),(3,F q),(4,.func (.func b) #[] #[]),(18,F mid),(19,F ((mid:Int)+(o:Int))),(20,F G),(21,F D)]/\H=[row (vS c a cap) 48 3 a (dn (t++(s++u)++v))]/\((mid<o/\G+q=mid+o/\D=mid)\/(o<=mid/\G=g/\D=o))) ?_ ?_
   .refine jc rfl (λbd=>?_) (λbd=>?_)
    .refine ir [0,1,2,3,4,18,19,20,21] ?_;refine⟨mid+o-q,mid,?_,rfl,.inl ⟨by omega,by omega,rfl⟩⟩;rw[show((mid+o-q:Nat):Int)=(mid:Int)+(o:Int)-(q:Int) by omega]
    .refine ir [0,1,2,3,4,18,19,20,21] ?_;exact⟨g,o,rfl,rfl,.inr ⟨by omega,rfl,rfl⟩⟩
   .rintro _ _ w8 ⟨s0,r0,rfl,rfl,au⟩;refine K4 [0,1,2,3,4,18,19,20,21,22] ?_;refine dB (λk m H w=>∃(G D:Nat),m=[(0,vS c a cap),(1,F g),(2,F o),(3,F q),(4,.func (.func b) #[] #[]),(18,F mid),(19,F ((mid:Int)+(o:Int))),(20,F G),(21,F D),(22,F ((mid:Int)+(o:Int)-1))]/\H=[row (vS c a cap) 48 3 a (dn (t++(s++u)++v))]/\D=G+k/\s0<=G/\D<=r0/\(G=s0\/∃ah n,(t++(s++u)++v)[G-1]? =some ah/\(t++(s++u)++v)[mid+o-G]? =some n/\lt n ah=false)/\(D=r0\/∃ah n,(t++(s++u)++v)[mid+o-1-D]? =some ah/\(t++(s++u)++v)[D]? =some n/\lt ah n=true)) (r0-s0) ⟨s0,r0,rfl,rfl,by omega,dT _,dT _,.inl rfl,.inl rfl⟩ ?_;rintro k _ _ w1 ⟨G,D,rfl,rfl,hk,aX,aW,aE,aF⟩;refine cZ (λa3=>?_) λa3=>?_
    .obtain⟨f,hc⟩:∃f,f=(G+D)/2:=⟨_,rfl⟩;have aU:G<=f/\f<D:=by omega
     have bC:f+1<=mid+o/\mid+o-1-f<a/\f<a:=by omega
     obtain⟨ah,hx⟩:∃ah,(t++(s++u)++v)[mid+o-1-f]? =some ah:=⟨_,dr (by omega)⟩;obtain⟨n,p⟩:∃n,(t++(s++u)++v)[f]? =some n:=⟨_,dr (by omega)⟩;refine iq ?_;refine I (zA (r:=(f:Int)) rfl rfl (by omega) (GO (by omega) (by omega))) ?_;refine N [0,1,2,3,4,18,19,20,21,22,23] ?_;refine Y ?_;refine kB 14 [11] λbA=>?_;refine df ?_;refine cN rfl (Kz 3 (w:=mid+o-1-f) rfl rfl underlying43 (by kernel_rfl) (by omega)) ?_;refine cN rfl (Gu (D:=dy (some ah)) 0 rfl underlying48 rfl (by kernel_rfl) rfl (ta hx)) ?_;refine cC ?_;refine cN rfl (Kz 3 (w:=f) rfl rfl underlying43 (by kernel_rfl) rfl) ?_;refine cN rfl (Gu (D:=dy (some n)) 0 rfl underlying48 rfl (by kernel_rfl) rfl (ta p)) ?_;refine eh rfl (q7 [] _ rfl rfl aL aK (cD _) (λw hh _=>by rw[so];exact aA ah n w)) ?_;rintro _ _ w4 ⟨_,rfl,⟨n4,rfl,aq⟩,rfl⟩;refine⟨_,cD _,?_⟩;refine cN rfl (cU (z:=.bool (lt ah n)) (gN rfl rfl) (dq Value.bool aq)) ?_;refine fP (λav=>?_) λav=>?_
     .refine N [0,1,2,3,4,18,19,20,21,22] ?_;refine⟨D-(f+1),by omega,f+1,D,rfl,rfl,by omega,by omega,aW,.inr ⟨n,ah,p,?_,by simpa using av⟩,aF⟩;rw[show mid+o-(f+1)=mid+o-1-f by omega];exact hx
     .refine N [0,1,2,3,4,18,19,20,21,22] ?_;exact⟨f-G,by omega,G,f,rfl,rfl,by omega,aX,by omega,aE,.inr ⟨ah,n,hx,p,by simpa using av⟩⟩
    .obtain rfl:G=D:=by omega
     have bn:g<=G/\G<=o/\o<=mid+o-G/\mid+o-G<=q/\G<=mid:=by omega
     have aJ:=Zb (E:=G-g) (r:=mid-G) ab sA sB aC (by
      rcases aE with ag|⟨ah,n,S,Q,ai⟩
      .rcases au with⟨_,Q,_⟩|⟨_,Q,_⟩
       .exact .inr (.inl (by omega))
       .exact .inl (by omega)
      .by_cases bm:G=s0
       .rcases au with⟨_,Q,_⟩|⟨_,Q,_⟩
        .exact .inr (.inl (by omega))
        .exact .inl (by omega)
       .refine .inr (.inr ⟨ah,n,?_,?_,ai⟩)
        .rwa [GK (d:=G-g-1) (by omega) (by omega)]at S
        .rwa [GM (c:=mid-G) (by omega) (by omega)]at Q) (by
      rcases aF with ag|⟨ah,n,S,Q,ai⟩
      .rcases au with⟨_,_,Q⟩|⟨_,_,Q⟩
       .exact .inl (by omega)
       .exact .inr (.inl (by omega))
      .by_cases bm:G=r0
       .rcases au with⟨_,_,Q⟩|⟨_,_,Q⟩
        .exact .inl (by omega)
        .exact .inr (.inl (by omega))
       .refine .inr (.inr ⟨ah,n,?_,?_,ai⟩)
        .rwa [GM (c:=mid-G-1) (by omega) (by omega)]at S
        .rwa [GK (d:=G-g) (by omega) (by omega)]at Q)
     clear aE aF;obtain⟨x,A,a4,aR⟩:∃x A,s=x++A/\x.length=G-g:=⟨s.take (G-g),s.drop (G-g),(gJ ..).symm,by rw[eD];omega⟩;obtain⟨y,L,a5,aS⟩:∃y L,u=y++L/\y.length=mid-G:=⟨u.take (mid-G),u.drop (mid-G),(gJ ..).symm,by rw[eD];omega⟩;subst a4 a5;rw[<-aR,oF,kZ,<-aS,oF,kZ]at aJ;simp only[cX]at hK hA hB hm hb hN aT;have aN:(cE (x++y)).Nodup/\(cE (A++L)).Nodup:=R4 aC (by
      have:=J3 (x++A) (y++L) x.length y.length
      rwa [oF,kZ,oF,kZ]at this)
     obtain⟨aY,aZ,-⟩:=TO.1 sA;obtain⟨a0,a1,-⟩:=TO.1 sB;have aj:(mid:Int)+(o:Int)-(G:Int)=((mid+o-G:Nat):Int)/\mid+o-G=t.length+x.length+A.length+y.length/\G=t.length+x.length/\mid=t.length+x.length+y.length/\t.length<mid/\mid<q:=by omega
     obtain⟨aj,e5,e1,e3,e6,e7⟩:=aj;generalize a6:mid+o-G=E at aj e5;clear aM au aX aW bn aT a6 aR aS hk;refine dI ?_;refine cL ?_;refine I (cU (z:=F E) (Px rfl rfl) (by rw[aj])) ?_;refine cB ?_;refine oV (H:=3) (A:=decide ((o:Int)<(E:Int))) 3 [(0,_),(1,_),(2,_),(3,_),(4,_),(18,_),(20,_),(24,_)] ⟨rfl,rfl,rfl,rfl,rfl,rfl,rfl,rfl,trivial⟩ rfl rfl rfl rfl rfl (λbe=>?_) (λbs=>?_)
     .refine cQ ?_;exact iy
     refine cH [0,1,2,3,4,18,20,24,185] ?_;refine eS (λm H w=>m=[(0,vS c a cap),(1,F g),(3,F q),(4,.func (.func b) #[] #[]),(18,F mid),(20,F G),(24,F E)]/\H=[row (vS c a cap) 48 3 a (dn (t++((x++y)++(A++L))++v))]) ?_ ?_
     .refine kL rfl (λaw=>?_) (λaw=>?_)
      .simp only[iu,fU]at aw;rw[show t++(x++A++(y++L))++v=(t++x)++(A++y)++(L++v) by simp only[dJ,eN]];refine eL ?_;refine dw (nu (_) [] rfl func318 (by kernel_rfl) (cD _) (λw hh ar=>aiB (t++x) A y (L++v) _ (by rw[cX];omega) (by rw[cX];omega) (by rw[cX];omega) (by rw[cX,cX];omega) a7 (by omega) (by omega) ar)) ?_;rintro _ _ w2 ⟨_,rfl,rfl⟩;refine cH [0,1,3,4,18,20,24] ?_;exact⟨rfl,by simp only[dJ,eN]⟩
      .simp only[iu,fU]at aw;refine kw [0,1,3,4,18,20,24] rfl (iY ?_);refine⟨rfl,?_⟩;by_cases Q:A=[]
       .subst Q;simp only[dJ,kF]
       .have ai:y=[]:=ll (by have:=AW.2 Q;omega);subst ai;simp only[dJ,kF]
     .rintro _ _ w8 ⟨rfl,rfl⟩;refine fw ?_;refine oV (H:=3) (A:=decide ((G:Int)<(mid:Int))) 3 [(0,_),(1,_),(3,_),(4,_),(18,_),(20,_),(24,_)] ⟨rfl,rfl,rfl,rfl,rfl,rfl,rfl,trivial⟩ rfl rfl rfl rfl rfl (λbf=>?_) (λbt=>?_)
      .refine cQ ?_;exact iy
      refine cH [0,1,3,4,18,20,24,199] ?_;refine eS (λm H w=>∃P,m=[(0,vS c a cap),(3,F q),(4,.func (.func b) #[] #[]),(18,F mid),(24,F E)]/\H=[row (vS c a cap) 48 3 a (dn (t++(P++(A++L))++v))]/\P.Perm (x++y)/\iF lt P) ?_ ?_
      .refine kL rfl (λax=>?_) (λax=>?_)
       .simp only[iu,fU]at ax;rw[show t++((x++y)++(A++L))++v=t++(x++y)++((A++L)++v) by simp only[dJ,eN]];refine eL ?_;refine dw (nu (_) [] rfl func306 (by kernel_rfl) (cD _) (λw hh ar=>ih t x y ((A++L)++v) g G mid _ (by omega) (by omega) (by omega) ha (by omega) (by omega) (by simp only[cX];omega) aY a0 aN.1 ar)) ?_;rintro _ _ w2 ⟨_,rfl,P,rfl,ad,aD⟩;refine cH [0,3,4,18,24] ?_;exact⟨P,rfl,by simp only[dJ,eN],ad,aD⟩
       .simp only[iu,fU]at ax;refine kw [0,3,4,18,24] rfl (iY ?_);refine⟨x++y,rfl,rfl,cD _,?_⟩;by_cases Q:x=[]
        .subst Q;exact a0
        .have ai:y=[]:=ll (by have:=AW.2 Q;omega);subst ai;rw[eN];exact aY
      .rintro _ _ w8 ⟨P,rfl,rfl,ad,aD⟩;have bj:=ad.length_eq;rw[cX]at bj;refine eL ?_;refine oV (H:=3) (A:=decide ((E:Int)<(q:Int))) 3 [(0,_),(3,_),(4,_),(18,_),(24,_)] ⟨rfl,rfl,rfl,rfl,rfl,trivial⟩ rfl rfl rfl rfl rfl (λbg=>?_) (λbu=>?_)
       .refine cQ ?_;exact iy
       refine fP (λay=>?_) λay=>?_
       .simp only[iu,fU]at ay;rw[show t++(P++(A++L))++v=(t++P)++(A++L)++v by simp only[dJ,eN]];refine eL ?_;refine dw (nu (_) [] rfl func306 (by kernel_rfl) (cD _) (λw hh ar=>ih (t++P) A L v mid E q _ (by omega) (by omega) (by omega) (by rw[cX];omega) (by rw[cX];omega) (by rw[cX];omega) (by rw[cX];omega) aZ a1 aN.2 ar)) ?_;rintro _ _ w2 ⟨_,rfl,C2,rfl,aV,aO⟩;refine cH [] ?_;refine⟨_,_,λg ha hh=>im (p:=[]) results306 rfl g ha _,gq _,?_⟩;refine⟨P++C2,by simp only[dJ,eN],ad.append aV|>.trans (by have am:=J3 (x++A) (y++L) x.length y.length;rw[oF,kZ,oF,kZ]at am;exact am),TN aD aO λah hx n p=>aJ ah (ad.mem_iff.1 hx) n (aV.mem_iff.1 p)⟩
       .simp only[iu,fU]at ay;refine Y ?_;refine⟨_,_,λg ha hh=>im (p:=[]) results306 rfl g ha _,gq _,?_⟩;have aO:iF lt (A++L):=by
         by_cases Q:A=[]
         .subst Q;exact a1
         .have ai:L=[]:=ll (by have:=AW.2 Q;omega);subst ai;rw[eN];exact aZ
        refine⟨P++(A++L),rfl,ad.append_right _|>.trans (by have am:=J3 (x++A) (y++L) x.length y.length;rw[oF,kZ,oF,kZ]at am;exact am),TN aD aO λah hx n p=>aJ ah (ad.mem_iff.1 hx) n p⟩
def akr:FK lt b c cap a 0:=λl j k m e i f n h g=>by omega
def Uc (i:qm lt)(h:prog.funcs[b]? =some d)(g:(d.body.isNone,d.name== "runtime.NumGoroutine")=(false,false))(e:rW prog b lt)(f:a<=1000000):∀j,FK lt b c cap a j
 |0=>akr
 |j+1=>akt i h g e f (Uc i h g e f j)
end
section
variable{lt:En->En->Bool}{c:fR}{b:Func}{d cap a:Nat}{e:O}
def acm (g:M)(f:Nat)(i:C En)(h:f<=1000000)(k:Hl e (row (vS d a cap) 48 3 a (dn i))):Sr 305 [vS d a cap,F f,F f,g] e (row (vS d a cap) 48 3 a (dn i)) λ_ j=>j=[row (vS d a cap) 48 3 a (dn i)]:=by refine sP func305 k ?_;refine K4 [0,1,2,3,8] ?_;refine dB (λn o j e=>o=[(0,vS d a cap),(1,F f),(2,F f),(3,g),(8,F ((f:Int)+1))]/\j=[row (vS d a cap) 48 3 a (dn i)]) 0 ⟨rfl,rfl⟩ ?_;rintro n _ _ p ⟨rfl,rfl⟩;refine N [0,1,2,3,8,14] ?_;refine Y ?_;refine dI ?_;refine⟨_,_,λf h m=>im (p:=[]) results305 rfl f h _,gq _,?_⟩;rfl
def QQ (q:qm lt)(p:prog.funcs[c]? =some b)(o:(b.body.isNone,b.name== "runtime.NumGoroutine")=(false,false))(j:rW prog c lt)(g f:Nat)(i h l:C En)(t:a=i.length+h.length+l.length)(m:a<=1000000)(u:g=i.length)(n:f=i.length+h.length)(r:(cE h).Nodup)(s:Hl e (row (vS d a cap) 48 3 a (dn (i++h++l)))):Sr 305 [vS d a cap,F g,F f,.func (.func c) #[] #[]] e (row (vS d a cap) 48 3 a (dn (i++h++l))) λ_ v=>∃k,v=[row (vS d a cap) 48 3 a (dn (i++k++l))]/\k.Perm h/\iF lt k:=by
 by_cases h0:h=[]
 .subst h0;obtain rfl:f=g:=by rw[qp]at n;omega
  exact(acm (.func (.func c) #[] #[]) f _ (by omega) s).mono λ_ v w=>⟨[],w,cD _,List.Pairwise.nil⟩
 .exact acz q p o j d cap a g f i h l e (AW.2 h0) t m u n r s
def aku (o:qm lt)(n:prog.funcs[c]? =some b)(m:(b.body.isNone,b.name== "runtime.NumGoroutine")=(false,false))(i:rW prog c lt)(l:a<=1000000)(f h:C En)(j:Nat)(r:0<f.length)(s:0<h.length)(t:j=f.length)(k:a=f.length+h.length)(v:iF lt f)(w:iF lt h)(p:(cE (f++h)).Nodup)(u:Hl e (row (vS d a cap) 48 3 a (dn (f++h)))):Sr 306 [vS d a cap,F 0,F j,F a,.func (.func c) #[] #[]] e (row (vS d a cap) 48 3 a (dn (f++h))) λ_ y=>∃q,y=[row (vS d a cap) 48 3 a (dn q)]/\q.Perm (f++h)/\iF lt q:=by have x:=Uc (c:=d) (cap:=cap) o n m i l (f.length+h.length) [] f h [] 0 j a e (dT _) r s rfl (by simp[t]) (by simp[k]) (by simp[k]) v w p (by simpa only[kF,eN]using u);simp only[kF,eN]at x;exact x
def acj (j g:M)(e:O):Sn 305 [j,F 0,F 0,g] e λ_ h=>h=[]:=by refine sP func305 hS ?_;refine K4 [0,1,2,3,8] ?_;refine dB (λm n h e=>n=[(0,j),(1,F 0),(2,F 0),(3,g),(8,F 1)]/\h=[]) 0 ⟨rfl,rfl⟩ ?_;rintro m _ _ o ⟨rfl,rfl⟩;refine N [0,1,2,3,8,14] ?_;refine Y ?_;refine dI ?_;refine⟨_,_,λf i k=>im (p:=[]) results305 rfl f i _,gq _,?_⟩;rfl
def aj6 (w:qm lt)(v:prog.funcs[c]? =some b)(u:(b.body.isNone,b.name== "runtime.NumGoroutine")=(false,false))(o:rW prog c lt){y:C En}(B:(cE y).Nodup)(hN:a=y.length)(ag:a<=39)(hs:Hl e (row (vS d a cap) 48 3 a (dn y))):Sr 272 [vS d a cap,F a,.func (.func c) #[] #[]] e (row (vS d a cap) 48 3 a (dn y)) λ_ H=>∃x,H=[row (vS d a cap) 48 3 a (dn x)]/\x.Perm y/\iF lt x:=by
 have D:∀{g i:C En},(g++i).Perm y->(cE g).Nodup/\(cE i).Nodup:=λW=>R4 B W;refine hJ func272 hs ?_;refine K4 [0,1,2,6,7,8] ?_;refine dB (λT m H e=>∃(f:Nat)(g i:C En),m=[(0,vS d a cap),(1,F a),(2,.func (.func c) #[] #[]),(6,F 20),(7,F f),(8,F ((f:Int)+20))]/\H=[row (vS d a cap) 48 3 a (dn (g++i))]/\T+f=20/\g.length=f/\(f=0\/f=20)/\iF lt g/\(g++i).Perm y) 20 ⟨0,[],y,rfl,rfl,rfl,rfl,.inl rfl,List.Pairwise.nil,cD _⟩ ?_;rintro T _ _ w1 ⟨f,g,i,rfl,rfl,hk,h,z,G,s⟩;refine cZ (λab=>?_) λab=>?_
 .obtain rfl:f=0:=by omega
  obtain rfl:g=[]:=ll h;have X:i.length=a:=by rw[hN];exact s.length_eq
  obtain⟨t,q,rfl,A⟩:∃t q,i=t++q/\t.length=20:=⟨i.take 20,i.drop 20,(gJ ..).symm,by rw[eD];omega⟩;rw[cX]at X;have E:(t++q).Perm y:=s;rw[<-dJ];refine iq ?_;refine cY (_) [] func305 (cD _) (λe Q n=>QQ w v u o 0 20 [] t q (by simp;omega) (by omega) rfl (by simp[A]) (D E).1 n) ?_;rintro _ _ w2 ⟨x,rfl,k,p⟩;refine ir [0,1,2,6,7,8] ?_;exact⟨0,by omega,20,x,q,rfl,rfl,rfl,k.length_eq.trans A,.inr rfl,p,(k.append_right q).trans E⟩
 .have j:=s.length_eq;rw[cX]at j;refine dI ?_;refine Y ?_;rw[<-eN (g++i)];refine df ?_;refine cY (_) [] func305 (cD _) (λe Q n=>QQ w v u o f a g i [] (by simp;omega) (by omega) h.symm (by omega) (D s).2 n) ?_;rintro _ _ w2 ⟨K,rfl,k,p⟩;rw[eN (g++K)];refine K4 [0,1,2,6] ?_;refine dB (λT m H e=>∃(r:Nat)(L:C En),m=[(0,vS d a cap),(1,F a),(2,.func (.func c) #[] #[]),(6,F r)]/\H=[row (vS d a cap) 48 3 a (dn L)]/\T+r=40/\L.Perm y/\(r=40/\iF lt L\/r=20/\∃g i,L=g++i/\iF lt g/\iF lt i/\(g.length=20\/g=[]/\a<20))) 20 ⟨20,g++K,rfl,rfl,rfl,(vX g k).trans s,.inr ⟨rfl,g,K,rfl,G,p,by
   rcases z with rfl|rfl
   .exact .inr ⟨ll h,by omega⟩
   .exact .inl h⟩⟩ ?_
  clear G s h z j p k;rintro T _ _ w1 ⟨r,L,rfl,rfl,hk,l,P⟩;refine cZ (λad=>?_) λad=>?_
  .obtain⟨rfl,g,i,rfl,R,S,h⟩:r=20/\∃g i,L=g++i/\iF lt g/\iF lt i/\(g.length=20\/g=[]/\a<20):=P.resolve_left (λW=>by omega);have h:=h.resolve_right (λW=>by omega);have j:=l.length_eq;rw[cX]at j;refine K4 [0,1,2,6,7,8] ?_;refine dB (λT m H e=>m=[(0,vS d a cap),(1,F a),(2,.func (.func c) #[] #[]),(6,F 20),(7,F 0),(8,F 40)]/\H=[row (vS d a cap) 48 3 a (dn (g++i))]) 0 ⟨rfl,rfl⟩ ?_;rintro k3 _ _ w3 ⟨rfl,rfl⟩;refine N [0,1,2,6,7,8,35] ?_;refine Y ?_;refine dI ?_;refine cB ?_;refine cY (_) [] func306 (cD _) (λe Q n=>aku w v u o (by omega) g i 20 (by omega) (by omega) h.symm (by omega) R S ((l.map Prod.fst).nodup_iff.2 B) n) ?_;rintro _ _ w4 ⟨ah,rfl,ae,af⟩;refine ir [0,1,2,6] ?_;exact⟨0,by omega,40,ah,rfl,rfl,rfl,ae.trans l,.inl ⟨rfl,af⟩⟩
  .refine dI ?_;refine⟨_,_,λf z Q=>im (p:=[]) results272 rfl f z _,gq _,?_⟩;refine⟨L,rfl,l,?_⟩;rcases P with⟨_,W⟩|⟨rfl,g,i,rfl,R,S,h⟩
   .exact W
   .have j:=l.length_eq;rw[cX]at j;rcases h with h|⟨rfl,_⟩
    .have:i=[]:=ll (by omega);subst this;rw[eN];exact R
    .exact S
def aj4 (l:qm lt)(k:prog.funcs[c]? =some b)(j:(b.body.isNone,b.name== "runtime.NumGoroutine")=(false,false))(h:rW prog c lt){o:C En}(m:(cE o).Nodup)(p:a=o.length)(i:a<=39)(t:Hl e (row (vS d a cap) 48 3 a (dn o))):Sr 238 [vS d a cap,.func (.func c) #[] #[]] e (row (vS d a cap) 48 3 a (dn o)) λ_ v=>∃f,v=[row (vS d a cap) 48 3 a (dn f)]/\f.Perm o/\iF lt f:=by refine dR func238 t ?_;refine Pw 0 func272 (λe r n=>aj6 l k j h m p i n) ?_;rintro _ _ w ⟨f,rfl,s,u⟩;refine cH [] ?_;refine⟨_,_,λg q r=>im (p:=[]) results238 rfl g q _,gq _,?_⟩;exact⟨f,rfl,s,u⟩
end
def ac4:rW prog 239 mF:=λa b j=>by
 refine dR func239 hS ?_;refine Mf λe g=>?_;refine dK λf h=>?_;refine cZ (λc=>?_) λc=>?_
 .refine N [4] ?_;refine cK [] ?_;refine dP results239 ?_;refine⟨⟨_,rfl,?_⟩,rfl⟩;unfold mF;rw[gb (show b.2.2<a.2.2 by omega)];rfl
 .refine cZ (λd=>?_) λd=>?_
  .refine N [4] ?_;refine cK [] ?_;refine dP results239 ?_;refine⟨⟨_,rfl,?_⟩,rfl⟩;unfold mF;rw[fL (show¬b.2.2<a.2.2 by omega),fL (show¬a.2.2=b.2.2 by omega)];rfl
  .refine Ku func112 (λj k=>DF.Gc a.1 b.1 j) ?_;rintro _ _ i ⟨rfl,rfl⟩;refine N [4] ?_;refine cK [] ?_;refine dP results239 ?_;refine⟨⟨_,rfl,?_⟩,rfl⟩;unfold mF;rw[fL (show¬b.2.2<a.2.2 by omega),gb (show a.2.2=b.2.2 by omega)];exact zr a.1 b.1
def Ro:qm mF:=⟨Rn,Lu,Rp⟩
def aj5 (d a:M)(c:O):Sn 272 [d,F 0,a] c λ_ b=>b=[]:=by refine hJ func272 hS ?_;refine K4 [0,1,2,6,7,8] ?_;refine dB (λg h b c=>h=[(0,d),(1,F 0),(2,a),(6,F 20),(7,F 0),(8,F 20)]/\b=[]) 0 ⟨rfl,rfl⟩ ?_;rintro g _ _ i ⟨rfl,rfl⟩;refine N [0,1,2,6,7,8,13] ?_;refine Y ?_;refine dI ?_;refine Ku func305 (λc f=>acj d a c) ?_;rintro _ _ k rfl;refine K4 [0,1,2,6] ?_;refine dB (λg h b c=>h=[(0,d),(1,F 0),(2,a),(6,F 20)]/\b=[]) 0 ⟨rfl,rfl⟩ ?_;rintro g _ _ i ⟨rfl,rfl⟩;refine N [0,1,2,6,30] ?_;refine Y ?_;refine dI ?_;refine⟨_,_,λj e f=>im (p:=[]) results272 rfl j e _,gq _,?_⟩;rfl
def aj3 (e:cG Addr)(cap:Nat)(a:M)(d:O):Sn 238 [.slice e 0 cap,a] d λ_ f=>f=[]:=by refine dR func238 hS ?_;refine Ku func272 (λd c=>aj5 _ a d) ?_;rintro _ _ h rfl;refine cH [] ?_;refine⟨_,_,λg b c=>im (p:=[]) results238 rfl g b _,gq _,?_⟩;rfl
def XF {a:O}(f:M)(e:Rd a cW 3 f 0 (dn [])):Sn 178 [f] a λg h=>∃c d,g=.slice c 0 d/\h=[row g 48 3 0 []]:=by refine dS func178 hS ?_;refine cB ?_;refine dd func237 (λa b=>Oq f 0 (dn []) a (e.dx b) (ya []) (by omega)) ?_;rintro _ _ i ⟨c,d,rfl,rfl⟩;refine Ku func238 (λa b=>aj3 c d _ a) ?_;rintro _ _ j rfl;refine db results178 ?_;exact⟨c,d,rfl,rfl⟩
def XG {e:O}(o:M)(a:C En)(l:Rd e cW 3 o a.length (dn a))(c:(cE a).Nodup)(h0:0<a.length)(j:a.length<=39):Sn 178 [o] e λr s=>∃p q,r=.slice p a.length q/\s=[row r 48 3 a.length (dn (m9 a))]:=by refine dS func178 hS ?_;refine cB ?_;refine dd func237 (λe b=>Oq o a.length (dn a) e (l.dx b) (ya a) (by omega)) ?_;rintro _ _ t ⟨p,q,rfl,rfl⟩;refine kq λb=>?_;obtain⟨v,cap,f⟩:=fs b (q:=0) rfl;injection f with g _ h;subst g;subst h;clear b;refine cB ?_;refine cY (_) [] func238 (cD _) (λe b d=>aj4 Ro func239 (by kernel_rfl) ac4 c rfl j d) ?_;rintro _ _ u ⟨n,rfl,k,m⟩;have f:n=m9 a:=H9 Ro m (Mu c) (k.trans (z8 a).symm);rw[f];refine db results178 ?_;exact⟨_,_,rfl,rfl⟩
def XH {g:O}(d:M)(a:C En)(c:Rd g cW 3 d a.length (dn a))(b:(cE a).Nodup)(e:a.length<=39):Sn 178 [d] g λf i=>∃h j,f=.slice h a.length j/\i=[row f 48 3 a.length (dn (m9 a))]:=by
 by_cases h0:a=[]
 .subst h0;exact XF d c
 .exact XG d a c b (AW.2 h0) e
end Go.Proofs.YtdlpoonfcdoiiaaGreat
