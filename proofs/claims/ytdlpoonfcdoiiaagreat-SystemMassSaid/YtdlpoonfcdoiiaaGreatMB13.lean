/- What the code does, step by step, and plain facts: part 13. They have no conditions. -/
import Derived.Test.YtdlpoonfcdoiiaaGreatMB12
namespace Go.Proofs.YtdlpoonfcdoiiaaGreat
open Go.RowKit Go.Proofs.Tryz
set_option maxHeartbeats 40000000
set_option linter.all false
def Cr {q:O}{n o x s:Nat}{g:C En}(v:Rd q cW 3 (.slice (some ⟨n,o,.none⟩) x s) g.length (dn g)){e f:Nat}{r:En}{h:M}(d:g[e]? =some r)(c:(dy (some r))[f]? =some h):q.cell? ⟨n,o+e*3+f,.none⟩=some h:=by
 obtain⟨y,t,u,_,_,k⟩:=v;have w:=(da.1 d).1;obtain⟨z,p,rfl,_,_,l⟩:=k.resolve_left (by omega);injection u with a;injection a with a;injection a with a i;subst a;subst i;have m:=(da.1 c).1;rw[tY]at m;rw[ma];refine l (e*3+f) h ?_;have b:=tZ d;rw[dU]at b;have j:(((dn g).drop (e*3)).take 3)[f]? =some h:=by rw[b];exact c
 rwa [mT,cM (by omega),kQ]at j
def LV {a:C En}{b:Nat}{d:En}(c:a[b]? =some d):fk (a.take (b+1))=fk (a.take b)+d.2.1/\fk (a.take (b+1))<=fk a:=by
 constructor
 .unfold fk;rw[ia,c];simp
 .exact xn ((wg _ _).map _)
section
variable{c:O}{b:M}{a:C En}
def RC (h:Rd c cW 3 b a.length (dn a))(t:a.length<=1000000)(v:fk a<=9223372036854775808):Sn 107 [b] c λx j=>x=PF [J (fk a:Int),.bool true]/\j=[]:=by
 obtain⟨r,e,rfl,_,m,l⟩:=id h;refine dS func107 hS ?_;refine K4 [2,3,7,8,9] ?_;refine dB (λo w j y=>∃d:Nat,w=[(2,J (fk (a.take d):Int)),(3,.bool true),(7,.slice r a.length e),(8,F a.length),(9,F d)]/\j=[]/\o+d=a.length) a.length ⟨0,rfl,rfl,rfl⟩ ?_;rintro o _ _ z ⟨d,rfl,rfl,u⟩;refine cZ (λg=>?_) λg=>?_
 .obtain⟨f,i⟩:∃f,a[d]? =some f:=⟨a[d]'(by omega),dr (by omega)⟩;obtain⟨B,E,rfl,_⟩:=l.resolve_left (by omega);obtain⟨t1,t2⟩:=LV i;refine df ?_;refine I (cR (ab:=d)) ?_;refine I (kY (b:=dy (some f)) (hc:=λD G n=>Cr h i n)) ?_;refine dj [vE,J 0,J 0] λk p=>?_;refine cO 0 (u:=dy (some f)) (H:=dy (some f)) (h1:=by simp[dy,Value.oneCell']) λq=>?_;refine cB ?_;refine dd func88 (λc s=>qL (fk (a.take d)) f.2.1 c) ?_;rintro _ _ A ⟨rfl,rfl⟩;rw[cM (show fk (a.take d)+f.2.1<18446744073709551616 by omega),gb (show fk (a.take d)+f.2.1<18446744073709551616 by omega)];refine N [2,3,6,7,8,9] ?_;refine N [2,3,7,8,9] ?_;refine cK [] ?_;refine N [2,3,7,8,9] ?_;exact⟨o-1,by omega,d+1,by rw[t1];rfl,rfl,by omega⟩
 .obtain rfl:d=a.length:=by omega
  rw[j6];refine dI ?_;refine db results107 ?_;exact⟨rfl,rfl⟩
end
section
variable{l:dX}{m:Nat}{f:O}{a:Nat->Prop}{b:dD}{k:C V}{e g h:dk}{i j:fj}{c d:U}
def aaY (n:ev b i=some (.string c))(o:ev b j=some (.string d)):dp l m f a (.binOp .leq g i j h) e b k (.bool (Op.bytesLess c.data.toList d.data.toList||c.data==d.data)):=oN n o B0 λp=>by simp[binOp,Op.stringOp,CR]
end
section
variable{a:O}
def ai7 {c:PS}(z y:M)(f:Nat)(b:En)(k:Rd a cW 3 z c.E.length (dn c.E))(t:∃R n ab,y=.slice R n ab)(l:c.E[f]? =some b)(G:gd (cE c.E))(s:b.1≠ByteArray.empty)(hk:b.1.size<=255)(ad:1<=b.2.1)(ae:b.2.1+b.2.2<=c.total)(ht:c.total<=9223372036854775808)(hn:c.E.length<=1000000):Sn 289 [xo c.total z c.iO y,F f] a λr A=>r=F 0/\A=[]:=by
 obtain⟨R,p,rfl,-,D,B⟩:=id k;obtain⟨S,x,T,rfl⟩:=t;have X:=(da.1 l).1;obtain⟨W,P,rfl,-⟩:=B.resolve_left (by omega);refine enter (g:=58) func289 rfl rfl [(0,PE [J c.total,.slice (some ⟨W,P,.none⟩) c.E.length p,J c.iO,.slice S x T]),(1,_)] rfl ⟨rfl,rfl,trivial⟩ hS ?_;refine Mf λd K=>?_;refine N [1,2] ?_;refine df ?_;refine I (cR (ab:=f)) ?_;refine I (kY (b:=dy (some b)) (hc:=λj u H=>Cr k l H)) ?_;refine dj [vE,J 0,J 0] λe L=>?_;refine cO 0 (u:=dy (some b)) (H:=dy (some b)) (h1:=by simp[dy,Value.oneCell']) λQ=>?_;refine cH [1,2,5] ?_;refine eL ?_;refine I (cU (oO rfl rfl) (z:=.bool false) (dq Value.bool (fL s))) ?_;refine N [1,2,5,13] ?_;refine N [1,2,5,17] ?_;refine cC ?_;refine eS (λm A w'=>m=[(2,Z d),(5,Z e),(22,.bool false)]/\A=[cF e (dy (some b)) 302,cF d [J c.total,.slice (some ⟨W,P,.none⟩) c.E.length p,J c.iO,.slice S x T] 206]) ?_ ?_
 .by_cases g:(0:Int)<(f:Int)
  .obtain⟨o,w⟩:∃o,c.E[f-1]? =some o:=⟨c.E[f-1]'(by omega),dr (by omega)⟩;have h:eI o.1 b.1=true:=by
    have q:=r3.1 G (f-1) f (by rw[cE,dL];omega) (by rw[cE,dL];omega) (by omega);simp only[cE,wb]at q
    rwa [(da.1 l).2,(da.1 w).2]at q
   refine kB 15 [] λi=>?_;refine Y ?_;refine cN rfl (cU (gA rfl rfl) (dq Value.bool (gb g))) ?_;refine fw ?_;refine fX rfl rfl rfl (cR (ab:=f-1) (hi:=by omega)) ?_;refine Y ?_;refine fX rfl rfl rfl (jd (n:=.string o.1) (hc:=Cr (f:=0) k w rfl)) ?_;refine fX rfl rfl rfl (cU (z:=.bool false) (aaY rfl rfl) (dq Value.bool (by show(eI b.1 o.1||b.1.data==o.1.data)=false;rw[zN h,Bool.false_or];exact Jt.2 λz=>pj h (ByteArray.ext z.symm)))) ?_;refine cN rfl (mC rfl rfl rfl) ?_;refine N [2,5,22] ?_;exact⟨rfl,rfl⟩
  .refine kB 15 [] λi=>?_;refine Y ?_;refine cN rfl (cU (gA rfl rfl) (dq Value.bool (fL g))) ?_;refine fh ?_;refine cC ?_;refine cN rfl (mC rfl rfl rfl) ?_;refine N [2,5,22] ?_;exact⟨rfl,rfl⟩
 rintro _ _ i ⟨rfl,rfl⟩;refine fh ?_;refine dd func88 (λa af=>qL b.2.1 b.2.2 a) ?_;rintro _ _ w2 ⟨rfl,rfl⟩;rw[cM (show b.2.1+b.2.2<18446744073709551616 by omega),gb (show b.2.1+b.2.2<18446744073709551616 by omega)];refine N [2,5,6,7] ?_;refine N [57] ?_;refine N [4] ?_;refine gT results289 ?_;exact⟨rfl,rfl⟩
end
section
variable{a:O}{b:PC}
def ajg (f d c:Nat)(a:O)(e:a.cell? ⟨c,0,.none⟩=some (J d))(h:f<=d):Sn 313 [J f,Z c] a λi g=>i=.bool false/\g=[]:=by refine dR func313 hS ?_;refine cB ?_;refine I (jd (n:=J d) (hc:=e)) ?_;refine db results313 ?_;exact⟨rfl,rfl⟩
def ab7 (u:M)(d:C Nat)(k c:Nat)(a:O)(n:a.cell? ⟨c,0,.none⟩=some (J k))(r:Rd a cW 1 u d.length (dF d))(w:d.length<=1000000)(q:∀g∈d,g<=k):Sn 320 [u,.func (.func 313) #[] #[Z c]] a λz j=>z=F (-1)/\j=[]:=by
 obtain⟨v,l,rfl,-,o,m⟩:=id r;refine dR func320 hS ?_;refine K4 [0,1,7,8] ?_;refine dB (λs y j A=>∃f:Nat,y=[(0,.slice v d.length l),(1,.func (.func 313) #[] #[Z c]),(7,F d.length),(8,F f)]/\j=[]/\s+f=d.length) d.length ⟨0,rfl,rfl,rfl⟩ ?_;rintro s _ _ B ⟨f,rfl,rfl,x⟩;refine cZ (λh=>?_) λh=>?_
 .obtain⟨g,i⟩:∃g,d[f]? =some g:=⟨d[f]'(by omega),dr (by omega)⟩;obtain⟨E,G,rfl,_,_,e⟩:=m.resolve_left (by omega);refine N [0,1,5,7,8] ?_;refine df ?_;refine I (cR (ab:=f)) ?_;refine I (jd (n:=J g) (hc:=by rw[fT];exact e f _ (by unfold dF;rw[eK,i];rfl))) ?_;refine dw (q7 [] _ rfl rfl func313 (by kernel_rfl) (cD _) (λa p t=>by rw[so];exact ajg g k c a (p.rJ n id) (q g (eH i)))) ?_;rintro _ _ D ⟨_,rfl,rfl,rfl⟩;refine ir [0,1,7,8] ?_;exact⟨s-1,by omega,f+1,rfl,rfl,by omega⟩
 .refine dI ?_;refine db results320 ?_;exact⟨rfl,rfl⟩
def Y8 (k:M)(e:C Nat)(f c:Nat)(a:O)(g:a.cell? ⟨c,0,.none⟩=some (J f))(j:Rd a cW 1 k e.length (dF e))(i:e.length<=1000000)(h:∀o∈e,o<=f):Sn 312 [k,.func (.func 313) #[] #[Z c]] a λn m=>n=.bool false/\m=[]:=by refine dR func312 hS ?_;refine Ku func320 (λa d=>ab7 k e f c a (d.rJ g id) (j.dx d) i h) ?_;rintro _ _ l ⟨rfl,rfl⟩;refine db results312 ?_;exact⟨rfl,rfl⟩
def ajW {c:PS}(H:b.Ok)(q s ad ab:M)(he:∃w n b,ad=.slice w n b)(hR:o7 a cW ab c.R)(hl:c.R=[]\/c.R.length=b.depth)(T:∀ae∈c.R,ae.length=b.width/\∀x∈ae,x<=c.total):Sn 290 [gV b q s,xo c.total ad c.iO ab] a λae E=>ae=F 0/\E=[]:=by
 have hd:=H.depth;have am:=H.width;obtain⟨t,al,S,r⟩:=id hR;obtain⟨w,p,rfl,-,ag,G⟩:=id S;obtain⟨z,ne,B,rfl⟩:=he;refine enter (g:=43) func290 rfl rfl [(0,.agg (cP b q s).toArray),(1,PE [J c.total,.slice z ne B,J c.iO,.slice w c.R.length p])] rfl ⟨rfl,rfl,trivial⟩ hS ?_;refine Mf (f:=cP b q s) λi ai=>?_;refine dK λd aj=>?_;refine cZ (λu=>?_) λu=>?_
 .refine N [4] ?_;refine gT results290 ?_;exact⟨rfl,rfl⟩
 .have R:c.R≠[]:=λad=>u (by rw[ad];rfl);have ah:=hl.resolve_left R;refine K4 [2,3,20,21,22] ?_;refine dB (λP m E w'=>∃j:Nat,m=[(2,Z i),(3,Z d),(20,.slice w c.R.length p),(21,F c.R.length),(22,F j)]/\E=[cF d [J c.total,.slice z ne B,J c.iO,.slice w c.R.length p] 206,cF i (cP b q s) 27]/\P+j=c.R.length) c.R.length ⟨0,rfl,rfl,rfl⟩ ?_;rintro P _ _ w1 ⟨j,rfl,rfl,hq⟩;refine cZ (λK=>?_) λK=>?_
  .obtain⟨k,e⟩:∃k,c.R[j]? =some k:=⟨c.R[j]'(by omega),dr (by omega)⟩;obtain⟨D,l⟩:∃D,t[j]? =some D:=⟨t[j]'(by omega),dr (by omega)⟩;obtain⟨g,o,rfl,_,_,f⟩:=G.resolve_left (by omega);obtain⟨y,A,rfl,-⟩:=id (r j D k l e);have W:=(T k (eH e)).1;refine df ?_;refine I (cR (ab:=j)) ?_;refine I (jd (n:=.slice y k.length A) (hc:=by rw[fT];exact f j _ l)) ?_;refine ir [2,3,20,21,22] ?_;exact⟨P-1,by omega,j+1,rfl,rfl,by omega⟩
  .refine dI ?_;refine K4 [3,33,34,35] ?_;refine dB (λP m E w'=>∃j:Nat,m=[(3,Z d),(33,.slice w c.R.length p),(34,F c.R.length),(35,F j)]/\E=[cF d [J c.total,.slice z ne B,J c.iO,.slice w c.R.length p] 206,cF i (cP b q s) 27]/\P+j=c.R.length) c.R.length ⟨0,rfl,rfl,rfl⟩ ?_;rintro q2 _ _ w2 ⟨h,rfl,rfl,ak⟩;refine cZ (λL=>?_) λL=>?_
   .obtain⟨k,e⟩:∃k,c.R[h]? =some k:=⟨c.R[h]'(by omega),dr (by omega)⟩;obtain⟨D,l⟩:∃D,t[h]? =some D:=⟨t[h]'(by omega),dr (by omega)⟩;obtain⟨g,o,rfl,_,_,f⟩:=G.resolve_left (by omega);obtain⟨y,A,rfl,-⟩:=id (r h D k l e);obtain⟨W,X⟩:=T k (eH e);refine df ?_;refine I (cR (ab:=h)) ?_;refine I (jd (n:=.slice y k.length A) (hc:=by rw[fT];exact f h _ l)) ?_;refine cB ?_;refine I (wQ rfl rfl) ?_;refine dd func312 (λa Q=>Y8 _ k c.total d a (by rw[rz (m:=prog) Q (l:=0) rfl];rfl) ((r h _ k l e).dx Q) (by omega) X) ?_;rintro _ _ af ⟨rfl,rfl⟩;refine ir [3,33,34,35] ?_;exact⟨q2-1,by omega,h+1,rfl,rfl,by omega⟩
   .refine dI ?_;refine N [4] ?_;refine gT results290 ?_;exact⟨rfl,rfl⟩
end
def Ls (a:C PQ):gz (nA a) 1=0/\gz (nA a) 0=0/\gz (nA a) 2=a.length:=by
 induction a with
 |nil=>exact⟨rfl,rfl,rfl⟩
 |cons f a e=>obtain⟨b,c,d⟩:=e;have g:nA (f::a)=(2,f.hd)::nA a:=rfl;rw[g,vq,vq,vq,b,c,d];exact⟨rfl,rfl,rfl⟩
def SC (a:C PQ):(pw a).length=a.length:=by unfold pw;rw[dL]
def acf {f:C Ev}{g:Nat}(e:∀c∈f,lQ c.2):∀c∈ez g f,lQ c:=λc a=>by unfold ez at a;obtain⟨d,b,rfl⟩:=dz.1 a;exact e d (kE.1 b).1
def Cg {e:Type}(a b c d:C e):(a++(b++c)++d).Perm (b++(a++c++d)):=by rw[<-dJ a b c,dJ (a++b),dJ a c d,<-dJ b a];exact lF.append_right _
section
variable{s:MC}{w k:jO}{x l:jX}{h j r t i v d:Nat}{a:PC}{c e:M}{p:O}{m q n:V}{u:U}{g:C Ev}{b:C PQ}{f:C TW}{o:C (Int×Nat)}
def Tr {B:C TW}{A:Nat}(G:nL a g (some A) B)(K:∀y∈g,d<=y.1/\y.1<d+a.ga)(Q:d<=A/\A<d+a.ga):B.length+1<=a.ga:=by
 have z:=Hp a.ga d (c:=A::B.map (·.w)) (iB.2 ⟨λz=>((G.iff A).1 z).1 rfl,G.nd⟩) λD H=>by
  rcases dh.1 H with rfl|H
  .exact Q
  .have:=((G.iff D).1 H).2;rw[ne_eq,B6]at this;simp only[Classical.not_forall]at this;obtain⟨y,L,E⟩:=this;have E:y.1=D:=AM.1 E;rw[<-E];exact K y L
 rw[eE,dL]at z;exact z
def ajy (D:nL a g none f)(E:∀y∈g,d<=y.1/\y.1<d+a.ga):f.length<=a.ga:=by
 have z:=Hp a.ga d (c:=f.map (·.w)) D.nd λA H=>by have:=((D.iff A).1 H).2;rw[ne_eq,B6]at this;simp only[Classical.not_forall]at this;obtain⟨y,G,B⟩:=this;have B:y.1=A:=AM.1 B;rw[<-B];exact E y G
 rw[dL]at z;exact z
def aju (E:oI h j a c e r g [] f q)(h0:Hl p q):Sr 90 [Z r] p q λy H=>y=PF [.bool false,F 0]/\H=[q]:=by obtain⟨t,i,n,o,rfl,D,L,K⟩:=E;refine dS func90 h0 ?_;refine eu (nC h j a c e r t i n o f) ?_;refine Pw 1 func126 (λp Q z=>ahU D z) ?_;rintro _ _ R ⟨rfl,rfl⟩;refine NV [vE,F 0,J 0] λB G=>?_;refine KW 0 (t:=[_,_,_]) (G:=oR ByteArray.empty 0 0) λA=>?_;refine N [0,4,5,6] ?_;refine N [0,4,5,21] ?_;refine N [2,3] ?_;refine cK [2,1,1,1] ?_;refine dG (d:=[]) [_,_,_,_] ?_;refine dP results90 ?_;exact⟨rfl,rfl⟩
def Tq (y:PQ)(hc:a.Ok)(aK:∃A v a,c=.slice A v a)(hB:Jy s a k l)(hm:fQ h j s (nA (y::b)++lP f++k) (pw (y::b)++ng f++l) m)(hr:oI h j a c e r g (y::b) f q)(h0:atV p [m,q])(ht:Rd p (gO [m,q]) 1 e 16 (dF a.table))(hD:∀D∈g,lQ D.2)(hx:lQ (y.key,y.weight))(aN:y.key.size<=s.lr)(aC:∀E,eA (ez E (g++[y.ev]))<=9223372036854775808)(az:∀D∈g++[y.ev],d<=D.1/\D.1<d+a.ga):aAg 90 [Z r] p [m,q] λE H=>∃aD r' ah,E=PF [.bool true,F 0]/\H=[aD,r']/\fQ h j s (nA b++lP ah++k) (pw b++ng ah++l) aD/\oI h j a c e r (g++[y.ev]) b ah r':=by
 obtain⟨t,i,n,o,rfl,hq,S,hT⟩:=hr;have aj:∀E,eA (ez E g)<=9223372036854775808:=λE=>by have:=aC E;rw[B5]at this;unfold eA at this;rw[dE,mV]at this;unfold eA;omega
 have al:∀D∈g,d<=D.1/\D.1<d+a.ga:=λD he=>az D (gI _ he);have an:d<=y.eP/\y.eP<d+a.ga:=az y.ev (by simp);have aV:=hc;refine dS func90 h0 ?_;refine cK [1,0] ?_;refine eu (nC h j a c e r t i n o f) ?_;refine N [0] ?_;refine N [0,10] ?_;refine iq ?_;refine dw (ox [m,n] [_,_,_] func126 (de [4,1] _ rfl) (λp hh P=>ahV y hm hq P)) ?_;rintro _ _ w1 ⟨_,rfl,aE,aF,rfl,rfl,aA,aQ⟩;refine NV [vE,F 0,J 0] λai aU=>?_;refine KW 0 (t:=[_,_,_]) (G:=oR y.key y.time y.weight) λaT=>?_;refine N [0,4,5,6] ?_;refine N [0,4,5,21] ?_;refine fh ?_;refine I (cU (z:=.pointer ((ed o (y.eP:Int)).map λag=>⟨ag,0,.none⟩)) (DX 4 Hk wU rfl rfl rfl) (by cases ed o (y.eP:Int)<;>rfl)) ?_;refine N [0,4,5,7] ?_;refine cL ?_;refine I (gB rfl rfl underlying253) ?_;refine cH [0,4,5,7,29] ?_;refine eS (λav H w'=>∃(G:TW)(B:C TW)(T2:C (Int×Nat))(af:V),av=[(5,Z ai),(7,Z G.z.t)]/\H=[cz (ic h j a c e G.z G.d G.rT G.rE G.rS),cz (B.map (yJ h j a c e)),cF ai (oR y.key y.time y.weight) 57,af,aF,cF r (zY h j a c e t i) 181,mp (.int .i64) (Value.int .i64) zR i T2]/\G.w=y.eP/\nL a g (some y.eP) B/\uX a G.z (PT.of a (ez y.eP g)) G.rT G.rE G.rS/\FM a (PT.of a (ez y.eP g)) G.d/\T2.Perm (((y.eP:Int),G.z.t)::B.map λy=>((y.w:Int),y.z.t))/\fQ h j s (G.d.hs++(nA b++lP B++k)) (G.d.ks++(pw b++ng B++l)) af) ?_ ?_
 .refine kL rfl (λae=>?_) (λae=>?_)
  .have ha:ed o (y.eP:Int)=none:=by
    cases R:ed o (y.eP:Int)with
    |none=>rfl
    |some ag=>rw[R]at ae;cases ae
   have X:ez y.eP g=[]:=by refine pI λR=>?_;obtain⟨G,B,T,D⟩:=Io S R;rw[<-D,Ip S hT T]at ha;cases ha
   have Q:=S.tf X;have ak:=Tr Q al an;obtain⟨k1,k0,k2,kk⟩:=Lt hc hD aj S.ok;obtain⟨q1,q0,q2⟩:=Ls b;have au:gz (nA b++lP f++k) 0+a.depth<=s.cap 0:=by rw[om,om,q0,k0];have ab:=hB.row;have h2:=j7 a.depth ak;rw[mu]at h2;omega
   refine N [0,4,5] ?_;refine cC ?_;refine eO 18 [12] [_] [_,_,_,_,_] (de [3] _ rfl) λaX=>?_;refine fh ?_;refine cC ?_;refine cN rfl (di 0 (b:=cP a c e)) ?_;refine eh rfl (ft (aE) [_,_,_,_,_] func127 (c8 2 rfl) (λp hh P=>ak9 hc aA hB.s8 au (ht.fg hh (c8 2 rfl)) aK P)) ?_;rintro _ _ w2 ⟨_,rfl,z,rT,rE,rS,W,ar,rfl,rfl,ad,ay,aM,am⟩;refine⟨_,de [2] _ rfl,?_⟩;refine N [0,4,5,7,8] ?_;refine N [0,4,5,7,8,47] ?_;refine fh ?_;refine iQ (DI (z:=z.t) 5 Hk wU rfl rfl rfl rfl) ?_;rintro _ _ w3 rfl;refine fu [2,5,2,1,1,0,0] ?_;refine cH [5,7] ?_;refine⟨⟨y.eP,z,W,rT,rE,rS⟩,f,_,ar,rfl,rfl,rfl,Q,?_,?_,?_,am.perm (cD _) (by show List.Perm _ (TD.ks W++_);unfold TD.ks;rw[ay];exact cD _)⟩
   .rw[X];exact ad
   .rw[X];refine⟨?_,aM⟩;show(W.hm.map Prod.fst).Perm _;rw[ay];exact cD _
   .rw[zm ha];exact(pK _ _).trans (hT.cons _)
  .have X:ez y.eP g≠[]:=λR=>ae (by rw[MN S hT R];rfl);obtain⟨G,B,T,K⟩:=Io S X;have aw:=Ip S hT T;rw[K]at aw;have Q:=S.out T;rw[K]at Q;have aB:=S.ok G (T.mem_iff.2 (dQ ..));rw[aw];refine cK [5,0,0,0,0,0] ?_;refine lh (wG (T.map (yJ h j a c e))) ?_;refine kw [5,7] rfl (iY ?_);refine⟨G,B,o,aE,rfl,rfl,K,Q,by rw[<-K];exact aB.o,by rw[<-K];exact aB.d,?_,aA.perm ?_ ?_⟩
   .have ab:=hT.trans (T.map λy=>((y.w:Int),y.z.t));rw[dA,K]at ab;exact ab
   .have ab:(lP f).Perm (G.d.hs++lP B):=T.flatMap_right _;exact((ab.append_left _).append_right _).trans (Cg _ _ _ _)
   .have ab:(ng f).Perm (G.d.ks++ng B):=T.flatMap_right _;exact((ab.append_left _).append_right _).trans (Cg _ _ _ _)
 .rintro _ _ w8 ⟨G,B,T2,af,rfl,rfl,K,Q,aI,aL,aJ,aO⟩;refine Y ?_;have ak:=Tr Q al an;obtain⟨k1,k0,k2,kk⟩:=Lt hc hD aj Q.ok;obtain⟨q1,q0,q2⟩:=Ls b;have aW:b.length+1<=a.queue:=by obtain⟨lv,aS,-,-,h3,-,-⟩:=hq;exact h3
  have h2:=j7 (a.et+a.exact) ak;rw[mu,xJ]at h2;have aG:IP s a (nA b++lP B++k) (pw b++ng B++l):=⟨by rw[om,om,q1];have:=hB.Km;omega,by rw[cX,cX,SC];have:=hB.key;omega,hB.Mk,hB.km⟩;obtain⟨hI,aR⟩:=PT.HA hc (ez y.eP g) (acf hD) (aj _);have aH:(PT.of a (ez y.eP g)).sum+y.weight<=9223372036854775808:=by rw[aR];have h5:=aC y.eP;rw[GW,cM (show y.ev.1=y.eP from rfl)]at h5;have h6:eA (ez y.eP g++[y.ev.2])=eA (ez y.eP g)+y.weight:=M9 _ y.key y.weight;rw[h6]at h5;exact h5
  refine eL ?_;refine dw (ox [af,cz (ic h j a c e G.z G.d G.rT G.rE G.rS)] [_,_,_,_,_] func128 (de [3,0] _ rfl) (λp hh P=>akF y.weight hc hI aI aG aL aO hx.1 aN hx.2.2 aH P)) ?_;rintro _ _ w9 ⟨_,rfl,ar,d3,aq,ao,ap,rfl,rfl,ad,ax,am⟩;refine N [2,3] ?_;refine cK [1,1,3,2,2,0] ?_;refine lh (qZ (j:=(TW.mk G.w G.z d3 aq ao ap::B).map (yJ h j a c e)) (e:=yJ h j a c e (TW.mk G.w G.z d3 aq ao ap)) (cD _)) ?_;refine cK [1,1,1,0,0] ?_;refine dG [_,_,_,_] ?_;refine cK [1,0] ?_;refine dP results90 ?_;have aP:(PT.of a (ez y.eP g)).add a y.key y.weight=PT.of a (ez G.w (g++[y.ev])):=by rw[K,GW,cM (show y.ev.1=y.eP from rfl)];exact(PT.R9 a _ y.key y.weight).symm
  rw[aP]at ad ax;refine⟨ar,_,TW.mk G.w G.z d3 aq ao ap::B,rfl,rfl,am.perm (Cg _ _ _ _).symm (Cg _ _ _ _).symm,t,i,aF,T2,rfl,aQ,Q.put K ⟨ad,ax⟩,?_⟩;rw[dA];dsimp only;rw[K];exact aJ
end
section
variable{r:MC}{w l:jO}{x m:jX}{h j k p f v s:Nat}{i:PC}{d c:M}{o:O}{e t g:V}{u:U}{q:C Ev}{a:C PQ}{b:C TW}{n:C (Int×Nat)}
def IJ {A B:C Ev}{z:Nat}(y:eA (ez z (A++B))<=9223372036854775808):eA (ez z A)<=9223372036854775808:=by rw[B5]at y;unfold eA at y|-;rw[dE,mV]at y;omega
def ajp (D:Nat)(hc:i.Ok)(an:∃A v i,d=.slice A v i)(hB:Jy r i l m)(hm:fQ h j r (nA a++lP b++l) (pw a++ng b++m) e)(hr:oI h j i d c k q a b t)(h0:atV o [e,t])(ht:Rd o (gO [e,t]) 1 c 16 (dF i.table))(hD:∀E∈q,lQ E.2)(hQ:∀y∈a,lQ (y.key,y.weight)/\y.key.size<=r.lr)(av:∀L,eA (ez L (q++a.map PQ.ev))<=9223372036854775808)(aq:∀E∈q++a.map PQ.ev,s<=E.1/\E.1<s+i.ga):aAg 93 [Z k,F D] o [e,t] λL H=>∃Q T G,L=PF [F (kK D (a.map PQ.ev):Int),F 0]/\H=[Q,T]/\fQ h j r (nA (a.drop (kK D (a.map PQ.ev)))++lP G++l) (pw (a.drop (kK D (a.map PQ.ev)))++ng G++m) Q/\oI h j i d c k (q++(a.map PQ.ev).take (kK D (a.map PQ.ev))) (a.drop (kK D (a.map PQ.ev))) G T:=by
 have aA:kK D (a.map PQ.ev)<=a.length:=by have:=UY D (a.map PQ.ev);rwa [dL]at this
 have az:a.length<=64:=by obtain⟨p,f,g,n,-,⟨lv,ay,-,-,h3,-,h4⟩,-⟩:=hr;omega
 have au:=hr;obtain⟨p,f,g,n,rfl,hq,hX,hT⟩:=hr;refine dR func93 h0 ?_;refine NX 1 0 (v:=Z p) ?_;refine Pw 1 func132 (λo hh af=>fz.Lf af (c8 1 rfl) (λai=>ah0 D hq ai)) ?_;rintro _ _ w1 ⟨rfl,rfl⟩;refine N [0,6,7] ?_;refine cC ?_;refine cK [1,0] ?_;refine K4 [0,6,7,18,19] ?_;refine dB (λR S H o=>∃(z:Nat)(Q T:V)(G:C TW),S=[(0,Z k),(6,F (kK D (a.map PQ.ev):Int)),(7,F 0),(18,F (kK D (a.map PQ.ev):Int)),(19,F z)]/\H=[Q,T]/\R+z=kK D (a.map PQ.ev)/\fQ h j r (nA (a.drop z)++lP G++l) (pw (a.drop z)++ng G++m) Q/\oI h j i d c k (q++(a.map PQ.ev).take z) (a.drop z) G T) (kK D (a.map PQ.ev)) ⟨0,e,_,b,rfl,rfl,rfl,hm,by rw[A8,eN];exact au⟩ ?_;rintro R _ _ w2 ⟨z,W,r1,al,rfl,rfl,hk,P,ad⟩;refine cZ (λam=>?_) λam=>?_
 .obtain⟨y,hy⟩:∃y,a[z]? =some y:=⟨a[z]'(by omega),dr (by omega)⟩;have ao:a.drop z=y::a.drop (z+1):=by obtain⟨ar,K⟩:=da.1 hy;rw[<-K,jP ar]
  rw[ao]at P ad;have ag:(a.map PQ.ev).take (z+1)=(a.map PQ.ev).take z++[y.ev]:=by rw[ia,eK,hy];rfl
  have ak:∀E∈(a.map PQ.ev).take (z+1),E∈a.map PQ.ev:=λE K=>qq K;have aj:=hQ y (eH hy);have uf:=λ(w':O) (h':atV w' [W,r1]) (aw:Rd w' (gO [W,r1]) 1 c 16 (dF i.table))=>Tq (d:=s) y hc an hB P ad h' aw (λE K=>by
   rcases dV.1 K with K|K
   .exact hD E K
   .have ap:=qq K;obtain⟨y',ax,rfl⟩:=dz.1 ap;exact(hQ y' ax).1) aj.1 aj.2 (λL=>by
   rw[dJ,<-ag];refine IJ (B:=(a.map PQ.ev).drop (z+1)) ?_;rw[dJ,gJ];exact av L) (λE K=>by
   rw[dJ,<-ag]at K;refine aq E ?_;rcases dV.1 K with K|K
   .exact gI _ K
   .exact iA _ (ak E K))
  refine cC ?_;refine eS (λS H w'=>∃(Q T:V)(G:C TW),S=[(0,Z k),(6,F (kK D (a.map PQ.ev):Int)),(7,F 0),(18,F (kK D (a.map PQ.ev):Int)),(19,F z)]/\H=[Q,T]/\fQ h j r (nA (a.drop (z+1))++lP G++l) (pw (a.drop (z+1))++ng G++m) Q/\oI h j i d c k (q++(a.map PQ.ev).take (z+1)) (a.drop (z+1)) G T) ?_ ?_
  .refine cL ?_;refine dw (ox [W,r1] [] func90 (cD _) (λo hh af=>uf o af (ht.rJ hh (Hc:=[W,r1]) (Hr:=[]) (cD _)))) ?_;rintro _ _ w3 ⟨_,rfl,ah,r2,X,rfl,rfl,ab,ae⟩;refine ir [0,6,7,18,19] ?_;exact⟨ah,r2,X,rfl,rfl,ab,by rw[ag,<-dJ];exact ae⟩
  .rintro _ _ w8 ⟨ah,r2,X,rfl,rfl,ab,ae⟩;refine N [0,6,7,18,19] ?_;exact⟨R-1,by omega,z+1,ah,r2,X,rfl,rfl,by omega,ab,ae⟩
 .refine dI ?_;refine db results93 ?_;obtain rfl:z=kK D (a.map PQ.ev):=by omega
  exact⟨W,r1,al,rfl,rfl,P,ad⟩
def ajm (y:Nat)(B:ed n (y:Int)=none)(h0:atV o [e,cz (nC h j i d c k p f g n b)]):aAg 97 [Z k,F y] o [e,cz (nC h j i d c k p f g n b)] λz D=>z=.bool false/\D=[e,cz (nC h j i d c k p f g n b)]:=by refine dR func97 h0 ?_;refine cK [1,0] ?_;refine eu (nC h j i d c k p f g n b) ?_;refine cB ?_;refine dw (ox [_,_] [_,_,_] func133 (de [0,1] _ rfl) (λo E A=>HX y A)) ?_;rintro _ _ G ⟨_,rfl,rfl,rfl⟩;rw[B];refine N [0,1,5] ?_;refine cL ?_;refine I (cU (z:=.bool true) (gB rfl rfl underlying253) rfl) ?_;refine cH [0,1,5,10] ?_;refine N [4] ?_;refine cK [0,1,0,0,0] ?_;refine dG [_,_,_,_] ?_;refine cK [1,0] ?_;refine dP results97 ?_;exact⟨rfl,rfl⟩
def ajn {y:TW}{B:C TW}(S:b.Perm (y::B))(L:ed n (y.w:Int)=some y.z.t)(G:y.d.rows.length<=1000)(R:fQ h j r (y.d.hs++l) (y.d.ks++m) e)(h0:atV o [e,cz (nC h j i d c k p f g n b)]):aAg 97 [Z k,F y.w] o [e,cz (nC h j i d c k p f g n b)] λD T=>∃E,D=.bool true/\T=[E,cz (nC h j i d c k p f g (ig n (y.w:Int)) B)]/\fQ h j r l m E:=by refine dR func97 h0 ?_;refine cK [1,0] ?_;refine eu (nC h j i d c k p f g n b) ?_;refine cK [3,0,0,0,0] ?_;refine lh (wG (S.map (yJ h j i d c))) ?_;refine cB ?_;refine dw (ox [_,_] [_,_,_,_] func133 (de [2,3] _ rfl) (λo Q A=>HX y.w A)) ?_;rintro _ _ W ⟨_,rfl,rfl,rfl⟩;rw[L];refine N [0,1,5] ?_;refine cL ?_;refine I (cU (z:=.bool false) (gB (w:=some ⟨y.z.t,0,.none⟩) rfl rfl underlying253) rfl) ?_;refine cB ?_;refine dw (ox [e,cz (ic h j i d c y.z y.d y.rT y.rE y.rS)] [_,_,_,_] func142 (de [5,2] _ rfl) (λo Q A=>alc R G A)) ?_;rintro _ _ X ⟨_,rfl,K,rfl,H⟩;refine cB ?_;refine iQ (Gi 2 Hk wU rfl rfl rfl) ?_;rintro _ _ w3 rfl;refine cH [] ?_;refine N [4] ?_;refine cK [1,3,1,1,0] ?_;refine dG [_,_,_,_] ?_;refine cK [1,0] ?_;refine dP results97 ?_;exact⟨K,rfl,rfl,H⟩
def ajo (y:Nat)(P:fQ h j r (nA a++lP b++l) (pw a++ng b++m) e)(hr:oI h j i d c k q a b t)(X:i.depth<=1000)(h0:atV o [e,t]):aAg 97 [Z k,F y] o [e,t] λE H=>∃L r' R,E=.bool (decide (ez y q≠[]))/\H=[L,r']/\fQ h j r (nA a++lP R++l) (pw a++ng R++m) L/\oI h j i d c k (q.filter λA=> !decide (A.1=y)) a R r':=by
 obtain⟨p,f,g,n,rfl,hq,K,S⟩:=hr;by_cases B:ez y q=[]
 .refine(ajm y (MN K S B) h0).mono ?_;rintro E H ⟨rfl,rfl⟩;have hf:(q.filter λA=> !decide (A.1=y))=q:=sW.2 λA T=>by have:=B6.1 B A T;simpa using this
  rw[hf];exact⟨e,_,b,by simp[B],rfl,P,p,f,g,n,rfl,hq,K,S⟩
 .obtain⟨Q,D,G,rfl⟩:=Io K B;have ad:=K.ok Q (G.mem_iff.2 (dQ ..));have h1:(lP b).Perm (Q.d.hs++lP D):=G.flatMap_right _;have h2:(ng b).Perm (Q.d.ks++ng D):=G.flatMap_right _;refine(ajn G (Ip K S G) (by rw[ad.d.rows];exact X) (P.perm (((h1.append_left _).append_right _).trans (Cg _ _ _ _)) (((h2.append_left _).append_right _).trans (Cg _ _ _ _))) h0).mono ?_;rintro E H ⟨L,rfl,rfl,ab⟩;refine⟨L,_,D,by simp[B],rfl,ab,p,f,g,ig n (Q.w:Int),rfl,hq,(K.out G).close,?_⟩;have h3:=S.trans (G.map λy=>((y.w:Int),y.z.t));have W:(ig n (Q.w:Int)).Perm (ig (((Q.w:Int),Q.z.t)::D.map λy=>((y.w:Int),y.z.t)) (Q.w:Int)):=h3.filter _;have h5:ig (((Q.w:Int),Q.z.t)::D.map λy=>((y.w:Int),y.z.t)) (Q.w:Int)=D.map λy=>((y.w:Int),y.z.t):=by
   unfold ig;rw[nI (by simp),sW];intro A T;obtain⟨y,hx,rfl⟩:=dz.1 T;have ae:y.w≠Q.w:=λA=>(((K.out G).iff y.w).1 (gu hx)).1 (by rw[A]);have:¬((y.w:Int)=(Q.w:Int)):=by omega
   simpa using this
  rw[h5]at W;exact W
end
structure SS where
 s:Nat
 D:C Ev
 Q:C PQ
 TL:C TW
 r:V
def SS.hs (a:SS):jO:=nA a.Q++lP a.TL
def SS.ks (a:SS):jX:=pw a.Q++ng a.TL
def SS.sh (a:SS):e8:=⟨a.D,a.Q.map PQ.ev⟩
structure tN (d:PC)(lo:Nat)(a:SS):Prop where
 hD:∀b∈a.D,lQ b.2
 hQ:∀c∈a.Q,lQ (c.key,c.weight)/\c.key.size<=d.key
 sm:∀e,eA (ez e (a.D++a.Q.map PQ.ev))<=9223372036854775808
 lo:∀b∈a.D++a.Q.map PQ.ev,lo<=b.1/\b.1<lo+d.ga
structure qv (g h:Nat)(e:PC)(b d:M)(c:Nat)(a:SS):Prop where
 r:oI g h e b d a.s a.D a.Q a.TL a.r
 f:tN e c a
def lhs (a:C SS):jO:=a.flatMap SS.hs
def nN (a:C SS):jX:=a.flatMap SS.ks
section
variable{a p n j h l e:Nat}{b:PC}{f:C Nat}{d c:M}{o:O}{g m i:V}
def qv.iC {q:SS}(w:b.Ok)(k:qv a p b d c e q):gz q.hs 1<=b.ga*(b.et+b.exact)/\gz q.hs 0<=b.ga*b.depth/\gz q.hs 2=q.Q.length/\q.Q.length<=b.queue/\q.ks.length<=b.ga*(b.et+b.exact)+q.Q.length:=by obtain⟨j,h,i,T,-,⟨K,D,-,-,y,-,-⟩,u,-⟩:=k.r;obtain⟨E,G,v,H⟩:=Lt w k.f.hD (λS=>IJ (k.f.sm S)) u.ok;have t:=ajy u (d:=e) λs x=>k.f.lo s (gI _ x);obtain⟨A,z,B⟩:=Ls q.Q;have R:=j7 (b.et+b.exact) t;have L:=j7 b.depth t;unfold SS.hs SS.ks;rw[om,om,om,A,z,B,v,cX,SC];refine⟨by omega,by omega,by omega,y,by omega⟩
def Rq (s:b.Ok):∀{k:C SS},(∀r∈k,qv a p b d c e r)->gz (lhs k) 1<=k.length*(b.ga*(b.et+b.exact))/\gz (lhs k) 0<=k.length*(b.ga*b.depth)/\gz (lhs k) 2<=k.length*b.queue/\(nN k).length<=k.length*(b.ga*(b.et+b.exact))+k.length*b.queue
 |[],_=>by simp[lhs,nN,gz]
 |r::k,q=>by obtain⟨B,D,E,G⟩:=Rq s λH v=>q H (dN _ v);obtain⟨w,x,y,z,A⟩:=(q r (dQ ..)).iC s;have t:lhs (r::k)=r.hs++lhs k:=rfl;have u:nN (r::k)=r.ks++nN k:=rfl;rw[t,u,om,om,om,cX,eE,mu,mu,mu,xJ,xJ,xJ];refine⟨by omega,by omega,by omega,by omega⟩
def Ml (s:b.Ok){k:C SS}(q:∀E∈k,qv a p b d c e E)(r:k.length+1<=b.dm):Jy (nz b f) b (lhs k) (nN k):=by
 obtain⟨z,A,B,D⟩:=Rq s q;have x:=j7 (b.ga*(b.et+b.exact)) r;have w:=j7 (b.ga*b.depth) r;have y:=j7 b.queue r;rw[mu,xJ]at x w y;have u:(nz b f).cap 1=b.dm*(b.ga*(b.et+b.exact)):=zd _ _ _;have t:(nz b f).cap 0=b.dm*(b.ga*b.depth):=zd _ _ _;have v:(nz b f).cap 2=b.dm*b.queue:=rfl;have ek:(nz b f).gW=b.dm*(b.ga*(b.et+b.exact))+b.dm*b.queue:=by show b.ie+b.ix=_;unfold PC.ie PC.ix;rw[zd]
 refine⟨by rw[u];omega,by rw[t];omega,by rw[v];omega,by rw[ek];omega,rfl,rfl,rfl,s.key.2⟩
def wV (k q:C SS)(r:SS):(lhs (k++r::q)).Perm (r.hs++lhs (k++q))/\(nN (k++r::q)).Perm (r.ks++nN (k++q)):=⟨(eg (a:=r) (l₁:=k) (l₂:=q)).flatMap_right SS.hs,(eg (a:=r) (l₁:=k) (l₂:=q)).flatMap_right SS.ks⟩
structure CA where
 k:Nat
 a:Nat
 p:Nat
 lg:Nat
 sv:M
 bv:M
 skip:Nat
 broken:Bool
 wm:Nat
def xY (b:PC)(d c:M)(k:CA):C M:=cP b d c++[Z k.a,k.sv,Z k.lg,k.bv,J k.skip,.bool k.broken,F k.wm]
def na (k:SS):M:=Z k.s
def dO (b:PC)(d c:M)(u:CA)(q:C SS)(g t s:V):C V:=[cF u.k (xY b d c u) 123,row c 23 1 16 (dF b.table),g,t,row u.sv 129 1 q.length (q.map na),cz (q.map (·.r)),s]
end
section
variable{l:Nat}{i:PC}{m:C Nat}{d e:M}{k:O}{h g f:V}{j:CA}{b c:C SS}{a:SS}
def EG (b c:C SS)(a:SS):((b++a::c).map na)[b.length]? =some (na a):=by rw[eK,nm (dT _),nK];rfl
def Ib {o:SS}(n:o.s=a.s):(b++o::c).map na=(b++a::c).map na:=by rw[dE,dE,dA,dA];unfold na;rw[n]
def YX (h0:Hl k (cz (dO i d e j (b++a::c) h g f)))(A:oI j.a j.p i d e a.s a.D [] a.TL a.r)(z:(b++a::c).length<=1000):Sr 55 [Z j.k,F b.length] k (cz (dO i d e j (b++a::c) h g f)) λL H=>L=PF [.bool false,F 0]/\H=[cz (dO i d e j (b++a::c) h g f)]:=by
 obtain⟨p,o,B,u,sv,bv,skip,n,w⟩:=j;have G:b.length<(b++a::c).length:=by simp
 obtain⟨q,y,t⟩:=pD ((In.here (w0:=k) (F0:=(cz (dO i d e ⟨p,o,B,u,sv,bv,skip,n,w⟩ (b++a::c) h g f)).fq) (H:=[cz (dO i d e ⟨p,o,B,u,sv,bv,skip,n,w⟩ (b++a::c) h g f)]) (i:=0) rfl).cz (j:=4) rfl k h0);dsimp only at t;subst t;refine dR func55 h0 ?_;refine eu (dO i d e ⟨p,o,B,u,vS q (b++a::c).length y,bv,skip,n,w⟩ (b++a::c) h g f) ?_;refine cK [5,0,0,0,0,0,0] ?_;refine lh (wG (e:=a.r) (d:=(b++c).map (·.r)) ((eg (a:=a) (l₁:=b) (l₂:=c)).map (·.r))) ?_;refine N [0,1] ?_;refine N [0,1,7] ?_;refine N [0,1,18] ?_;refine fh ?_;refine I (cR (ab:=b.length)) ?_;refine I (gj 6 (n:=na a) (hv:=by rw[dU,fT];exact EG b c a)) ?_;refine cY (a.r) [_,_,_,_,_,_,_] func90 (cD _) (λk K x=>aju A x) ?_;rintro _ _ E ⟨rfl,rfl⟩;refine N [4,5] ?_;refine lh (qZ (e:=a.r) (d:=(b++c).map (·.r)) ((eg (a:=a) (l₁:=b) (l₂:=c)).map (·.r))) ?_;refine cK [1,1,1,1,1,0,0] ?_;refine dG (d:=[]) [_,_,_,_,_,_,_] ?_;refine dP results55 ?_;exact⟨rfl,rfl⟩
end
section
variable{m g:Nat}{l:PC}{r:C Nat}{i k:M}{q:O}{j o n h:V}{p:CA}{c f s:C SS}{t:SS}{e:C Ev}{d:C PQ}{b:PQ}{a:C TW}
def tN.step {JB:C TW}{r':V}(u:tN l m (SS.mk g e (b::d) a h)):tN l m (SS.mk g (e++[b.ev]) d JB r'):=by
 have v:(e++[b.ev])++d.map PQ.ev=e++(b::d).map PQ.ev:=by rw[dJ];rfl
 refine⟨λv w=>?_,λx z=>u.hQ x (dN _ z),λB=>?_,λD A=>?_⟩
 .rcases dV.1 w with w|w
  .exact u.hD v w
  .obtain rfl:=fI.1 w;exact(u.hQ b (dQ ..)).1
 .show eA (ez B ((e++[b.ev])++d.map PQ.ev))<=_;rw[v];exact u.sm B
 .have y:D∈(e++[b.ev])++d.map PQ.ev:=A;rw[v]at y;exact u.lo D y
def YY (hc:l.Ok)(ah:∃c P l,i=.slice c P l)(G:∀w∈c++SS.mk g e (b::d) a h::f,qv p.a p.p l i k m w)(af:(c++SS.mk g e (b::d) a h::f).length=l.dm)(hm:fQ p.a p.p (nz l r) (lhs (c++SS.mk g e (b::d) a h::f)) (nN (c++SS.mk g e (b::d) a h::f)) j)(h0:Hl q (cz (dO l i k p (c++SS.mk g e (b::d) a h::f) j o n))):Sr 55 [Z p.k,F c.length] q (cz (dO l i k p (c++SS.mk g e (b::d) a h::f) j o n)) λu H=>∃(ae T:V)(K:C TW),u=PF [.bool true,F 0]/\H=[cz (dO l i k p (c++SS.mk g (e++[b.ev]) d K T::f) ae o n)]/\(∀w∈c++SS.mk g (e++[b.ev]) d K T::f,qv p.a p.p l i k m w)/\fQ p.a p.p (nz l r) (lhs (c++SS.mk g (e++[b.ev]) d K T::f)) (nN (c++SS.mk g (e++[b.ev]) d K T::f)) ae:=by
 obtain⟨D,y,z,lg,sv,bv,skip,A,wm⟩:=p;have ao:c.length<(c++SS.mk g e (b::d) a h::f).length:=by simp
 have ap:=hc.dm;obtain⟨X,cp,ab⟩:=pD ((In.here (w0:=q) (F0:=(cz (dO l i k ⟨D,y,z,lg,sv,bv,skip,A,wm⟩ (c++SS.mk g e (b::d) a h::f) j o n)).fq) (H:=[cz (dO l i k ⟨D,y,z,lg,sv,bv,skip,A,wm⟩ (c++SS.mk g e (b::d) a h::f) j o n)]) (i:=0) rfl).cz (j:=4) rfl q h0);dsimp only at ab hm G;subst ab;have L:=G _ (iA _ (dQ ..));have ag:∀w∈c++f,qv y z l i k m w:=λw hq=>G w (by
  rcases dV.1 hq with x|x
  .exact gI _ x
  .exact iA _ (dN _ x))
 have hB:=Ml (f:=r) hc ag (by simp only[cX,eE]at af|-;omega);obtain⟨p1,p2⟩:=wV c f (SS.mk g e (b::d) a h);have ai:fQ y z (nz l r) (nA (b::d)++lP a++lhs (c++f)) (pw (b::d)++ng a++nN (c++f)) j:=hm.perm p1 p2;have ad:=L.f.hQ b (dQ ..);have uf:=λ(w':O) (h':atV w' [j,h]) (am:Rd w' (gO [j,h]) 1 k 16 (dF l.table))=>Tq (d:=m) b hc ah hB ai L.r h' am L.f.hD ad.1 ad.2 (λu=>IJ (B:=d.map PQ.ev) ((L.f.step (JB:=[]) (r':=h)).sm u)) (λW he=>(L.f.step (JB:=[]) (r':=h)).lo W (gI _ he));refine dR func55 h0 ?_;refine eu (dO l i k ⟨D,y,z,lg,vS X (c++SS.mk g e (b::d) a h::f).length cp,bv,skip,A,wm⟩ (c++SS.mk g e (b::d) a h::f) j o n) ?_;refine cK [5,0,0,0,0,0,0] ?_;refine lh (wG (e:=h) (d:=(c++f).map (·.r)) ((eg (a:=SS.mk g e (b::d) a h) (l₁:=c) (l₂:=f)).map (·.r))) ?_;refine N [0,1] ?_;refine N [0,1,7] ?_;refine N [0,1,18] ?_;refine fh ?_;refine I (cR (ab:=c.length)) ?_;refine I (gj 6 (n:=na (SS.mk g e (b::d) a h)) (hv:=by rw[dU,fT];exact EG c f _)) ?_;refine dw (ox [j,h] [_,_,_,_,_,_] func90 (de [4,0] _ rfl) (λq hh al=>uf q al (Rd.held (sz:=1) (n:=16) (e:=23) hh (de [4,0] _ rfl) (by simp)))) ?_;rintro _ _ w2 ⟨_,rfl,an,Q,E,rfl,rfl,aj,ak⟩;refine N [4,5] ?_;refine cK [1,1,1,1,0,0,0,0] ?_;refine lh (qZ (e:=Q) (d:=(c++f).map (·.r)) ((eg (a:=SS.mk g (e++[b.ev]) d E Q) (l₁:=c) (l₂:=f)).map (·.r))) ?_;refine cK [1,1,1,1,1,0,0] ?_;refine dG (d:=[]) [_,_,_,_,_,_,_] ?_;refine dP results55 ?_;have e1:(c++SS.mk g (e++[b.ev]) d E Q::f).map na=(c++SS.mk g e (b::d) a h::f).map na:=Ib rfl;have e2:(c++SS.mk g (e++[b.ev]) d E Q::f).length=(c++SS.mk g e (b::d) a h::f).length:=by simp
 obtain⟨p3,p4⟩:=wV c f (SS.mk g (e++[b.ev]) d E Q);refine⟨an,Q,E,rfl,?_,λw hq=>?_,aj.perm p3.symm p4.symm⟩
 .unfold dO;rw[e1,e2]
 .rcases dV.1 hq with x|x
  .exact G w (gI _ x)
  .rcases dh.1 x with rfl|x
   .exact⟨ak,L.f.step⟩
   .exact G w (iA _ (dN _ x))
end
section
variable{m s:Nat}{h:PC}{q:C Nat}{b c:M}{k:O}{f e d r:V}{i:CA}{j l a:C SS}{g:SS}{o:C Ev}{p:C PQ}{t:PQ}{n:C TW}
def ja (a:C SS):C Nat:=a.map λg=>g.Q.length
def Y0 (R:∀Q∈a,qv i.a i.p h b c m Q)(ai:a.length<=1000)(h0:Hl k (cz (dO h b c i a f e d))):Sr 89 [Z i.k] k (cz (dO h b c i a f e d)) λu H=>H=[cz (dO h b c i a f e d),row u 3 1 a.length (ec (ja a))]:=by
 obtain⟨z,y,A,D,sv,bv,skip,x,E⟩:=i;obtain⟨T,W,S⟩:=Ew ((In.here (w0:=k) (F0:=(cz (dO h b c ⟨z,y,A,D,sv,bv,skip,x,E⟩ a f e d)).fq) (H:=[cz (dO h b c ⟨z,y,A,D,sv,bv,skip,x,E⟩ a f e d)]) (i:=0) rfl).cz (j:=4) rfl k h0);dsimp only at S R;subst S;refine dS func89 h0 ?_;refine eu (dO h b c ⟨z,y,A,D,.slice T a.length W,bv,skip,x,E⟩ a f e d) ?_;refine N [0] ?_;refine N [0,7] ?_;refine N [0,3] ?_;refine N [3,11,12,13] ?_;refine Y ?_;refine gh 3 1 ?_;refine dB (λP L H k=>∃(w:Nat)(u:M),L=[(3,u),(11,.slice T a.length W),(12,F a.length),(13,F w)]/\H=row u 3 1 w (ec (ja (a.take w)))::dO h b c ⟨z,y,A,D,.slice T a.length W,bv,skip,x,E⟩ a f e d/\P+w=a.length) a.length ⟨0,_,rfl,rfl,rfl⟩ ?_;rintro P _ _ w1 ⟨w,u,rfl,rfl,hk⟩;refine cZ (λab=>?_) λab=>?_
 .obtain⟨g,B⟩:∃g,a[w]? =some g:=⟨a[w]'(by omega),dr (by omega)⟩;obtain⟨j,l,hl,hA⟩:∃j l,a=j++g::l/\j.length=w:=⟨a.take w,a.drop (w+1),by obtain⟨ak,he⟩:=da.1 B;rw[<-he,Fi,gJ],by rw[eD];omega⟩;have ad:(a.map (·.r)).Perm (g.r::(j++l).map (·.r)):=by rw[hl];exact(eg (a:=g) (l₁:=j) (l₂:=l)).map (·.r)
  have ae:=(R g (eH B)).r;refine eQ λX=>?_;obtain⟨ag,c2,G⟩:=fs X (q:=5) rfl;injection G with e1 e2 e3;subst e1;subst e3;clear X e2;refine df ?_;refine I (cR (ab:=w)) ?_;refine I (gj 5 (n:=na g) (hv:=by rw[dU,fT,eK,B];rfl)) ?_;refine Pw 6 func85 (λk X af=>fz.Lf af ad (λK=>Mn ae K)) ?_;rintro _ _ w2 ⟨rfl,rfl⟩;refine gZ mj (ae:=by decide) λah aj=>?_;refine dw (jo 2 mj) ?_;rintro _ _ w3 ⟨⟨A9,c9,rfl⟩,rfl⟩;refine fu [2,2,2,2,2,2,1,1] ?_;refine ir [3,11,12,13] ?_;refine⟨P-1,by omega,w+1,_,rfl,?_,by omega⟩;rw[ia,B];unfold ja ec dO;rw[dE,dE];rfl
 .obtain rfl:w=a.length:=by omega
  rw[j6];refine dI ?_;refine N [2] ?_;refine cK [1,1,1,1,1,1,1,0] ?_;refine dG [_,_,_,_,_,_,_] ?_;refine dP results89 ?_;rfl
end
def B4 (a:U)(b d c:Nat):M:=PE [.string a,F b,J d,F c]
structure jr (e:PC)(k:C Nat)(f j:M)(g:Nat)(b:CA)(d:C SS)(i h:V)(c:dg):Prop where
 ok:∀l∈d,qv b.a b.p e f j g l
 len:d.length=e.dm
 sh:c.sh=d.map SS.sh
 wm:c.wm=b.wm
 lg:sS b.lg c.dY c.acc c.fN h
 mem:fQ b.a b.p (nz e k) (lhs d) (nN d) i
section
variable{m q:Nat}{b:PC}{o:C Nat}{e c:M}{l:O}{j h k p:V}{n:CA}{d g f:C SS}{i:dg}{a:gH}
def EF {f:C SS}{r:Nat}(s:r<f.length):∃d a g,f=d++a::g/\d.length=r:=⟨f.take r,f[r],f.drop (r+1),by rw[Fi,gJ],by rw[eD];omega⟩
def gH.pq (b:PC)(a:gH)(r:Hd)(id:Nat):PQ:=⟨b.gx a.time,a.time,a.weight,r,id,a.key⟩
def akQ {f d g:C SS}{u:SS}{i:dg}{a:gH}{b:PC}{w:Hd}{id:Nat}{z:V}(y:∀(d g:C e8)(a:e8)(r:e8->e8),(d++a::g).modify d.length r=d++r a::g)(t:i.sh=f.map SS.sh)(x:f=d++u::g)(v:d.length=b.oU a.key i.acc):(i.take b a).sh=(d++SS.mk u.s u.D (u.Q++[a.pq b w id]) u.TL z::g).map SS.sh:=by show i.sh.modify (b.oU a.key i.acc) _=_;rw[t,x,dE,dA,<-v,show d.length=(d.map SS.sh).length by simp,y,dE,dA];congr 2;unfold SS.sh e8.push;dsimp only;rw[dE];rfl
def SB {s:Type}(r:s)(t v u:C s):(r::(t++v++u)).Perm (t++[r]++v++u):=by rw[dJ,dJ,dJ];exact(eg (a:=r) (l₁:=t) (l₂:=v++u)).symm
def RW {s:Type}(d g:C s)(a:s)(r:s->s):(d++a::g).modify d.length r=d++r a::g:=by
 induction d with
 |nil=>rfl
 |cons t d u=>simp[u]
def acP (hc:b.Ok)(hI:jr b o e c m n f j h i)(hx:lQ (a.key,a.weight))(az:a.key.size<=b.key)(aD:a.time<=1099511627776)(aE:n.wm<=1099511627776)(aI:i.total (b.gx a.time)<18446744073709551616)(aO:a.weight<18446744073709551616)(an:i.acc<=4611686018427387904)(P:i.jn b a=0->∀(ax:Nat)(aT:e8),(i.take b a).sh[ax]? =some aT->(∀u,eA (ez u aT.all)<=9223372036854775808)/\∀x∈aT.all,m<=x.1/\x.1<m+b.ga)(h0:Hl l (cz (dO b e c n f j h k))):Sr 52 [Z n.k,B4 a.key a.time a.weight 0] l (cz (dO b e c n f j h k)) λu H=>∃aG aF l',u=F (i.jn b a:Int)/\H=[cz (dO b e c n l' aG aF k)]/\jr b o e c m n l' aG aF (if i.jn b a=0 then i.take b a else i):=by
 obtain⟨A,z,B,lg,sv,bv,skip,G,ab⟩:=n;obtain⟨af,ai,aB,aj,am,aq⟩:=id hI;have a1:b.oU a.key i.acc<b.dm:=uQ _ (by have:=hc.dm;omega);obtain⟨d,w,g,X,hA⟩:=EF (f:=f) (r:=b.oU a.key i.acc) (by omega);have aA:(f.map (·.r)).Perm (w.r::(d++g).map (·.r)):=by rw[X];exact(eg (a:=w) (l₁:=d) (l₂:=g)).map (·.r)
 have hy:=af w (by rw[X];simp);obtain⟨W,cp,aC⟩:=pD ((In.here (w0:=l) (F0:=(cz (dO b e c ⟨A,z,B,lg,sv,bv,skip,G,ab⟩ f j h k)).fq) (H:=[cz (dO b e c ⟨A,z,B,lg,sv,bv,skip,G,ab⟩ f j h k)]) (i:=0) rfl).cz (j:=4) rfl l h0);dsimp only at aC af aj am aq hy aE;subst aC;have av:(i.iI (b.oU a.key i.acc)).Q.length=w.Q.length:=by unfold dg.iI;rw[aB,jM,eK,X,<-hA,nm (dT _),nK];show(w.Q.map PQ.ev).length=_;rw[dL]
 have aR:a.key.size<=255:=hx.2.1;have hj:i.jn b a=if b.verdict ab a.time≠0 then b.verdict ab a.time else if 9223372036854775808<i.total (b.gx a.time)+a.weight then 5 else if w.Q.length=b.queue then 6 else 0:=by unfold dg.jn;rw[aj,av]
 rw[hj]at P|-;refine enter (g:=87) func52 rfl rfl [(0,_),(1,PE [.string a.key,F a.time,J a.weight,F 0])] rfl ⟨rfl,rfl,trivial⟩ h0 ?_;refine eu (dO b e c ⟨A,z,B,lg,vS W f.length cp,bv,skip,G,ab⟩ f j h k) ?_;refine Mf (f:=[.string a.key,F a.time,J a.weight,F 0]) λaU aV=>?_;refine K3 0 (f:=oR a.key a.time a.weight) ?_;refine dj [vE,F 0,J 0] λag aY=>?_;refine cO 0 (H:=oR a.key a.time a.weight) (h1:=by simp[oR,Value.oneCell']) λaZ=>?_;refine cH [0,5] ?_;refine cC ?_;refine cK [0,1,1,1,1,1,1,1] ?_;refine eO 12 [10] [_,_] [_,_,_,_,_,_] (cD _) λa2=>?_;refine cQ ?_;refine cN rfl (di 1 (b:=cP b e c)) ?_;refine eL ?_;refine eh rfl (eB func81 (λl hh=>YI hc e c ab a.time l aE aD)) ?_;rintro _ _ aS ⟨_,rfl,rfl,rfl⟩;refine⟨_,jQ _ _ _,?_⟩;refine cZ (λao=>?_) λao=>?_
 .have ad:b.verdict ab a.time≠0:=λx=>ao (by rw[x];rfl);refine N [4] ?_;refine cK [1,1,1,1,1,1,1] ?_;refine dG (d:=[]) [_,_,_,_,_,_,_] ?_;refine dP results52 ?_;rw[cM ad,cJ ad];exact⟨j,h,f,rfl,rfl,hI⟩
 .have ad:b.verdict ab a.time=0:=by have:¬((b.verdict ab a.time:Int)≠0):=ao;omega
  simp only[ad,ne_eq,not_true_eq_false,r7]at P|-;refine cC ?_;refine eO 8 [6] [_,_] [_,_,_,_,_,_] (cD _) λa3=>?_;refine cQ ?_;refine cN rfl (di 1 (b:=cP b e c)) ?_;refine cC ?_;refine eh rfl (eB func20 (λl hh=>Dv hc e c a.time l aD)) ?_;rintro _ _ a0 ⟨_,rfl,rfl,rfl⟩;refine⟨_,jQ _ _ _,?_⟩;refine N [0,5,7] ?_;refine cC ?_;refine eO 9 [7] [_,_] [_,_,_,_,_,_] (cD _) λa4=>?_;refine fw ?_;refine eh rfl (ft (h) [_,_,_,_,_,_,_] func82 (c8 4 rfl) (λl hh K=>Ru (b.gx a.time) a.weight am K aI aO)) ?_;rintro _ _ w2 ⟨_,rfl,rfl,rfl⟩;refine⟨_,de [1,1] _ rfl,?_⟩;refine cN rfl (cU (z:=.bool (decide (9223372036854775808<i.total (b.gx a.time)+a.weight))) (jl rfl rfl) (dq Value.bool (by unfold dg.total;rw[<-decide_not];exact uU.2 (by omega)))) ?_;refine cZ (λak=>?_) λak=>?_
  .refine N [4] ?_;refine cK [1,2,2,1,1,1,1] ?_;refine dG (d:=[]) [_,_,_,_,_,_,_] ?_;refine dP results52 ?_;rw[cM ak,cJ (by decide)];exact⟨j,h,f,rfl,rfl,hI⟩
  .rw[cJ ak]at P|-;refine cC ?_;refine cK [6,0,0,0,0,0,0,0] ?_;refine lh (wG (e:=w.r) (d:=(d++g).map (·.r)) aA) ?_;refine eO 19 [14,15] [_,_,_,_] [_,_,_,_,_] (de [2,2,3,4] _ rfl) λaW=>?_;refine fw ?_;refine cN rfl (di 1 (b:=cP b e c)) ?_;refine eL ?_;refine eh rfl (ft (h) [_,_,_,_,_,_,_,_] func84 (c8 6 rfl) (λl hh K=>ac7 am K)) ?_;rintro _ _ w3 ⟨_,rfl,rfl,rfl⟩;refine⟨_,de [1,1,1,1] _ rfl,?_⟩;refine eh rfl (eB func83 (λl hh=>aiQ hc e c a.key i.acc l (Rd.dM hh (l:=2) rfl) (by omega) an)) ?_;rintro _ _ aQ ⟨_,rfl,rfl,rfl⟩;refine⟨_,jQ _ _ _,?_⟩;refine cN rfl (cR (ab:=d.length) (hi:=by rw[hA])) ?_;refine cN rfl (gj 3 (n:=na w) (hv:=by rw[dU,fT,X];exact EG d g w)) ?_;refine N [0,5,7,8] ?_;refine cC ?_;refine eS (λay H w'=>∃y:Bool,ay=[(0,Z A),(5,Z ag),(7,F (b.gx a.time:Int)),(78,.bool y)]/\(y=true/\w.Q.length=b.queue/\H=[cF ag (oR a.key a.time a.weight) 57,cF A (xY b e c ⟨A,z,B,lg,vS W f.length cp,bv,skip,G,ab⟩) 123,w.r,row c 23 1 16 (dF b.table),row (vS W f.length cp) 129 1 f.length (f.map na),h,cz ((d++g).map (·.r)),j,k]\/y=false/\w.Q.length≠b.queue/\∃E id ae T,H=[cF ag (oR a.key a.time a.weight) 57,cF A (xY b e c ⟨A,z,B,lg,vS W f.length cp,bv,skip,G,ab⟩) 123,ae,T,row c 23 1 16 (dF b.table),row (vS W f.length cp) 129 1 f.length (f.map na),h,cz ((d++g).map (·.r)),k]/\fQ z B (nz b o) ((2,E)::lhs f) ((id,a.key)::nN f) ae/\oI z B b e c w.s w.D (w.Q++[⟨b.gx a.time,a.time,a.weight,E,id,a.key⟩]) w.TL T)) ?_ ?_
   .by_cases ah:(w.Q.length:Int)=(b.queue:Int)
    .refine oW [0,2,3,4,5,6,1001,7,8,9,10,11,1012,13,14] [_,_] [_,_,_,_,_,_,_] (cD _) λaJ=>?_;refine eL ?_;refine eh rfl (ft (w.r) [_,_,_,_,_,_,_,_] func85 (c8 5 rfl) (λl hh K=>Mn hy.r K)) ?_;rintro _ _ w4 ⟨_,rfl,rfl,rfl⟩;refine⟨_,de [1,1] _ rfl,?_⟩;refine cN rfl (cU (e9 rfl rfl) (dq Value.bool (gb ah))) ?_;refine cL ?_;refine Am rfl rfl rfl ?_;refine Y ?_;refine cN rfl (mC rfl rfl rfl) ?_;refine iK [0,5,7,78] ?_;exact⟨true,rfl,.inl ⟨rfl,by omega,rfl⟩⟩
    .have aM:w.Q.length≠b.queue:=λx=>ah (by rw[x]);obtain⟨b1,b2,b3,b4,b5⟩:=hy.iC hc;have aN:w.Q.length<b.queue:=by omega
     have hB:=Ml (f:=o) hc (k:=d++g) (a:=z) (p:=B) (d:=e) (c:=c) (e:=m) (λy hq=>af y (by
      rw[X];rcases dV.1 hq with t|t
      .exact gI _ t
      .exact iA _ (dN _ t))) (by rw[X]at ai;simp only[cX,eE]at ai|-;omega)
     obtain⟨p1,p2⟩:=wV d g w;rw[<-X]at p1 p2;have aw:gz (lhs f) 2<(nz b o).cap 2:=by rw[Ri p1,om,b3];have:=hB.Py;omega
     have aL:(nN f).length<(nz b o).gW:=by rw[p2.length_eq,cX];have:=hB.key;omega
     have aK:1<=a.key.size:=by
      rcases Bc a.key.size with t|t
      .exact absurd (ByteArray.size_eq_zero_iff.1 t) hx.1
      .exact t
     refine oW [0,2,3,4,5,6,1001,7,8,9,10,11,1012,13,14] [_,_] [_,_,_,_,_,_,_] (cD _) λaJ=>?_;refine eL ?_;refine eh rfl (ft (w.r) [_,_,_,_,_,_,_,_] func85 (c8 5 rfl) (λl hh K=>Mn hy.r K)) ?_;rintro _ _ w4 ⟨_,rfl,rfl,rfl⟩;refine⟨_,de [1,1] _ rfl,?_⟩;refine cN rfl (cU (e9 rfl rfl) (dq Value.bool (fL ah))) ?_;refine cQ ?_;refine fX rfl rfl rfl (di 0 (b:=oR a.key a.time a.weight)) ?_;refine Og rfl rfl rfl (ox [j,w.r] [_,_,_,_,_,_,_] func86 (de [7,2] _ rfl) (λl hh K=>ajs (b.gx a.time) a.time a.weight aq hy.r K rfl aw aL aK az hc.key.2 aN)) ?_;rintro _ _ w5 ⟨_,rfl,E,id,ae,T,rfl,rfl,ap,au⟩;refine⟨_,de [2,2] _ rfl,?_⟩;refine fX rfl rfl rfl (jt rfl rfl) ?_;refine cN rfl (mC rfl rfl rfl) ?_;refine iK [0,5,7,78] ?_;exact⟨false,rfl,.inr ⟨rfl,aM,E,id,ae,T,rfl,ap,au⟩⟩
   rintro _ _ w6 ⟨y,rfl,hq⟩;refine kL rfl (λal=>?_) (λal=>?_)
   .obtain⟨-,ar,rfl⟩:=hq.resolve_right (by rintro⟨t,_⟩;rw[t]at al;cases al);refine N [4] ?_;refine cK [2,5,1,1,3,2,1,1] ?_;refine lh (qZ (e:=w.r) (d:=(d++g).map (·.r)) aA) ?_;refine cK [1,1,1,1,1,0,0] ?_;refine dG (d:=[]) [_,_,_,_,_,_,_] ?_;refine dP results52 ?_;rw[cM ar,cJ (by decide)];exact⟨j,h,f,rfl,rfl,hI⟩
   .obtain⟨-,ar,E,id,ae,T,rfl,ap,au⟩:=hq.resolve_left (by rintro⟨t,_⟩;exact al t);rw[cJ ar]at P|-;refine cC ?_;refine eO 8 [7] [_,_] [_,_,_,_,_,_,_] (cD _) λaX=>?_;refine fw ?_;refine eh rfl (ft (h) [_,_,_,_,_,_,_,_] func87 (c8 6 rfl) (λl hh K=>ac8 (b.gx a.time) a.weight am K (by unfold dg.total at ak;omega) an)) ?_;rintro _ _ w7 ⟨_,rfl,aP,rfl,rfl,aH⟩;refine⟨_,de [1,1] _ rfl,?_⟩;refine iK [] ?_;refine N [4] ?_;refine cK [4,6,1,3,2,1,1,1] ?_;refine lh (qZ (e:=T) (d:=(d++g).map (·.r)) (j:=(d++SS.mk w.s w.D (w.Q++[⟨b.gx a.time,a.time,a.weight,E,id,a.key⟩]) w.TL T::g).map (·.r)) ((eg (a:=SS.mk w.s w.D (w.Q++[⟨b.gx a.time,a.time,a.weight,E,id,a.key⟩]) w.TL T) (l₁:=d) (l₂:=g)).map (·.r))) ?_;refine cK [1,1,1,1,1,0,0] ?_;refine dG (d:=[]) [_,_,_,_,_,_,_] ?_;refine dP results52 ?_;have e1:(d++SS.mk w.s w.D (w.Q++[a.pq b E id]) w.TL T::g).map na=f.map na:=by rw[X];exact Ib rfl
    have e2:(d++SS.mk w.s w.D (w.Q++[a.pq b E id]) w.TL T::g).length=f.length:=by rw[X];simp
    have e3:=akQ (w:=E) (id:=id) (z:=T) RW aB X hA;obtain⟨p1,p2⟩:=wV d g w;rw[<-X]at p1 p2;obtain⟨p3,p4⟩:=wV d g (SS.mk w.s w.D (w.Q++[a.pq b E id]) w.TL T);obtain⟨f1,f2⟩:=P rfl d.length (SS.sh (SS.mk w.s w.D (w.Q++[a.pq b E id]) w.TL T)) (by rw[e3,eK,nm (dT _),nK];rfl);refine⟨ae,aP,d++SS.mk w.s w.D (w.Q++[a.pq b E id]) w.TL T::g,rfl,?_,?_⟩
    .unfold dO;rw[e1,e2];rfl
    .rw[cM rfl];refine⟨λy hq=>?_,by rw[e2];exact ai,e3,aj,aH,ap.perm ?_ ?_⟩
     .rcases dV.1 hq with t|t
      .exact af y (by rw[X];exact gI _ t)
      .rcases dh.1 t with rfl|t
       .refine⟨au,hy.f.hD,λv ad=>?_,f1,f2⟩;rcases dV.1 ad with ad|ad
        .exact hy.f.hQ v ad
        .obtain rfl:=fI.1 ad;exact⟨hx,az⟩
       .exact af y (by rw[X];exact iA _ (dN _ t))
     .refine((p1.cons _).trans ?_).trans p3.symm;have x:(SS.mk w.s w.D (w.Q++[a.pq b E id]) w.TL T).hs=nA w.Q++[(2,E)]++lP w.TL:=by show nA (w.Q++[a.pq b E id])++lP w.TL=_;unfold nA;rw[dE];rfl
      rw[x];exact SB _ _ _ _
     .refine((p2.cons _).trans ?_).trans p4.symm;have x:(SS.mk w.s w.D (w.Q++[a.pq b E id]) w.TL T).ks=pw w.Q++[(id,a.key)]++ng w.TL:=by show pw (w.Q++[a.pq b E id])++ng w.TL=_;unfold pw;rw[dE];rfl
      rw[x];exact SB _ _ _ _
end
def uz (a:M):M:=PE [a,J 0,.bool false]
def gL (a:C Nat):C Nat:=DF.er a.length++a
def Ah {a:Nat}(b:a<128):DF.er a=[a]:=by unfold DF.er;rw[DF.enc,cM (by omega)]
def as0 {a:Nat}(c:128<=a)(b:a<16384):DF.er a=[a % 128+128,a/128]:=by unfold DF.er;rw[DF.enc,cJ (by omega),DF.enc,cM (by omega)]
def aby {a:C Nat}(g:a.length<=4096){b:Nat}(c:1<=b)(f:b<=(gL a).length):DF.gC ((gL a).take b)=if b<(DF.er a.length).length then(0,0,2)else(a.length,(DF.er a.length).length,0):=by
 by_cases e:a.length<128
 .unfold gL;rw[Ah e];obtain⟨d,rfl⟩:∃d,b=d+1:=⟨b-1,by omega⟩;rw[cJ (by simp)];show DF.gC (a.length::a.take d)=_;unfold DF.gC;rw[DF.rd,cJ (by omega),cJ (by omega),cJ (by omega),cJ (by omega)];simp;omega
 .unfold gL;rw[as0 (by omega) (by omega)];have h:(a.length % 128+128) % 128=a.length % 128:=by omega
  match b,c with
  |1,_=>rw[cM (by simp)];show DF.gC [a.length % 128+128]=_;unfold DF.gC;rw[DF.rd,cJ (by omega),cJ (by omega),cM (by omega),DF.rd,cM (by omega)]
  |b+2,_=>rw[cJ (by simp)];show DF.gC ((a.length % 128+128)::(a.length/128)::a.take b)=_;unfold DF.gC;rw[DF.rd,cJ (by omega),cJ (by omega),cM (by omega),DF.rd,cJ (by omega),cJ (by omega),cJ (by omega),cJ (by omega)];simp;omega
def Uf:fB prog 133 137 2 32 (.agg #[vN,F 0]):=.mk' underlying133 (by kernel_rfl) rfl (by decide)
def Yw (a:O):(Instr.build 121 [].toArray).run prog a=.ok (uz vN) a:=by kernel_rfl
def XR (a:cG Addr)(c b:Nat)(d:O):(Instr.build 137 [(0,.slice a c b),(1,F 0)].toArray).run prog d=.ok (PE [.slice a c b,F 0]) d:=by kernel_rfl
def my (a:M):C M:=[a,J 0,.bool false]
def MX {g:M}{a:C Nat}{k b:Nat}{i:Int}(f:DF.gC a=(k,b,i))(h:O)(c:Rd h cW 1 g a.length (DF.bv a))(d:a.length<=140737488355328)(e:∀m∈a,m<256):Sn 78 [g] h λn l=>n=.tuple #[J k,F b,F i]/\l=[]:=by have j:=DF.Cs g a h c d e;rw[f]at j;exact j
section
variable{c:O}{d:M}{a:C Nat}{b:Nat}
def aba (u:∀g∈a++[b],g<256)(D:a.length<=100000)(w:DF.gC (a++[b])=(0,0,2))(h0:Hl c (row d 5 1 a.length (DF.bv a))):Sr 77 [uz d,.int .u8 (b:Int)] c (row d 5 1 a.length (DF.bv a)) λE B=>∃p,E=PF [uz p,vN]/\B=[row p 5 1 (a++[b]).length (DF.bv (a++[b]))]:=by
 have h:DF.bv (a++[b])=DF.bv a++[.int .u8 (b:Int)]:=DF.tR a [b];have e:(a++[b]).length=a.length+1:=by simp
 obtain⟨m,o,rfl⟩:=fS h0 (p:=0) rfl;refine enter (g:=71) func77 rfl rfl [(0,PE [.slice m a.length o,J 0,.bool false]),(1,_)] rfl ⟨rfl,rfl,trivial⟩ h0 ?_;refine Mf (f:=my (.slice m a.length o)) λr x=>?_;refine dj [vN,J 0,.bool false] λs y=>?_;refine cB ?_;refine gZ jV λt z=>?_;refine dw (jo 3 jV) ?_;rintro _ _ G ⟨⟨j,k,rfl⟩,rfl⟩;refine KW 2 (t:=[_]) (G:=my (.slice j (a.length+1) k)) λA=>?_;refine cB ?_;refine dd func78 (λc l=>MX w c (by rw[e,h];exact Rd.dM l (l:=3) rfl) (by omega) u) ?_;rintro _ _ H ⟨rfl,rfl⟩;refine K3 2 (f:=my (.slice j (a.length+1) k)) ?_;refine cO 1 (u:=[_,_,_]) (H:=my (.slice j (a.length+1) k)) λq=>?_;refine N [4,5] ?_;refine cK [3,1] ?_;refine eM ?_;refine⟨_,_,λf v l=>eW results77 (eX (e4 1 rfl underlying121 rfl (by kernel_rfl) rfl) (gg rfl eY)) f v _ l,mr [_] [_],?_⟩;refine⟨_,rfl,?_⟩;rw[e,h]
def abb {x e:Nat}(u:∀k∈a++[b],k<256)(G:a.length<=100000)(w:DF.gC (a++[b])=(x,e,0))(H:x<=4096)(K:a.length+1<e+x)(D:e<=20)(h0:Hl c (row d 5 1 a.length (DF.bv a))):Sr 77 [uz d,.int .u8 (b:Int)] c (row d 5 1 a.length (DF.bv a)) λL E=>∃p,L=PF [uz p,vN]/\E=[row p 5 1 (a++[b]).length (DF.bv (a++[b]))]:=by
 have l:DF.bv (a++[b])=DF.bv a++[.int .u8 (b:Int)]:=DF.tR a [b];have f:(a++[b]).length=a.length+1:=by simp
 obtain⟨n,o,rfl⟩:=fS h0 (p:=0) rfl;refine enter (g:=71) func77 rfl rfl [(0,PE [.slice n a.length o,J 0,.bool false]),(1,_)] rfl ⟨rfl,rfl,trivial⟩ h0 ?_;refine Mf (f:=my (.slice n a.length o)) λr y=>?_;refine dj [vN,J 0,.bool false] λs z=>?_;refine cB ?_;refine gZ jV λt A=>?_;refine dw (jo 3 jV) ?_;rintro _ _ Q ⟨⟨g,h,rfl⟩,rfl⟩;refine KW 2 (t:=[_]) (G:=my (.slice g (a.length+1) h)) λB=>?_;refine cB ?_;refine dd func78 (λc m=>MX w c (by rw[f,l];exact Rd.dM m (l:=3) rfl) (by omega) u) ?_;rintro _ _ R ⟨rfl,rfl⟩;refine N [2,4,6,7,8] ?_;refine N [2,4,6,7,8,35] ?_;refine N [2,4,6,7,41] ?_;refine N [2,4,6,7,45] ?_;refine cL ?_;refine I (dH 2 (n:=.slice g (a.length+1) h)) ?_;refine K3 2 (f:=my (.slice g (a.length+1) h)) ?_;refine cO 1 (u:=[_,_,_]) (H:=my (.slice g (a.length+1) h)) λq=>?_;refine N [4,5] ?_;refine cK [3,1] ?_;refine eM ?_;refine⟨_,_,λj v m=>eW results77 (eX (e4 1 rfl underlying121 rfl (by kernel_rfl) rfl) (gg rfl eY)) j v _ m,mr [_] [_],?_⟩;refine⟨_,rfl,?_⟩;rw[f,l]
def abd {t e:Nat}(K:∀f∈a++[b],f<256)(hl:a.length<=100000)(S:DF.gC (a++[b])=(t,e,0))(hn:t<=4096)(hu:a.length+1=e+t)(ae:e<=20)(h0:Hl c (row d 5 1 a.length (DF.bv a))):Sr 77 [uz d,.int .u8 (b:Int)] c (row d 5 1 a.length (DF.bv a)) λW H=>∃f r,W=PF [uz vN,r]/\H=[row f 5 1 t (DF.bv ((a++[b]).drop e)),row r 137 2 1 [f,F 0]]:=by
 have h:DF.bv (a++[b])=DF.bv a++[.int .u8 (b:Int)]:=DF.tR a [b];have j:(a++[b]).length=a.length+1:=by simp
 obtain⟨p,q,rfl⟩:=fS h0 (p:=0) rfl;refine enter (g:=71) func77 rfl rfl [(0,PE [.slice p a.length q,J 0,.bool false]),(1,_)] rfl ⟨rfl,rfl,trivial⟩ h0 ?_;refine Mf (f:=my (.slice p a.length q)) λA X=>?_;refine dj [vN,J 0,.bool false] λB P=>?_;refine cB ?_;refine gZ jV λD ab=>?_;refine dw (jo 3 jV) ?_;rintro _ _ w1 ⟨⟨o,k,rfl⟩,rfl⟩;refine KW 2 (G:=my (.slice o (a.length+1) k)) λad=>?_;refine cB ?_;refine dd func78 (λc g=>MX S c (by rw[j,h];exact Rd.dM g (l:=3) rfl) (by omega) K) ?_;rintro _ _ w2 ⟨rfl,rfl⟩;refine N [2,4,6,7,8] ?_;refine N [2,4,6,7,8,35] ?_;refine N [2,4,6,7,41] ?_;refine N [2,4,6,7,45] ?_;refine cL ?_;refine I (dH 2 (n:=.slice o (a.length+1) k)) ?_;refine cB ?_;refine I (ee Yw) ?_;refine dw (tX jV) ?_;rintro _ _ x ⟨v,rfl,rfl⟩;refine Y ?_;refine I (dH 3 (n:=.slice o (a.length+1) k)) ?_;refine kq λg=>?_;obtain⟨Q⟩:Nonempty (a.length+1<=k):=by obtain⟨A',c',R,-,G,-⟩:=Rd.dM g (l:=4) rfl;injection R with e1 e2 E;subst E;exact⟨G⟩
 clear g;refine Y ?_;refine I (qB 1 (w:=e) (x:=a.length+1) rfl underlying74 (by kernel_rfl) ⟨_,rfl⟩ rfl) ?_;refine dw (jo 0 jV (hr:=λc g=>(Rd.dM g (l:=4) rfl).cut (b:=e) (f:=a.length+1) (by omega) (dT _)) (h1:=λW T=>DF.F6 (a++[b]) W (by rw[h];exact tG (qq T)))) ?_;rintro _ _ w3 ⟨⟨A9,c9,rfl⟩,rfl⟩;have s:0+(a.length+1-e)=t:=by omega
 have m:[]++((DF.bv a++[Value.int .u8 (b:Int)]).drop (e*1)).take ((a.length+1-e)*1)=DF.bv ((a++[b]).drop e):=by rw[<-h,kF,fT,fT,gS (by rw[iz,DF.JT,j];exact dT _)];unfold DF.bv;rw[uM]
 rw[s,m];refine I (ee (XR _ _ _)) ?_;refine gZ Uf (ae:=by decide) λw y=>?_;refine cO 3 (H:=my vN) λz=>?_;refine N [4,5] ?_;refine cK [1,0,1] ?_;refine eM ?_;refine⟨_,_,λn L g=>eW results77 (eX (e4 2 rfl underlying121 rfl (by kernel_rfl) rfl) (gg rfl eY)) n L _ g,mr [_,_] [_],?_⟩;exact⟨_,_,rfl,rfl⟩
end
def Qq (a:C Nat)(c:Nat)(g:M)(f:Nat)(b:C M)(e:V):Prop:=(c<(gL a).length/\f=0/\b=[]/\e=cz [row g 5 1 c (DF.bv ((gL a).take c))])\/(c=(gL a).length/\f=1/\g=vN/\∃(d j:M)(h:cG Addr)(i:Nat),d=.slice h a.length i/\b=[d,F 0]/\e=cz [row d 5 1 a.length (DF.bv a),row j 137 2 1 b])
def JR {b d:O}{a:Nat->Prop}{c:C V}(e:cI b a c d):cI b a [cz c] d:=(cI.cz (L:=c) (H:=[])).1 (by rw[eN];exact e)
section
variable{d:O}{c:M}{a:C Nat}{b:Nat}
def aa6 (ab:∀x∈gL a,x<256)(z:a.length<=4096)(u:b<(gL a).length)(h0:Hl d (row c 5 1 b (DF.bv ((gL a).take b)))):Sr 77 [uz c,.int .u8 (((gL a)[b]'u:Nat):Int)] d (row c 5 1 b (DF.bv ((gL a).take b))) λT S=>∃l K q D W,T=PF [uz l,K]/\S=[W]/\Qq a (b+1) l q D W/\(∃v n e,l=.slice v n e)/\∀L A g B,cI L A (W::B) g->Rd g cW 2 K q D:=by
 have hv:=DF.nF a.length;have ad:(gL a).length=(DF.er a.length).length+a.length:=by unfold gL;rw[cX]
 have r:((gL a).take b).length=b:=by rw[eD];omega
 have o:(gL a).take (b+1)=(gL a).take b++[(gL a)[b]'u]:=by rw[ia,dr u];rfl
 have y:∀f∈(gL a).take b++[(gL a)[b]'u],f<256:=λf H=>by rw[<-o]at H;exact ab f (qq H)
 have s:=aby z (b:=b+1) (by omega) (by omega);rw[o]at s;have w:Hl d (row c 5 1 ((gL a).take b).length (DF.bv ((gL a).take b))):=by rw[r];exact h0
 by_cases E:b+1<(DF.er a.length).length
 .rw[cM E]at s;have h:=aba y (by omega) s w;rw[r]at h;refine fz.conv h.held λT S ⟨⟨l,t,p⟩,Q,R,m⟩=>⟨[cz [row l 5 1 (b+1) (DF.bv ((gL a).take (b+1)))]],λg k=>?_,l,_,0,[],_,t,rfl,.inl ⟨by omega,rfl,rfl,rfl⟩,(by subst p;obtain⟨v,e,X⟩:=fS m (p:=0) rfl;exact⟨v,_,e,X⟩),λ_ _ g _ _=>Rd.nil g cW 2⟩;subst p;rw[<-o,eD,o5 (by omega)]at k;exact JR k
 .rw[cJ E]at s;by_cases P:b+1<(gL a).length
  .have h:=abb y (by omega) s z (by omega) (by omega) w;rw[r]at h;refine fz.conv h.held λT S ⟨⟨l,t,p⟩,Q,R,m⟩=>⟨[cz [row l 5 1 (b+1) (DF.bv ((gL a).take (b+1)))]],λg k=>?_,l,_,0,[],_,t,rfl,.inl ⟨P,rfl,rfl,rfl⟩,(by subst p;obtain⟨v,e,X⟩:=fS m (p:=0) rfl;exact⟨v,_,e,X⟩),λ_ _ g _ _=>Rd.nil g cW 2⟩;subst p;rw[<-o,eD,o5 (by omega)]at k;exact JR k
  .have h:=abd y (by omega) s z (by omega) (by omega) w;rw[r]at h;have G:((gL a).take b++[(gL a)[b]'u]).drop (DF.er a.length).length=a:=by rw[<-o,gS (by omega)];unfold gL;rw[kZ]
   rw[G]at h;refine fz.conv h.held λT S ⟨⟨f,K,t,p⟩,Q,R,m⟩=>?_;subst p;obtain⟨v,e,rfl⟩:=fS m (p:=0) rfl;exact⟨[cz _],λg k=>JR k,_,K,1,_,_,t,rfl,.inr ⟨by omega,rfl,rfl,_,K,v,e,rfl,rfl,rfl⟩,⟨_,_,_,rfl⟩,λL A g B k=>Rd.qD k (n:=0) (o:=1) rfl rfl⟩
def Qq.one {h:Nat}{e:C M}{i:V}(j:Qq a b c h e i):(∀k∈e,k.oneCell'=true)/\h<=1:=by
 rcases j with⟨-,rfl,rfl,-⟩|⟨-,rfl,-,f,m,l,g,rfl,rfl,-⟩
 .exact⟨by simp,gK _⟩
 .exact⟨by simp[Value.oneCell'],dT _⟩
def aj8 {E:M}(ah:∀x∈gL a,x<256)(aj:a.length<=4096)(ai:Rd d cW 1 E (gL a).length (DF.bv (gL a))):Sn 50 [uz vN,E] d λv T=>∃f L,v=PF [uz vN,L]/\T=[row f 5 1 a.length (DF.bv a),row L 137 2 1 [f,F 0]]:=by
 have hv:=DF.nF a.length;have au:(gL a).length=(DF.er a.length).length+a.length:=by unfold gL;rw[cX]
 obtain⟨A0,ad,rfl,av,ar,af⟩:=id ai;obtain⟨g,o,rfl,_,_,t⟩:=af.resolve_left (by omega);refine enter (g:=35) func50 rfl rfl [(0,PE [vN,J 0,.bool false]),(1,_)] rfl ⟨rfl,rfl,trivial⟩ hS ?_;refine Mf (f:=my vN) λj ak=>?_;refine dj [vN,J 0,.bool false] λl al=>?_;refine cB ?_;refine dw (tX jV) ?_;rintro _ _ am ⟨P,rfl,rfl⟩;refine cC ?_;refine dw (jo 0 jV (H:=0) (s:=[]) (hr:=λd p=>Rd.nil d cW 1) (h1:=by simp)) ?_;rintro _ _ w1 ⟨⟨S,ae,rfl⟩,rfl⟩;refine KW 2 (t:=[_]) (G:=my (.slice S 0 ae)) λan=>?_;refine cH [1,2,4] ?_;refine N [1,2,4,6] ?_;refine N [2,4,6,16,17,18] ?_;refine Y ?_;refine gh 137 2 ?_;refine cK [1,0,0,0] ?_;refine dG [_] ?_;refine dB (λk m T d=>∃(b:Nat)(c t6:M)(q:Nat)(z:C M)(W:V),m=[(2,Z j),(4,Z l),(6,t6),(16,.slice (some ⟨g,o,.none⟩) (gL a).length ad),(17,F ((gL a).length:Int)),(18,F b)]/\T=[W,row t6 137 2 q z,cF l (my vN) 121,cF j (my c) 121]/\k+b=(gL a).length/\Qq a b c q z W) (gL a).length ⟨0,_,_,0,[],_,rfl,rfl,rfl,.inl ⟨by omega,rfl,rfl,rfl⟩⟩ ?_;rintro k _ _ w2 ⟨b,c,t6,q,z,W,rfl,rfl,hk,y⟩;refine cZ (λG=>?_) λG=>?_
 .have B:b<(gL a).length:=by omega
  obtain⟨-,rfl,rfl,rfl⟩:=y.resolve_right (by rintro⟨h,-⟩;omega);refine eu [_] ?_;refine df ?_;refine I (cR (ab:=b)) ?_;refine I (jd (n:=.int .u8 (((gL a)[b]'B:Nat):Int)) (hc:=by rw[fT];exact t b _ (DF.Oe _ b B))) ?_;refine K3 3 (f:=my c) ?_;refine Pw 0 func77 (λd p K=>aa6 ah aj B K) ?_;rintro _ _ w3 ⟨u',L,q',D,X,rfl,rfl,e,⟨r,u,s,rfl⟩,H⟩;refine NV [vN,J 0,.bool false] λab ao=>?_;refine cO 0 (u:=[_,_,_]) (H:=my (.slice r u s)) λap=>?_;refine K3 0 (f:=my (.slice r u s)) ?_;refine cO 4 (u:=[_,_,_]) (H:=my (.slice r u s)) λaq=>?_;refine cB ?_;refine dw (jo 2 Uf (hr:=λd p=>H _ _ _ _ (p.perm (c8 1 rfl))) (h1:=e.one.1) (ae:=by have:=e.one.2;omega) (ah:=by have:=e.one.2;omega)) ?_;rintro t7 _ w4 ⟨_,rfl⟩;refine fu [1,1,1,1] ?_;refine ir [2,4,6,16,17,18] ?_;exact⟨k-1,by omega,b+1,.slice r u s,t7,q',D,X,rfl,by rw[dU,kF],by omega,e⟩
 .obtain rfl:b=(gL a).length:=by omega
  obtain⟨-,rfl,rfl,f,L,A,R,rfl,rfl,rfl⟩:=y.resolve_left (by rintro⟨h,-⟩;omega);refine eu [_,_] ?_;refine dI ?_;refine K3 4 (f:=my vN) ?_;refine KW 3 (t:=[_,_,_]) (G:=my vN) λQ=>?_;refine N [4,5] ?_;refine cK [0,1,1] ?_;refine eM ?_;refine⟨_,_,λw ag p=>eW results50 (eX (e4 2 rfl underlying121 rfl (by kernel_rfl) rfl) (gg rfl eY)) w ag _ p,mr [_,_] [_],?_⟩;exact⟨_,_,rfl,rfl⟩
end
section
variable{n:Nat}{b:PC}{m:C Nat}{d e:M}{k:O}{h g f:V}{i:CA}{l:C SS}{c:dg}{j:gP}{a:gH}
def atv {o p:kO}(q:o.Sublist p):eA o<=eA p:=xn (q.map _)
def Oh (o:jx b c j){p:Nat}{w:e8}(u:c.sh[p]? =some w):(∀A,eA (ez A w.all)<=9223372036854775808)/\∀q∈w.all,b.low c.wm<=q.1/\q.1<b.low c.wm+b.ga:=by
 have v:p<b.dm:=by rw[<-o.vD];exact(da.1 u).1
 have y:c.iI p=w:=by unfold dg.iI;rw[jM,u];rfl
 have r:=o.all p v;rw[y]at r;constructor
 .intro A;refine gF (atv ?_) (o.cap A);rw[r];unfold ib ez tP;exact((vZ.trans (vZ.map _)).filter _).map _
 .intro q t;rw[r]at t;obtain⟨s,x⟩:=kE.1 t;unfold tP at s;obtain⟨B,z,rfl⟩:=dz.1 s;exact⟨by simpa using x,o.BX B (kE.1 z).1⟩
def YH (o:jx b c j)(k:Nat):c.total k<18446744073709551616:=by
 unfold dg.total;rw[o.dY];split
 .show 0<18446744073709551616;decide
 .have:=o.cap k;show eA (ib j k)<_;omega
def acO (v:b.Ok)(E:jr b m d e (b.low c.wm) i l h g c)(r:jx b c j)(w:lQ (a.key,a.weight))(y:a.key.size<=b.key)(z:a.time<=1099511627776)(A:i.wm<=1099511627776)(B:a.weight<18446744073709551616)(u:j.length<=4611686018427387904)(h0:Hl k (cz (dO b d e i l h g f))):Sr 52 [Z i.k,B4 a.key a.time a.weight 0] k (cz (dO b d e i l h g f)) λK H=>∃p o t x,K=F (c.jn b a:Int)/\H=[cz (dO b d e i t p o f)]/\jr b m d e (b.low c.wm) i t p o (if c.jn b a=0 then c.take b a else c)/\jx b (if c.jn b a=0 then c.take b a else c) x/\x.length<=j.length+1:=by
 refine(acP v E w y z A (YH r _) B (by rw[r.acc];exact u) (λs D L G=>Oh (r.take v s w) G) h0).mono ?_;rintro K H ⟨p,o,t,rfl,rfl,q⟩;by_cases s:c.jn b a=0
 .refine⟨p,o,t,j++[c.Bo b a],rfl,rfl,q,?_,by simp⟩;rw[cM s];exact r.take v s w
 .refine⟨p,o,t,j,rfl,rfl,q,?_,by omega⟩;rw[cJ s];exact r
def acQ {o:U}{r:Int}{wt p:Nat}(u:p≠0)(h0:Hl k (cz (dO b d e i l h g f))):Sr 52 [Z i.k,PE [.string o,F r,J wt,F p]] k (cz (dO b d e i l h g f)) λv t=>v=F p/\t=[cz (dO b d e i l h g f)]:=by refine enter (g:=87) func52 rfl rfl [(0,_),(1,PE [.string o,F r,J wt,F p])] rfl ⟨rfl,rfl,trivial⟩ h0 ?_;refine Mf (f:=[.string o,F r,J wt,F p]) λq s=>?_;refine N [0,3] ?_;refine N [0,3,11] ?_;refine N [4] ?_;refine cK [1] ?_;refine dP results52 ?_;exact⟨rfl,rfl⟩
def gn (a:DF.In):kr:=if a.2=0 then .inl ⟨str a.1.1,a.1.2.1.toNat,a.1.2.2⟩else .inr a.2.toNat
structure IT (b:PC)(a:DF.In):Prop where
 it:a.2=0->lQ (str a.1.1,a.1.2.2)/\(str a.1.1).size<=b.key/\0<=a.1.2.1/\a.1.2.1<=1099511627776/\a.1.2.2<18446744073709551616
 no:a.2≠0->1<=a.2/\a.2<=6
end
def P6 (a:PC):∀(c:C kr)(b:dg)(d:kr),b.feed a (c++[d])=((b.feed a c).1.k9 a d,(b.feed a c).2++[(b.feed a c).1.jb a d])
 |[],b,d=>rfl
 |e::c,b,d=>by rw[kP,dg.feed,P6 a c,dg.feed];rfl
def CA.idle (a:CA):Prop:=a.bv=vN/\a.skip=0/\a.broken=false
def qV (a:dg):Prop:=∀b∈a.fN,b<18446744073709551616
section
variable{n:Nat}{b:PC}{l:C Nat}{c d m:M}{i:O}{g f e:V}{h:CA}{k:C SS}{K:dg}{j:gP}{a:C Nat}
def qV.py (p:qV K)(v:Nat):qV (K.py v):=λx u=>by
 have t:x∈K.fN.modify v (λr=>min (r+1) 18446744073709551615):=u;obtain⟨q,o⟩:=ka.1 t;rw[y9]at o;cases s:K.fN[q]?with
 |none=>rw[s]at o;cases o
 |some w=>
  rw[s]at o;injection o with o;subst o;split
  .show min (w+1) 18446744073709551615<_;omega
  .exact p w (eH s)
def Q8 (p:gH)(o:K.jn b p≠0):1<=K.jn b p/\K.jn b p<=6:=by
 unfold dg.jn PC.verdict at*
 (repeat' split)<;>(repeat' split at o)<;>omega
def dg.pre (b:PC)(K:dg):kr->dg
 |.inl o=>if K.jn b o=0 then K.take b o else K
 |.inr _=>K
def aa9 {p:kr}(o:K.jb b p=0)(r:∀q,p=.inr q->q≠0):K.k9 b p=K.pre b p:=by
 cases p with
 |inl s=>have o:K.jn b s=0:=o;show(if _ then _ else _)=(if _ then _ else _);rw[cM o,cM o]
 |inr q=>exact absurd o (r q rfl)
def aa7 {o:kr}(p:K.jb b o≠0):K.k9 b o=(K.pre b o).py (K.jb b o):=by
 cases o with
 |inl q=>have p:K.jn b q≠0:=p;show(if _ then _ else _)=dg.py (if _ then _ else _) (K.jn b q);rw[cJ p,cJ p]
 |inr r=>rfl
def Sw (o:kr):(K.pre b o).fN=K.fN:=by
 cases o with
 |inl q=>show(if _ then _ else _:dg).fN=_;split<;>rfl
 |inr p=>rfl
def acN {o:DF.In}(X:b.Ok)(H:jr b l c d (b.low K.wm) h k g f K)(G:jx b K j)(Q:IT b o)(L:h.wm<=1099511627776)(A:j.length<=4611686018427387904)(h0:Hl i (cz (dO b c d h k g f e))):Sr 52 [Z h.k,PE [.string (str o.1.1),F o.1.2.1,J o.1.2.2,F o.2]] i (cz (dO b c d h k g f e)) λu R=>∃s r y x,u=F (K.jb b (gn o):Int)/\R=[cz (dO b c d h y s r e)]/\jr b l c d (b.low K.wm) h y s r (K.pre b (gn o))/\jx b (K.pre b (gn o)) x/\x.length<=j.length+1/\(K.jb b (gn o)≠0->K.jb b (gn o)<=6)/\(∀B,gn o=.inr B->B≠0):=by
 by_cases p:o.2=0
 .obtain⟨D,E,T,g4,W⟩:=Q.it p;have q:gn o=.inl ⟨str o.1.1,o.1.2.1.toNat,o.1.2.2⟩:=by unfold gn;rw[cM p]
  have v:=acO (a:=⟨str o.1.1,o.1.2.1.toNat,o.1.2.2⟩) X H G D E (by show o.1.2.1.toNat<=_;omega) L W A h0;have S:B4 (str o.1.1) o.1.2.1.toNat o.1.2.2 0=PE [.string (str o.1.1),F o.1.2.1,J o.1.2.2,F o.2]:=by unfold B4;rw[p,rY T];rfl
  dsimp only at v;rw[S]at v;refine v.mono ?_;rintro u R ⟨s,r,y,x,rfl,rfl,P,ab,k3⟩;rw[q];exact⟨s,r,y,x,rfl,rfl,P,ab,k3,λw=>(Q8 _ w).2,λB w=>by cases w⟩
 .obtain⟨D,E⟩:=Q.no p;have q:gn o=.inr o.2.toNat:=by unfold gn;rw[cJ p]
  obtain⟨B,w⟩:∃B:Nat,o.2=(B:Int):=⟨o.2.toNat,by omega⟩;obtain⟨t,ht⟩:∃t:Int,o.1.2.1=t:=⟨_,rfl⟩;have v:=acQ (o:=str o.1.1) (r:=o.1.2.1) (wt:=o.1.2.2) (p:=B) (by omega) h0;rw[<-w]at v;refine v.mono ?_;rintro u R ⟨rfl,rfl⟩;rw[q];exact⟨g,f,k,j,by show _=Value.int .i64 ((o.2.toNat:Nat):Int);rw[rY (by omega)],rfl,H,G,by omega,λ_=>by show o.2.toNat<=6;omega,λv' z=>by injection z with z;omega⟩
def YL (hc:b.Ok)(hI:jr b l c d (b.low K.wm) h k g f K)(hA:jx b K j)(aO:h.idle)(az:h.wm<=1099511627776)(hb:∀w∈gL a,w<256)(hn:a.length<=4096)(aE:∀w∈DF.iH a b.key,IT b w)(bb:j.length<=1000000)(bd:(DF.iH a b.key).length<=1000)(aP:qV K)(hd:Rd i (cz (dO b c d h k g f e)).fq 1 m (gL a).length (DF.bv (gL a)))(h0:Hl i (cz (dO b c d h k g f e))):Sr 26 [Z h.k,m] i (cz (dO b c d h k g f e)) λu H=>∃B A ad X,H=[cz (dO b c d h ad B A e),row u 3 1 (DF.iH a b.key).length (ec (K.feed b ((DF.iH a b.key).map gn)).2)]/\jr b l c d (b.low K.wm) h ad B A (K.feed b ((DF.iH a b.key).map gn)).1/\jx b (K.feed b ((DF.iH a b.key).map gn)).1 X/\X.length<=j.length+(DF.iH a b.key).length/\qV (K.feed b ((DF.iH a b.key).map gn)).1:=by
 obtain⟨r,s,p,G,sv,bv,skip,aH,L⟩:=h;obtain⟨h1,h2,h3⟩:=aO;dsimp only at h1 h2 h3 az;subst h1;subst h2;subst h3;have ry:=hc.key;have aq:∀w∈a,w<256:=λw hx=>hb w (iA _ hx);refine dR func26 h0 ?_;refine eu (dO b c d ⟨r,s,p,G,sv,vN,0,false,L⟩ k g f e) ?_;refine K3 0 (f:=my vN) ?_;refine Ku func50 (λi y=>aj8 hb hn (hd.dx y)) ?_;rintro _ _ w1 ⟨aZ,t,rfl,rfl⟩;refine kq λy=>?_;obtain⟨R,S,rfl⟩:=fS y (p:=0) rfl;obtain⟨gt,ct,rfl⟩:=fs y (q:=1) rfl;clear y;refine NV [vN,J 0,.bool false] λa0 a6=>?_;refine cO 0 (u:=[_,_,_]) (H:=my vN) λaY=>?_;refine K3 0 (f:=my vN) ?_;refine KW 3 (t:=[_,_,_]) (G:=xY b c d ⟨r,s,p,G,sv,vN,0,false,L⟩) λa7=>?_;refine cH [0,5,7] ?_;refine N [0,5,29,30,31] ?_;refine Y ?_;refine gh 3 1 ?_;refine cK [4,4,4,4,4,4,4,0,1,1] ?_;refine dG [_,_,_,_,_,_,_] ?_;refine dB (λq z H i=>∃(x:Nat)(u:M)(B A:V)(ad:C SS)(X:gP)(fW:C DF.In),z=[(0,Z r),(5,u),(29,vS gt 1 ct),(30,F 1),(31,F x)]/\H=[cz (dO b c d ⟨r,s,p,G,sv,vN,0,false,L⟩ ad B A e),row u 3 1 fW.length (ec (K.feed b (fW.map gn)).2),row (.slice R a.length S) 5 1 a.length (DF.bv a),row (vS gt 1 ct) 137 2 1 [.slice R a.length S,F 0]]/\q+x=1/\(x=0->fW=[])/\(x=1->fW=DF.iH a b.key)/\jr b l c d (b.low K.wm) ⟨r,s,p,G,sv,vN,0,false,L⟩ ad B A (K.feed b (fW.map gn)).1/\jx b (K.feed b (fW.map gn)).1 X/\X.length<=j.length+fW.length/\qV (K.feed b (fW.map gn)).1) 1 ⟨0,_,g,f,k,j,[],rfl,rfl,rfl,λ_=>rfl,λar=>by omega,hI,hA,dT _,aP⟩ ?_;rintro q _ _ w2 ⟨x,u,aC,aA,l1,A1,fW,rfl,rfl,bf,aM,aN,ax,aw,aj,al⟩;refine cZ (λaK=>?_) λaK=>?_
 .obtain rfl:x=0:=by omega
  obtain rfl:=aM rfl;refine df ?_;refine I (cR (ab:=0)) ?_;refine I (je 3 (b:=[.slice R a.length S,F 0])) ?_;refine dj [vN,F 0] λa1 a8=>?_;refine cO 0 (u:=[_,_]) (H:=[.slice R a.length S,F 0]) λa9=>?_;refine cB ?_;refine I (ee (DF.By _)) ?_;refine gZ DF.t140 (ae:=by decide) λa2 ba=>?_;refine N [0,5,9,10,29,30,31] ?_;refine N [0,5,9,10,29,30,31,41] ?_;refine Y ?_;refine eO 9 [7] [_,_] [_,_,_,_] (de [1,1] _ rfl) λa5=>?_;refine eL ?_;refine cN rfl (eZ 1 0 (n:=F b.key)) ?_;refine eh rfl (eB func51 (λi y=>DF.aia R S a b.key i (Rd.dM y (l:=4) rfl) (by omega) aq)) ?_;rintro bg _ w3 ⟨_,rfl,rfl⟩;refine⟨_,de [1,1] _ rfl,?_⟩;refine N [0,5,10,29,30,31] ?_;refine Y ?_;refine eQ λy=>?_;obtain⟨au,ae,rfl⟩:=fS y (p:=2) rfl;clear y;refine cK [1,3,1,2,2] ?_;refine K4 [0,5,29,30,31,50,51,52] ?_;refine dB (λq z H i=>∃(o:Nat)(u:M)(B A:V)(ad:C SS)(X:gP),z=[(0,Z r),(5,u),(29,vS gt 1 ct),(30,F 1),(31,F ((0:Nat):Int)),(50,.slice au (DF.iH a b.key).length ae),(51,F ((DF.iH a b.key).length:Int)),(52,F o)]/\H=[cz (dO b c d ⟨r,s,p,G,sv,vN,0,false,L⟩ ad B A e),row u 3 1 o (ec (K.feed b (((DF.iH a b.key).take o).map gn)).2),row (.slice au (DF.iH a b.key).length ae) 139 4 (DF.iH a b.key).length (DF.lL (DF.iH a b.key)),row (.slice R a.length S) 5 1 a.length (DF.bv a),row (vS gt 1 ct) 137 2 1 [.slice R a.length S,F 0]]/\q+o=(DF.iH a b.key).length/\jr b l c d (b.low K.wm) ⟨r,s,p,G,sv,vN,0,false,L⟩ ad B A (K.feed b (((DF.iH a b.key).take o).map gn)).1/\jx b (K.feed b (((DF.iH a b.key).take o).map gn)).1 X/\X.length<=j.length+o/\qV (K.feed b (((DF.iH a b.key).take o).map gn)).1) (DF.iH a b.key).length ⟨0,_,aC,aA,l1,A1,rfl,rfl,rfl,ax,aw,aj,al⟩ ?_;rintro q2 _ _ w4 ⟨o,u2,aD,aB,l2,A2,rfl,rfl,be,P,ah,a3,T⟩;refine cZ (λaL=>?_) λaL=>?_
  .obtain⟨w,hx⟩:∃w,(DF.iH a b.key)[o]? =some w:=⟨(DF.iH a b.key)[o]'(by omega),dr (by omega)⟩;have aT:=aE w (eH hx);have aQ:((DF.iH a b.key).take (o+1)).map gn=((DF.iH a b.key).take o).map gn++[gn w]:=by rw[ia,hx,dE];rfl
   have ab:=P6 b (((DF.iH a b.key).take o).map gn) K (gn w);rw[<-aQ]at ab;generalize bc:K.feed b (((DF.iH a b.key).take o).map gn)=D at*;have an:b.low D.1.wm=b.low K.wm:=by rw[P.wm,hI.wm]
   rw[<-an]at P;refine eQ λy=>?_;obtain⟨av,cc,W⟩:=fs y (q:=2) rfl;injection W with e1 e2 e3;subst e1;subst e3;clear y e2;refine df ?_;refine I (cR (ab:=o)) ?_;refine I (je 2 (b:=[.string (str w.1.1),F w.1.2.1,J w.1.2.2,F w.2]) (hv:=DF.GX hx)) ?_;refine dj [vE,F 0,J 0,F 0] λap aV=>?_;refine cO 0 (u:=[_,_,_,_]) (H:=[.string (str w.1.1),F w.1.2.1,J w.1.2.2,F w.2]) λaW=>?_;refine K3 0 (f:=[.string (str w.1.1),F w.1.2.1,J w.1.2.2,F w.2]) ?_;refine cY ((cz (dO b c d ⟨r,s,p,G,sv,vN,0,false,L⟩ l2 aD aB e))) [_,_,_,_,_] func52 (c8 1 rfl) (λi y am=>acN hc P ah aT az (by omega) am) ?_;rintro _ _ w5 ⟨ag,ao,l3,A3,rfl,rfl,E,ai,a4,aS,aR⟩;refine N [0,5,13,29,30,31,50,51,52] ?_;refine N [0,5,13,29,30,31,50,51,52,60] ?_;refine eS (λz H w'=>∃Q,z=[(0,Z r),(5,u2),(13,F (D.1.jb b (gn w):Int)),(29,vS gt 1 ct),(30,F 1),(31,F ((0:Nat):Int)),(50,vS av (DF.iH a b.key).length ae),(51,F ((DF.iH a b.key).length:Int)),(52,F o)]/\H=[cz (dO b c d ⟨r,s,p,G,sv,vN,0,false,L⟩ l3 ag Q e),cF ap [.string (str w.1.1),F w.1.2.1,J w.1.2.2,F w.2] 139,row u2 3 1 o (ec D.2),row (vS av (DF.iH a b.key).length ae) 139 4 (DF.iH a b.key).length (DF.lL (DF.iH a b.key)),row (.slice R a.length S) 5 1 a.length (DF.bv a),row (vS gt 1 ct) 137 2 1 [.slice R a.length S,F 0]]/\jr b l c d (b.low K.wm) ⟨r,s,p,G,sv,vN,0,false,L⟩ l3 ag Q (D.1.k9 b (gn w))/\jx b (D.1.k9 b (gn w)) A3/\qV (D.1.k9 b (gn w))) ?_ ?_
   .refine jc rfl (λak=>?_) (λak=>?_)
    .have af:D.1.jb b (gn w)≠0:=λW=>ak (by rw[W];rfl);have ay:∀q∈(D.1.pre b (gn w)).fN,q<18446744073709551616:=by rw[Sw];exact T
     refine eu (dO b c d ⟨r,s,p,G,sv,vN,0,false,L⟩ l3 ag ao e) ?_;refine eL ?_;refine cY (ao) [_,_,_,_,_,_,_,_,_,_,_] func53 (c8 3 rfl) (λi y am=>adb (D.1.jb b (gn w)) E.lg am ai.fN ⟨by omega,aS af⟩ ay) ?_;rintro _ _ w6 ⟨Q,rfl,aF⟩;refine fu [1,1,1,0,0,0,0,0,0,0,0,0] ?_;refine qh [_,_,_,_,_,_,_] ?_;refine cH [0,5,13,29,30,31,50,51,52] ?_;rw[aa7 af];exact⟨Q,rfl,rfl,⟨by rw[<-an];exact E.ok,E.len,E.sh,E.wm,aF,E.mem⟩,ai.py _,qV.py (K:=D.1.pre b (gn w)) ay _⟩
    .have af:D.1.jb b (gn w)=0:=by have:¬((D.1.jb b (gn w):Int)≠0):=ak;omega
     refine kw [0,5,13,29,30,31,50,51,52] rfl (iY ?_);rw[aa9 af aR];exact⟨ao,rfl,rfl,by rw[<-an];exact E,ai,λq hq=>T q (by rw[Sw]at hq;exact hq)⟩
   .rintro _ _ w7 ⟨Q,rfl,rfl,aJ,aI,aG⟩;refine cQ ?_;refine gZ mj (ae:=by decide) λaU aX=>?_;refine dw (jo 3 mj) ?_;rintro u3 _ w8 ⟨_,rfl⟩;refine fu [1,2,2,2,2] ?_;refine ir [0,5,29,30,31,50,51,52] ?_;refine⟨q2-1,by omega,o+1,u3,ag,Q,l3,A3,rfl,?_,by omega,?_,?_,by omega,?_⟩
    .rw[ab];unfold ec;rw[dE];rfl
    .rw[ab];exact aJ
    .rw[ab];exact aI
    .rw[ab];exact aG
  .have hj:o=(DF.iH a b.key).length:=by omega
   rw[gS (by omega)]at P ah T|-;refine dI ?_;refine cK [0,0,1,1] ?_;refine N [0,5,29,30,31] ?_;exact⟨0,by omega,1,u2,aD,aB,l2,A2,DF.iH a b.key,rfl,by rw[hj],by omega,λar=>by omega,λ_=>rfl,P,ah,by omega,T⟩
 .obtain rfl:x=1:=by omega
  obtain rfl:=aN rfl;refine dI ?_;refine N [4] ?_;refine cK [0,0] ?_;refine dP results26 ?_;exact⟨aC,aA,l1,A1,rfl,ax,aw,aj,al⟩
end
end Go.Proofs.YtdlpoonfcdoiiaaGreat
