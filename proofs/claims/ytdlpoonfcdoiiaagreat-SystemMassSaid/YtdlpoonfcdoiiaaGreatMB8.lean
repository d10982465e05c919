/- What the code does, step by step, and plain facts: part 8. They have no conditions. -/
import Derived.Test.YtdlpoonfcdoiiaaGreatMB5
import Derived.Test.YtdlpoonfcdoiiaaGreatMB7
namespace Go.Proofs.YtdlpoonfcdoiiaaGreat
open Go.RowKit Go.Proofs.Tryz
set_option maxHeartbeats 40000000
set_option linter.all false
def yx (c:Nat)(a:eU)(id:Int)(b:Nat):Int×eU:=if id<0\/(c:Int)<=id then(1,a)else if id∈eR a then(10,a)else if 9223372036854775808<b then(12,a)else(0,fW a id b)
def yz (a:eU)(id:Int)(b:Nat):Int×eU:=match oq a id with
 |none=>(8,a)
 |some c=>if c+b<=9223372036854775808 then if b=0 then(0,a)else(0,fW (rem a id) id (c+b))else(12,a)
def xd (a:eU)(id:Int):Nat×Int×eU:=match oq a id with
 |none=>(0,8,a)
 |some b=>(b,0,rem a id)
def KJ {i:C Bk}{id:Int}(k:id∈eR (en i)):∃b a c d h e,i=b++a::c/\a.2.2.2=d++(h,id)::e:=by obtain⟨a,f,h,g⟩:=D8.1 k;obtain⟨b,c,rfl⟩:=pJ f;obtain⟨d,e,j⟩:=pJ g;exact⟨b,a,c,d,h,e,rfl,j⟩
def aio {b:eU}{id:Int}(c:(eR b).Nodup):id∉eR (rem b id):=by
 induction b with
 |nil=>simp[rem,eR]
 |cons f b d=>
  simp only[eR,dA,iB]at c;rw[rem];split
  .rename_i a;rw[<-a];exact c.1
  .rename_i a;simp only[eR,dA,dh,tM];exact⟨λe=>a e.symm,d c.2⟩
def Sm {a:C (cG (Nat×Nat))}{c d f:Nat}(e:a[c]? =some (some (d,f))):(jI a)[0+c*3+1]? =some (F d):=by
 have b:(((jI a).drop (0+c*3)).take 3)[1]? =some (F d):=by rw[LY e];rfl
 rw[mT,cM (by omega),kQ]at b;exact b
def ais (r c:Nat)(y:eU)(w:V)(id:Int)(d:Nat)(t:O)(e:qu r c y w)(p:Hl t w):Sr 365 [Z r,F id,J d] t w λS G=>S=F (yx c y id d).1/\∃q,G=[q]/\qu r c (yx c y id d).2 q:=by
 obtain⟨b,rfl,e⟩:=e;have o:qu r c (en b) w:=⟨b,rfl,e⟩;obtain⟨A,B,X,K,L,Q,R,rfl,D,E,H⟩:=_root_.id e;refine hJ func365 p ?_;refine N [0,1,2] ?_;refine df ?_;refine I (gB rfl rfl underlying403) ?_;refine N [0,1,2,7] ?_;refine cL ?_;refine I (gN rfl rfl) ?_;refine Y ?_;refine lj (H:=2) (A:=decide ((c:Int)<=id)) 6 [(0,_),(1,_),(2,_)] ⟨rfl,rfl,rfl,trivial⟩ rfl rfl rfl rfl rfl (λv=>?_) (λz=>?_)
 .refine cL ?_;refine dZ rfl rfl (eZ 0 0) ?_;refine dZ rfl rfl (m6 rfl rfl) ?_;exact iy
 refine fP (λh=>?_) λh=>?_
 .have f:id<0\/(c:Int)<=id:=by simpa[jh]using h
  have a:yx c (en b) id d=(1,en b):=cM f;refine db results365 ?_;rw[a];exact⟨rfl,_,rfl,o⟩
 .have f:¬(id<0\/(c:Int)<=id):=by simpa[jh]using h
  obtain⟨m,rfl⟩:∃m:Nat,id=m:=⟨id.toNat,by omega⟩;refine Pw 0 func360 (λt x l=>HP r c b _ m t e l) ?_;rintro _ _ T ⟨rfl,rfl⟩;refine cZ (λi=>?_) λi=>?_
  .have g:(m:Int)∈eR (en b):=i;have a:yx c (en b) m d=(10,en b):=(cJ f).trans (cM g);refine db results365 ?_;rw[a];exact⟨rfl,_,rfl,o⟩
  .have g:(m:Int)∉eR (en b):=i;refine cQ ?_;refine I (gA rfl rfl) ?_;refine cZ (λk=>?_) λk=>?_
   .have n:9223372036854775808<d:=by have:(9223372036854775808:Int)<d:=k;omega
    have a:yx c (en b) m d=(12,en b):=(cJ f).trans ((cJ g).trans (cM n));refine db results365 ?_;rw[a];exact⟨rfl,_,rfl,o⟩
   .have n:¬9223372036854775808<d:=λP=>k (show(9223372036854775808:Int)<d by omega);have a:yx c (en b) m d=(0,fW (en b) m d):=(cJ f).trans ((cJ g).trans (cJ n));refine eL ?_;refine cY _ [] func363 (cD _) (λt x l=>SP r c [] b _ m d t (by omega) g (by omega) (λs p=>absurd p (nn)) e l) ?_;rintro _ _ W ⟨rfl,q,rfl,u⟩;refine db results365 ?_;rw[a];exact⟨rfl,_,rfl,u⟩
def air (p v:Nat)(u:eU)(q:V)(h:Int)(l:O)(b:qu p v u q)(t:Hl l q):Sr 357 [Z p,F h] l q λS G=>S=.tuple #[J (((oq u h).getD 0:Nat):Int),.bool (oq u h).isSome]/\G=[q]:=by
 obtain⟨s,rfl,b⟩:=b;obtain⟨x,y,X,L,w,Q,R,rfl,z,A,k⟩:=id b;refine dR func357 t ?_;refine Pw 0 func360 (λl e c=>HP p v s _ h l b c) ?_;rintro _ _ T ⟨rfl,rfl⟩;refine I (jl rfl rfl) ?_;refine fP (λa=>?_) λa=>?_
 .have d:h∉eR (en s):=by simpa using a
  refine db results357 ?_;rw[G9.2 d];exact⟨rfl,rfl⟩
 .have d:h∈eR (en s):=by simpa using a
  obtain⟨D,r,E,P,B,ab,rfl,f⟩:=KJ d;have K:=k.kI _ d;obtain⟨o,rfl⟩:∃o:Nat,h=o:=⟨h.toNat,by omega⟩;have m:w[o]? =some (some (r.1,B)):=by have:=k.at_ r (by simp) (B,(o:Int)) (by rw[f];simp);simpa using this
  have n:=(HM k f).2;refine eQ λe=>?_;obtain⟨g,H,rfl⟩:=nB e (s:=0) (t:=1) rfl rfl;clear e;refine NX 0 0 ?_;refine Y ?_;refine I (cR (ab:=o)) ?_;refine Y ?_;refine I (sO 0 1 (n:=F r.1) (hv:=Sm m)) ?_;refine cY _ [] func361 (cD _) (λl e c=>Mg p v D r E _ l b c) ?_;rintro _ _ W ⟨rfl,rfl⟩;refine I (DT rfl underlying454 rfl underlying23 rfl rfl) ?_;refine db results357 ?_;rw[n];exact⟨rfl,rfl⟩
def aiw (j o:Nat)(q:eU)(r:V)(d:Int)(k:O)(a:qu j o q r)(x:Hl k r):Sr 367 [Z j,F d] k r λX H=>X=.tuple #[J ((xd q d).1:Int),F (xd q d).2.1]/\∃i,H=[i]/\qu j o (xd q d).2.2 i:=by
 obtain⟨g,rfl,a⟩:=a;have v:qu j o (en g) r:=⟨g,rfl,a⟩;obtain⟨z,A,B,R,S,T,W,rfl,D,E,l⟩:=id a;refine dR func367 x ?_;refine Pw 0 func360 (λk w c=>HP j o g _ d k a c) ?_;rintro _ _ P ⟨rfl,rfl⟩;refine I (jl rfl rfl) ?_;refine fP (λb=>?_) λb=>?_
 .have e:d∉eR (en g):=by simpa using b
  have h:xd (en g) d=(0,8,en g):=by rw[xd,G9.2 e]
  refine db results367 ?_;rw[h];exact⟨rfl,_,rfl,v⟩
 .have e:d∈eR (en g):=by simpa using b
  obtain⟨t,s,u,K,y,L,rfl,f⟩:=KJ e;have Q:=l.kI _ e;obtain⟨p,rfl⟩:∃p:Nat,d=p:=⟨d.toNat,by omega⟩;have h:xd (en (t++s::u)) (p:Int)=(s.2.1,0,rem (en (t++s::u)) p):=by rw[xd,(HM l f).2]
  refine Pw 0 func362 (λk w c=>SQ j o t s u K L y p _ k f a c) ?_;rintro _ _ ab ⟨rfl,G,i,rfl,n,m⟩;refine db results367 ?_;rw[h];exact⟨rfl,_,rfl,_,m.symm,n⟩
def aiv (x E:Nat)(ad:eU)(R:V)(w:Int)(b:Nat)(k:O)(X:b<18446744073709551616)(f:qu x E ad R)(P:Hl k R):Sr 353 [Z x,F w,J b] k R λv H=>v=F (yz ad w b).1/\∃u,H=[u]/\(b=0->u=R)/\qu x E (yz ad w b).2 u:=by
 obtain⟨A,rfl,f⟩:=f;have D:qu x E (en A) R:=⟨A,rfl,f⟩;obtain⟨ah,ai,B,pV,ae,rB,rs,rfl,aj,ak,h⟩:=id f;refine hJ func353 P ?_;refine Pw 0 func360 (λk e a=>HP x E A _ w k f a) ?_;rintro _ _ w1 ⟨rfl,rfl⟩;refine I (jl rfl rfl) ?_;refine fP (λl=>?_) λl=>?_
 .have q:w∉eR (en A):=by simpa using l
  have T:yz (en A) w b=(8,en A):=by rw[yz,G9.2 q]
  refine db results353 ?_;rw[T];exact⟨rfl,_,rfl,λ_=>rfl,D⟩
 .have q:w∈eR (en A):=by simpa using l
  obtain⟨z,c,G,al,af,am,rfl,o⟩:=KJ q;have hz:=h.kI _ q;obtain⟨p,rfl⟩:∃p:Nat,w=p:=⟨w.toNat,by omega⟩;have K:ae[p]? =some (some (c.1,af)):=by have:=h.at_ c (by simp) (af,(p:Int)) (by rw[o];simp);simpa using this
  have ag:=h.ep c (by simp);have d:yz (en (z++c::G)) (p:Int) b=if c.2.1+b<=9223372036854775808 then if b=0 then(0,en (z++c::G))else(0,fW (rem (en (z++c::G)) p) p (c.2.1+b))else(12,en (z++c::G)):=by rw[yz,(HM h o).2]
  refine eQ λe=>?_;obtain⟨g,cp,rfl⟩:=nB e (s:=0) (t:=1) rfl rfl;clear e;refine NX 0 0 ?_;refine Y ?_;refine I (cR (ab:=p)) ?_;refine Y ?_;refine I (sO 0 1 (n:=F c.1) (hv:=Sm K)) ?_;refine cY _ [] func361 (cD _) (λk e a=>Mg x E z c G _ k f a) ?_;rintro _ _ w3 ⟨rfl,rfl⟩;refine I (DT rfl underlying454 rfl underlying23 rfl rfl) ?_;refine cB ?_;refine dd func121 (λk e=>zV c.2.1 b k (by omega) X) ?_;rintro _ _ w4 ⟨rfl,rfl⟩;refine I (jl rfl rfl) ?_;refine fP (λm=>?_) λm=>?_
  .have r:¬c.2.1+b<=9223372036854775808:=by simpa using m
   rw[cJ r]at d;refine db results353 ?_;rw[d];exact⟨rfl,_,rfl,λ_=>rfl,D⟩
  .have r:c.2.1+b<=9223372036854775808:=by simpa using m
   rw[cM r]at d;refine df ?_;refine I (e9 rfl rfl) ?_;refine cZ (λn=>?_) λn=>?_
   .have s:b=0:=by have:(b:Int)=0:=n;omega
    rw[cM s]at d;refine db results353 ?_;rw[d];exact⟨rfl,_,rfl,λ_=>rfl,D⟩
   .have s:¬b=0:=λW=>n (by rw[W];rfl);rw[cJ s]at d;refine Pw 0 func362 (λk e a=>SQ x E z c G al am af p _ k o f a) ?_;rintro _ _ w8 ⟨rfl,S,u,rfl,L,y⟩;refine N [0,1,2,7,9] ?_;refine eL ?_;refine I (cU (z:=J ((c.2.1+b:Nat):Int)) (og rfl rfl) (by rw[gR])) ?_;refine Y ?_;refine cY _ [] func363 (cD _) (λk e a=>SP x E z S _ p (c.2.1+b) k (by omega) (by rw[y];exact aio h.vw) r (λt ab=>by have:=(JI h.od).1 t ab;omega) L a) ?_;rintro _ _ w9 ⟨rfl,r2,rfl,Q⟩;refine db results353 ?_;rw[d];exact⟨rfl,_,rfl,λW=>absurd W s,y▸Q⟩
def ahk:eU->M
 |[]=>.tuple #[F 0,J 0,.bool false]
 |a::_=>.tuple #[F a.1,J a.2,.bool true]
def ait (u n:Nat)(l:eU)(K:V)(h:O)(i:qu u n l K)(S:Hl h K):Sr 364 [Z u] h K λv H=>v=ahk l/\H=[K]:=by
 obtain⟨x,rfl,i⟩:=i;obtain⟨ae,af,D,r,s,k,rs,rfl,z,B,R⟩:=id i;refine dS func364 S ?_;refine N [0] ?_;refine cL ?_;refine I (gB rfl rfl underlying403) ?_;refine Y ?_;refine lj (H:=2) (A:=decide (((en x).length:Int)=0)) 5 [(0,_)] ⟨rfl,trivial⟩ rfl rfl rfl rfl rfl (λE=>?_) (λW=>?_)
 .refine cQ ?_;refine dZ rfl rfl (eZ 0 0) ?_;refine dZ rfl rfl (e9 rfl rfl) ?_;exact iy
 refine fP (λg=>?_) λg=>?_
 .have p:en x=[]:=by simpa using g
  refine db results364 ?_;rw[p];exact⟨rfl,rfl⟩
 .have p:en x≠[]:=by simpa using g
  obtain⟨f,o,rfl⟩:∃f o,x=f::o:=by
   cases x with
   |nil=>exact absurd rfl p
   |cons f o=>exact⟨f,o,rfl⟩
  obtain⟨ab,ad,w,m⟩:∃ab ad w,f.2.2.2=(ab,ad)::w:=by
   cases e:f.2.2.2 with
   |nil=>exact absurd e (R.ne f (dQ ..))
   |cons G w=>exact⟨G.1,G.2,w,rfl⟩
  obtain⟨b,t,rfl,d,ag⟩:=B.cons_inv;rw[m]at d;have y:en (f::o)=(ad,f.2.1)::(w.map (λG=>(G.2,f.2.1))++en o):=by rw[vj,oJ,m];rfl
  refine eu (mK u n _ D r s k (b::t)) ?_;refine cK [2,0,0,0] ?_;refine Pw 0 func375 (λh q a=>N1 D n _ k h z a) ?_;rintro _ _ w3 ⟨rfl,rfl⟩;refine fu [1,1,0,0] ?_;refine qh (d:=[]) [_,_,_,_] ?_;refine cY (cz (mK u n _ D r s k (b::t))) [] func361 (cD _) (λh q a=>Mg u n [] f o _ h i a) ?_;rintro _ _ w4 ⟨rfl,rfl⟩;refine dj [J 0,vQ] λQ X=>?_;refine cO 0 λP=>?_;refine cH [5] ?_;refine Y ?_;refine cK [1,0] ?_;refine eu (mK u n _ D r s k (b::t)) ?_;refine cK [3,0,0,0,0] ?_;refine Va (f:=[]) ?_;refine cK [1,1,1,1,1,0] ?_;refine eO 10 [4,5] [_,_,_,_,_] [_] (cD _) λah=>?_;refine cL ?_;refine eh rfl (ft b [_,_,_,_,_] func382 (c8 5 rfl) (λh q a=>ab8 f.2.2.1 n _ b h d a)) ?_;rintro _ _ w5 ⟨_,rfl,rfl,rfl⟩;refine⟨_,lF,?_⟩;refine eh rfl (ft b [_,_,_,_,_] func381 (c8 5 rfl) (λh q a=>ab3 f.2.2.1 n _ ab b h d a)) ?_;rintro _ _ w6 ⟨_,rfl,rfl,T⟩;obtain rfl:=Di.ok (A:=[]) T d.nd;refine⟨_,lF,?_⟩;refine N [2,5] ?_;refine Y ?_;refine kB 6 [] λai=>?_;refine N [2,3,4] ?_;refine cK [5,0,0,0,0,0] ?_;refine Ix (f:=[]) ?_;refine cK [1,1,1,0] ?_;refine dG (d:=[]) [_,_,_,_] ?_;refine dP results364 ?_;refine⟨?_,rfl⟩;rw[y];rfl
structure IW (b:Nat)(a:eU):Prop where
 od:(a.map Prod.snd).Pairwise (·<=·)
 nd:(eR a).Nodup
 kI:∀c∈eR a,0<=c/\c<b
 len:a.length<=b
 ep:∀d∈a,d.2<=9223372036854775808
def Qg:∀{b:C Bk},(b.map λa=>a.2.1).Pairwise (·<·)->((en b).map Prod.snd).Pairwise (·<=·)
 |[],_=>List.Pairwise.nil
 |a::b,c=>by
  rw[dA,jD]at c;rw[vj,dE,mU];refine⟨?_,Qg c.2,?_⟩
  .have:(oJ a).map Prod.snd=a.2.2.2.map λ_=>a.2.1:=by simp[oJ]
   rw[this,oE];exact r3.2 λ_ _ _ _ _=>dT _
  .intro j d k e;obtain⟨l,f,rfl⟩:=dz.1 d;obtain⟨m,g,rfl⟩:=dz.1 e;rw[N2 f];obtain⟨n,h,i⟩:=BW g;rw[i];exact Nat.le_of_lt (c.1 _ (gu h))
def qu.inv {j i:Nat}{h:eU}{o:V}(l:qu j i h o):IW i h:=by
 obtain⟨t,rfl,d,e,s,m,n,p,q,rfl,f,g,a⟩:=l;refine⟨Qg a.od,a.vw,a.kI,?_,λu b=>?_⟩
 .have:=L8 a.vw a.kI;simpa[eR]using this
 .obtain⟨r,c,k⟩:=BW b;rw[k];exact a.ep r c
def adt {c:eU}{d:Nat}{f:Int×Nat}(a:(eR c).Nodup)(b:c[d]? =some f):oq c f.1=some f.2:=by
 induction c generalizing d with
 |nil=>simp at b
 |cons h c e=>
  simp only[eR,dA,iB]at a;cases d with
  |zero=>simp at b;subst b;rw[oq,cM rfl]
  |succ d=>rw[y0]at b;rw[oq,cJ (λg=>a.1 (by rw[g];exact gu (eH b)))];exact e a.2 b
structure mf (j:Nat)(e:C (cG En))(i:eU)(h:C (U×Int)):Prop where
 len:e.length=j
 ord:∀(b f:Nat),((b:Int),f)∈i↔∃(a:U)(c d:Nat),e[b]? =some (some (a,c,d))/\f=c+d
 idx:∀(a:U)(g:Int),(a,g)∈h↔∃(b c d:Nat),g=b/\e[b]? =some (some (a,c,d))
 sm:∀(b:Nat)(a:U)(c d:Nat),e[b]? =some (some (a,c,d))->iN a/\a≠ByteArray.empty
def RM {b:eU}{f:Int}{e:Nat}{d:Int×Nat}:d∈fW b f e↔d=(f,e)\/d∈b:=by
 induction b with
 |nil=>simp[fW]
 |cons g b c=>
  rw[fW];split
  .rw[dh,c,dh];constructor
   .rintro(a|a|a)<;>simp[a]
   .rintro(a|a|a)<;>simp[a]
  .simp
def LK {e:eU}{h:Int}(d:(eR e).Nodup){g:Int×Nat}:g∈rem e h↔g∈e/\g.1≠h:=by
 induction e with
 |nil=>simp[rem]
 |cons j e f=>
  simp only[eR,dA,iB]at d;rw[rem];split
  .rename_i c;rw[dh];constructor
   .intro a;refine⟨.inr a,λi=>d.1 ?_⟩;rw[c,<-i];exact gu a
   .rintro⟨a|a,b⟩
    .subst a;exact absurd c b
    .exact a
  .rename_i c;rw[dh,f d.2,dh];constructor
   .rintro(a|⟨a,b⟩)
    .subst a;exact⟨.inl rfl,c⟩
    .exact⟨.inr a,b⟩
   .rintro⟨a|a,b⟩
    .exact .inl a
    .exact .inr ⟨a,b⟩
def LB {c:eU}{e:Int}{d:Nat}(b:(eR c).Nodup)(f:(e,d)∈c):oq c e=some d:=by obtain⟨g,a⟩:=ka.1 f;exact adt b a
def mf.new (d:Nat):mf d (List.replicate d none) [] []:=by
 have c:∀(b:Nat)(h:En),¬(List.replicate d (none:cG En))[b]? =some (some h):=λb h c=>by rw[CZ]at c;split at c<;>cases c
 refine⟨o3,λb i=>?_,λe j=>?_,λb e f g a=>absurd a (c b _)⟩
 .simp only[nn,false_iff];rintro⟨e,f,g,a,_⟩;exact c b _ a
 .simp only[nn,false_iff];rintro⟨b,f,g,_,a⟩;exact c b _ a
def mf.set {w g:Nat}{o:C (cG En)}{v:eU}{u:C (U×Int)}{n:U}{q r:Nat}(p:mf w o v u)(l:o[g]? =some none)(t:iN n)(m:n≠ByteArray.empty):mf w (o.set g (some (n,q,r))) (fW v g (q+r)) ((n,(g:Int))::u):=by
 have e:g<o.length:=(da.1 l).1;refine⟨by rw[fy];exact p.len,λf x=>?_,λh y=>?_,λf h c d b=>?_⟩
 .rw[RM,p.ord];by_cases b:g=f
  .subst b;rw[gm e];constructor
   .rintro(a|⟨h,c,d,a,_⟩)
    .injection a with _ a;exact⟨n,q,r,rfl,a⟩
    .rw[l]at a;cases a
   .rintro⟨h,c,d,a,rfl⟩;injection a with a;injection a with a;injection a with _ a;injection a with j k;subst j;subst k;exact .inl rfl
  .rw[fE b];constructor
   .rintro(a|a)
    .injection a with a _;exact absurd (by omega) b
    .exact a
   .exact .inr
 .rw[dh,p.idx];constructor
  .rintro(a|⟨f,c,d,rfl,a⟩)
   .injection a with j k;subst j;subst k;exact⟨g,q,r,rfl,gm e⟩
   .have b:g≠f:=λs=>by subst s;rw[l]at a;cases a
    exact⟨f,c,d,rfl,by rw[fE b];exact a⟩
  .rintro⟨f,c,d,rfl,a⟩;by_cases b:g=f
   .subst b;rw[gm e]at a;injection a with a;injection a with a;injection a with a _;subst a;exact .inl rfl
   .rw[fE b]at a;exact .inr ⟨f,c,d,rfl,a⟩
 .by_cases i:g=f
  .subst i;rw[gm e]at b;injection b with b;injection b with b;injection b with a _;subst a;exact⟨t,m⟩
  .rw[fE i]at b;exact p.sm f h c d b
def mf.uniq {q e f:Nat}{h:C (cG En)}{p:eU}{l:C (U×Int)}{g:U}{n o c d:Nat}(m:mf q h p l)(b:(keys l).Nodup)(j:h[e]? =some (some (g,n,o)))(k:h[f]? =some (some (g,c,d))):e=f:=by have i:=vu b ((m.idx g e).2 ⟨e,n,o,rfl,j⟩);have a:=vu b ((m.idx g f).2 ⟨f,c,d,rfl,k⟩);rw[i]at a;injection a with a;omega
def mf.drop {u i:Nat}{o:C (cG En)}{t:eU}{k:C (U×Int)}{p:U}{w x:Nat}(l:mf u o t k)(s:(eR t).Nodup)(q:(keys k).Nodup)(j:o[i]? =some (some (p,w,x))):mf u (o.set i none) (rem t i) (gX k p):=by
 have g:i<o.length:=(da.1 j).1;refine⟨by rw[fy];exact l.len,λh y=>?_,λd v=>?_,λh d e f a=>?_⟩
 .rw[LK s,l.ord];by_cases a:i=h
  .subst a;rw[gm g];constructor
   .rintro⟨_,b⟩;exact absurd rfl b
   .rintro⟨d,e,f,b,_⟩;cases b
  .rw[fE a];constructor
   .exact sV
   .exact λb=>⟨b,λc=>a (by have c:(h:Int)=i:=c;omega)⟩
 .have n:(d,v)∈gX k p↔(d,v)∈k/\d≠p:=by simp[gX]
  rw[n,l.idx];constructor
  .rintro⟨⟨h,e,f,rfl,b⟩,r⟩;have a:i≠h:=λc=>by subst c;rw[j]at b;injection b with b;injection b with b;injection b with b _;exact r b.symm
   exact⟨h,e,f,rfl,by rw[fE a];exact b⟩
  .rintro⟨h,e,f,rfl,b⟩;have a:i≠h:=λc=>by subst c;rw[gm g]at b;cases b
   rw[fE a]at b;exact⟨⟨h,e,f,rfl,b⟩,λc=>by subst c;exact a (l.uniq q j b)⟩
 .have m:i≠h:=λc=>by subst c;rw[gm g]at a;cases a
  rw[fE m]at a;exact l.sm h d e f a
def mf.room {x o:Nat}{n:C (cG En)}{K:eU}{i:C (U×Int)}(c:mf x n K i)(q:(keys i).Nodup)(l:n[o]? =some none):i.length<x:=by
 have A:o<n.length:=(da.1 l).1;have m:(i.map Prod.snd).Nodup:=by
  have j:i.Nodup:=(oE.1 q).imp λc g=>c (by rw[g]);refine(oE.2 ?_);refine j.imp_of_mem λ{G H} r s k g=>k ?_;obtain⟨v,y⟩:=G;obtain⟨w,z⟩:=H;obtain⟨h,D,E,rfl,b⟩:=(c.idx v y).1 r;obtain⟨B,L,Q,rfl,a⟩:=(c.idx w z).1 s;have g:(h:Int)=B:=g;obtain rfl:h=B:=by omega
  rw[b]at a;injection a with a;injection a with a;injection a with a _;rw[a]
 have:=HJ (id:=(o:Int)) (c:=x) m (λR e=>by
  obtain⟨⟨u,f⟩,d,rfl⟩:=dz.1 e;obtain⟨h,D,E,g,b⟩:=(c.idx u f).1 d;have t:h<n.length:=(da.1 b).1;rw[c.len]at t;dsimp only;omega) (by have:=c.len;omega) (λe=>by
  obtain⟨⟨u,f⟩,d,p⟩:=dz.1 e;obtain⟨h,D,E,g,b⟩:=(c.idx u f).1 d;dsimp only at p;obtain rfl:h=o:=by omega
  rw[l]at b;cases b)
 rwa [dL]at this
def sG (j h d e:Nat)(c:M)(i:C (cG En))(b a:Nat)(f g:V):C V:=[cF j [Z d,Z e,F h,c,J b,J a] 414,row c 302 3 h (fp i),f,g]
def Nu (n c:Nat)(i:C (cG En))(k:eU)(b a:Nat)(l:C V):Prop:=1<=c/\c<=64/\∃d e h f g j m,l=sG n c d e h i b a f g/\qu d c k f/\k7 kM e c m 0 j g/\mf c i k j
def mX (h f:Nat)(d:C (cG En))(e:eU)(b a:Nat)(g:V):Prop:=∃c,g=cz c/\Nu h f d e b a c
def Yx (f:Int)(a b:Nat)(c:cG Addr)(e d:Nat)(g:O):(Instr.build 414 [(0,.agg #[Z a]),(1,.agg #[Z b]),(2,F f),(3,PA c e d)].toArray).run prog g=.ok (PE [Z a,Z b,F f,PA c e d,J 0,J 0]) g:=by kernel_rfl
def Yh (a:Nat)(b:O):(Instr.build 410 [(0,Z a)].toArray).run prog b=.ok (.agg #[Z a]) b:=by kernel_rfl
def Yc (a:Nat)(b:O):(Instr.build 412 [(0,Z a)].toArray).run prog b=.ok (.agg #[Z a]) b:=by kernel_rfl
def adz (a:Nat):(madeCells (Value.agg #[vE,J 0,J 0]).cells (a*3)).toList=fp (List.replicate a none):=by
 have g:∀a,((List.range (a*3)).map λh=>(#[Value.string ByteArray.empty,J 0,J 0]:Array M)[h % 3]!)=fp (List.replicate a none):=by
  intro a;induction a with
  |zero=>rfl
  |succ a e=>
   have f:fp (List.replicate (a+1) none)=fp (List.replicate a none)++dy none:=by rw[AY,fp,fp,j9];simp
   rw[f,lT,<-e,pL,pL,pL];simp only[dE,dA,kD,dJ];congr 1;have b:(a*3) % 3=0:=by omega
   have c:(a*3+1) % 3=1:=by omega
   have d:(a*3+2) % 3=2:=by omega
   rw[b,c,d];rfl
 rw[<-g a];simp only[madeCells,AK,AL];rfl
def T7 (a:Nat)(b:O)(p:1<=a)(q:a<=64):Sn 208 [F a] b λB A=>∃z f,B=.tuple #[Z z,F 0]/\A=[f]/\mX z a (List.replicate a none) [] 0 0 f:=by
 refine dS func208 hS ?_;refine N [0] ?_;refine cL ?_;refine I (gN rfl rfl) ?_;refine Y ?_;refine lj (H:=2) (A:=decide (64<(a:Int))) 2 [(0,_)] ⟨rfl,trivial⟩ rfl rfl rfl rfl rfl (λg=>?_) (λv=>?_)
 .refine Y ?_;refine dZ rfl rfl (gA rfl rfl) ?_;exact iy
 refine cH [0,12] ?_;refine kL rfl (λd=>absurd d (by simp;omega)) (λ_=>?_);refine cL ?_;refine dd func257 (λb e=>aiu a b (by omega) (by omega)) ?_;rintro _ _ D ⟨n,t,rfl,rfl,r⟩;refine N [0,4,5] ?_;refine cL ?_;refine I (jt rfl rfl) ?_;refine cH [0,4,5,19] ?_;refine kL rfl (λd=>absurd d (by simp)) (λ_=>?_);refine cL ?_;refine dw (qy (y:=16) (B:=dF (List.replicate 16 0)) rfl rfl qe (by omega) (by omega) (zM 16).symm) ?_;rintro _ _ w ⟨h,rfl,rfl⟩;refine dd func258 (λb e=>acL a (List.replicate 16 0) _ 0 b (by omega) (by omega) o3 (Rd.dM e (l:=0) rfl)) ?_;rintro _ _ E ⟨o,u,rfl,rfl,s⟩;refine N [0,4,5,6] ?_;refine cL ?_;refine I (jt rfl rfl) ?_;refine cH [0,4,5,6,28] ?_;refine kL rfl (λd=>absurd d (by simp)) (λ_=>?_);refine cL ?_;refine I (ee (λb=>Yh _ b)) ?_;refine Y ?_;refine I (ee (λb=>Yc _ b)) ?_;refine cC ?_;refine dw (qy (y:=a) (B:=fp (List.replicate a none)) rfl rfl sH (by omega) (by omega) (adz a).symm) ?_;rintro _ _ x ⟨k,rfl,rfl⟩;refine I (ee (λb=>Yx _ _ _ _ _ _ b)) ?_;refine dK λm y=>?_;refine N [2,3] ?_;refine cK [0,0,2,0] ?_;refine dG (d:=[]) [_,_,_,_] ?_;refine dP results208 ?_;exact⟨_,_,rfl,rfl,_,rfl,p,q,n,o,_,t,u,[],_,rfl,⟨[],rfl,r⟩,s,mf.new a⟩
def ahj {l a:Nat}{f:C (cG En)}{e:eU}{o:C (U×Int)}{g:Nat}(m:mf l f e o)(p:IW l e)(c:f[a]? =some none)(q:g<=9223372036854775808):yx l e a g=(0,fW e a g):=by
 have n:a<f.length:=(da.1 c).1;have d:(a:Int)∉eR e:=λj=>by obtain⟨⟨r,h⟩,k,i⟩:=dz.1 j;have i:r=(a:Int):=i;subst i;obtain⟨s,t,u,b,_⟩:=(m.ord a h).1 k;rw[c]at b;cases b
 rw[yx,cJ (by have:=m.len;omega),cJ d,cJ (by omega)]
def Cc {k:Nat}{g:C (cG En)}{j:eU}{h:C (U×Int)}{e:U}(i:mf k g j h):e∈keys h↔∃(b c d:Nat),g[b]? =some (some (e,c,d)):=by
 rw[tm];constructor
 .rintro⟨l,f⟩;obtain⟨b,c,d,_,a⟩:=(i.idx e l).1 f;exact⟨b,c,d,a⟩
 .rintro⟨b,c,d,a⟩;exact⟨b,(i.idx e b).2 ⟨b,c,d,rfl,a⟩⟩
def T8 {l:eU}(af ab j:Nat)(p:C (cG En))(c b:Nat)(m:U)(n o:Nat)(r:V)(A:O)(k:p[j]? =some none)(Q:iN m)(R:m≠ByteArray.empty)(K:∀(i w z:Nat),p[i]?≠some (some (m,w,z)))(hc:n+o<=9223372036854775808)(hr:mX af ab p l c b r)(hs:Hl A r):Sr 355 [Z af,F j,.agg #[.string m,J n,J o]] A r λ_ H=>Nu af ab (p.set j (some (m,n,o))) (fW l j (n+o)) c b H:=by
 obtain⟨L,rfl,W,X,q,s,ai,x,y,al,T,rfl,B,E,d⟩:=hr;have am:=d.len;have P:j<p.length:=(da.1 k).1;have t:=ahj d B.inv k hc;have S:m∉keys al:=λh=>by obtain⟨i,w,z,hi⟩:=(Cc d).1 h;exact K i w z hi
 have u:=Eg (e:=(j:Int)) S (Nat.ne_of_lt (d.room E.nd k));refine hJ func355 hs ?_;refine Mf λag ak=>?_;refine cH [0,1,5] ?_;refine Y ?_;refine cK [1,0] ?_;refine eu (sG af ab q s ai p c b x y) ?_;refine eQ λe=>?_;obtain⟨g,cc,ah⟩:=fs e (q:=1) rfl;subst ah;clear e;refine cK [1,0,2,0,0] ?_;refine mm 8 [7] [(_,some 7),(_,none),(_,none)] [_,_] (cD _) λan=>?_;refine df ?_;refine ew rfl (di 2 (b:=[_,_,_])) ?_;refine ew rfl (cR (ab:=j)) ?_;refine jC rfl (fK 0 (q:=dy (some (m,n,o))) (y:=fp (p.set j (some (m,n,o)))) (h1:=by simp[dy,Value.oneCell']) (hl:=by rw[wK];show 0+j*3+3<=_;omega) (ae:=Pa _ P)) ?_;rintro _ _ w1 rfl;refine⟨_,de [1,1] _ rfl,?_⟩;refine ui [0,1,5] rfl ?_;refine Y ?_;refine cK [0,0,0,1,0] ?_;refine eO 12 [11] [_,_,_,_] [_] (cD _) λao=>?_;refine fh ?_;refine Y ?_;refine cN rfl (cU (z:=J ((n+o:Nat):Int)) (og rfl rfl) (by rw[gR])) ?_;refine eh rfl (ft x [_,_,_,_] func365 (c8 4 rfl) (λA e f=>ais q ab l x j (n+o) A B f)) ?_;rw[t];rintro _ _ w2 ⟨_,rfl,rfl,ad,rfl,D⟩;refine⟨_,lF,?_⟩;refine iK [0,1,5] ?_;refine cK [0,0,0,1,0] ?_;refine eO 9 [8] [_,_,_,_] [_] (cD _) λap=>?_;refine iq ?_;refine eh rfl (ft y [_,_,_,_] func366 (c8 4 rfl) (λA e f=>acM s ab T 0 al y m (j:Int) A Q E f)) ?_;rw[u];rintro _ _ w3 ⟨_,rfl,rfl,ae,rfl,G⟩;refine⟨_,lF,?_⟩;refine Ax [] [0,1,1,1] ?_;refine⟨_,_,λa aj e=>im (p:=[]) results355 rfl a aj _,gq _,?_⟩;exact⟨W,X,q,s,_,ad,ae,_,T,rfl,D,G,d.set k Q R⟩
def MD {K:eU}(X Q d:Nat)(s:C (cG En))(c b:Nat)(t:U)(n q:Nat)(r:V)(u:O)(f:s[d]? =some (some (t,n,q)))(ah:mX X Q s K c b r)(hs:Hl u r):Sr 358 [Z X,F d] u r λv H=>v=.agg #[.string t,J n,J q]/\∃R,H=[R]/\mX X Q (s.set d none) (rem K d) c b R:=by
 obtain⟨L,rfl,D,E,k,l,ae,o,p,ap,T,rfl,x,z,j⟩:=ah;have an:=j.len;have G:d<s.length:=(da.1 f).1;have w:=x.inv;have B:=LB w.nd ((j.ord d (n+q)).2 ⟨t,n,q,f,rfl⟩);have m:xd K (d:Int)=(n+q,0,rem K d):=by simp only[xd,B]
 have ag:=(j.sm d t n q f).1;refine dR func358 hs ?_;refine NV [vE,J 0,J 0] λP ai=>?_;refine cH [0,1,4] ?_;refine Y ?_;refine cK [1,0] ?_;refine eu (sG X Q k l ae s c b o p) ?_;refine eQ λe=>?_;obtain⟨g,cc,ad⟩:=fs e (q:=1) rfl;subst ad;clear e;refine eL ?_;refine I (cR (ab:=d)) ?_;refine I (je 1 (b:=dy (some (t,n,q))) (hv:=x6 f)) ?_;refine dj [vE,J 0,J 0] λab aj=>?_;refine cO 0 (u:=[_,_,_]) λak=>?_;refine cB ?_;refine I (ee nt) ?_;refine I (cR (ab:=d)) ?_;refine iQ (fK 2 (q:=dy none) (y:=fp (s.set d none)) (h1:=by simp[dy,Value.oneCell']) (hl:=by rw[wK];show 0+d*3+3<=_;omega) (ae:=Pa _ G)) ?_;rintro _ _ al rfl;refine cB ?_;refine dw (ft o [_,_,_,_,_] func367 (c8 3 rfl) (λu e h=>aiw k Q K o d u x h)) ?_;rw[m];rintro _ _ w3 ⟨_,rfl,rfl,S,rfl,y⟩;refine cH [0,4,5] ?_;refine Y ?_;refine cK [0,0,0,0,1,0] ?_;refine eO 8 [7] [_,_,_,_,_] [_] (cD _) λao=>?_;refine fw ?_;refine eh rfl (ft p [_,_,_,_,_] func368 (c8 5 rfl) (λu e h=>acK l Q T 0 ap p t u ag z h)) ?_;rintro _ _ w4 ⟨_,rfl,rfl,W,rfl,A⟩;refine⟨_,lF,?_⟩;refine K3 1 (f:=[_,_,_]) ?_;refine cO 4 (u:=[_,_,_]) λam=>?_;refine cH [4] ?_;refine cK [2,2,0,2,1] ?_;refine dG (d:=[_]) [_,_,_,_] ?_;refine cK [1,0] ?_;refine eM ?_;refine⟨_,_,λa af e=>HN 0 results358 rfl a af e underlying302 rfl (by kernel_rfl) rfl,fO ..,?_⟩;exact⟨rfl,_,rfl,_,rfl,D,E,k,l,_,S,W,_,T,rfl,y,A,j.drop w.nd z.nd f⟩
def ek (a:cG En):U:=match a with
 |none=>ByteArray.empty
 |some b=>b.1
def eo (a:cG En):Nat:=match a with
 |none=>0
 |some b=>b.2.1
def es (a:cG En):Nat:=match a with
 |none=>0
 |some b=>b.2.2
def aan (a:cG En):dy a=[.string (ek a),J (eo a:Int),J (es a:Int)]:=by cases a<;>rfl
def sR (m:Nat)(d:C (cG En))(c:Nat)(e:Nat)(b:C (cG En))(a:Nat):Prop:=e<m/\b[e]? =some none/\((b=d/\a=c/\∀n<e,∃l,d[n]? =some (some l))\/((∀h<m,∃l,d[h]? =some (some l))/\∃(o:U)(j k:Nat),d[e]? =some (some (o,j,k))/\b=d.set e none/\a=j+k/\∀(h:Nat)(i:U)(f g:Nat),d[h]? =some (some (i,f,g))->j+k<=f+g))
def Nh (g:Nat)(b:C (cG En))(c:eU)(d:Nat)(a:eU):Prop:=(b[d]? =some none/\a=c)\/((∀f<g,∃h,b[f]? =some (some h))/\∃e,c=((d:Int),e)::a)
def aki {l:eU}(P m:Nat)(o:C (cG En))(b a:Nat)(r:V)(aj:O)(hr:mX P m o l b a r)(hs:Hl aj r):Sr 354 [Z P] aj r λv H=>∃(n:Nat)(am:C (cG En))(f:eU)(j:Nat)(r':V),v=F n/\H=[r']/\mX P m am f j a r'/\sR m o b n am j/\Nh m o l n f:=by
 have R:=hr;obtain⟨L,rfl,au,av,ab,an,eV,ai,rX,aF,T,rfl,hR,hX,q⟩:=hr;have aD:=q.len;have hO:=hR.inv;refine dS func354 hs ?_;refine eQ λD=>?_;obtain⟨g,cc,e2⟩:=nB D (s:=0) (t:=1) rfl rfl;subst e2;clear D;refine NX 0 0 ?_;refine K4 [0,11,12,13] ?_;refine dB (λah m' H aj=>∃i:Nat,m'=[(0,Z P),(11,vS g m cc),(12,F m),(13,F i)]/\H=[cz (sG P m ab an (vS g m cc) o b a ai rX)]/\ah+i=m/\∀af<i,∃B,o[af]? =some (some B)) m ⟨0,rfl,rfl,rfl,by simp⟩ ?_;rintro ah _ _ w1 ⟨i,rfl,rfl,aE,d⟩;refine cC ?_;refine I (gN rfl rfl) ?_;refine cZ (λs=>?_) λs=>?_
 .have hi:i<m:=by have:(i:Int)<(m:Int):=s;omega
  obtain⟨B,x⟩:∃B,o[i]? =some B:=⟨_,dr (by omega)⟩;refine eL ?_;refine I (cR (ab:=i) (ad:=hi)) ?_;refine I (qN 0 1 (b:=[.string (ek B),J (eo B:Int),J (es B:Int)]) (hv:=by have:=x6 x;rw[aan]at this;exact this)) ?_;refine dj [vE,J 0,J 0] λaz aA=>?_;refine KW 0 λaB=>?_;refine cH [0,3,4,11,12,13] ?_;refine cL ?_;refine I (oO rfl rfl) ?_;refine cZ (λt=>?_) λt=>?_
  .have ay:B=none:=by
    cases B with
    |none=>rfl
    |some E=>exact absurd t (q.sm i E.1 E.2.1 E.2.2 x).2
   subst ay;refine N [2] ?_;refine cK [1] ?_;refine dP results354 ?_;exact⟨i,o,_,b,_,rfl,rfl,R,⟨hi,x,.inl ⟨rfl,rfl,d⟩⟩,.inl ⟨x,rfl⟩⟩
  .obtain⟨E,rfl⟩:∃E,B=some E:=by
    cases B with
    |none=>exact absurd rfl t
    |some E=>exact⟨E,rfl⟩
   refine IA ?_;refine N [0,11,12,13] ?_;refine⟨ah-1,by omega,i+1,rfl,rfl,by omega,λaf ad=>?_⟩;rcases o4 (wj ad)with h|rfl
   .exact d af h
   .exact⟨E,x⟩
 .obtain rfl:i=m:=by have:¬(i:Int)<(m:Int):=s;omega
  obtain⟨⟨k0,o0,s0⟩,ax⟩:=d 0 (by omega);have ar:=(q.ord 0 (o0+s0)).2 ⟨k0,o0,s0,ax,rfl⟩;obtain⟨⟨z,c⟩,f,rfl⟩:∃p f,l=p::f:=by
   cases l with
   |nil=>cases ar
   |cons p f=>exact⟨p,f,rfl⟩
  have hz:=hO.kI z (by simp[eR]);obtain⟨n,rfl⟩:∃n:Nat,z=n:=⟨z.toNat,by omega⟩;obtain⟨k,ak,al,ae,rfl⟩:=(q.ord n c).1 (dQ ..);have aw:n<o.length:=(da.1 ae).1;have u:∀(af:Nat)(ag:U)(y A:Nat),o[af]? =some (some (ag,y,A))->ak+al<=y+A:=λaf ag y A ad=>by
   have:=(q.ord af (y+A)).2 ⟨ag,y,A,ad,rfl⟩;rcases dh.1 this with e|hm
   .injection e with _ e;omega
   .have ha:=hO.od;rw[dA,jD]at ha;exact ha.1 _ (gu hm)
  refine dI ?_;refine Y ?_;refine eu (sG P i ab an _ o b a ai rX) ?_;refine Pw 2 func364 (λaj D w=>ait ab i _ ai aj hR w) ?_;rintro _ _ w7 ⟨rfl,rfl⟩;refine fu [1,1,0,0] ?_;refine qh (d:=[]) [_,_,_,_] ?_;refine Pw 0 func358 (λaj D w=>MD P i n o b a k ak al _ aj ae R w) ?_;rintro _ _ w8 ⟨rfl,r2,rfl,S⟩;rw[show rem ((n,ak+al)::f) (n:Int)=f from cM rfl]at S;obtain⟨L2,rfl,_,_,G,K,Q,W,X,M2,T2,rfl,ap,aq,ao⟩:=S;refine cH [0,5,6] ?_;refine Y ?_;refine eu (d:=[]) (sG P i G K Q _ b a W X) ?_;refine KW 0 λaC=>?_;refine cH [5] ?_;refine N [2] ?_;refine dG (d:=[]) [_,_,_,_] ?_;refine dP results354 ?_;exact⟨n,o.set n none,f,ak+al,_,rfl,rfl,⟨_,rfl,au,av,G,K,Q,W,X,M2,T2,rfl,ap,aq,ao⟩,⟨by omega,gm aw,.inr ⟨d,k,ak,al,ae,rfl,rfl,u⟩⟩,.inr ⟨d,ak+al,rfl⟩⟩
def hZ (a:C (cG En))(c:U)(b d e:Nat):Prop:=a[b]? =some (some (c,d,e))
def lC (a:C (cG En))(c:U):Prop:=∀(b d e:Nat),a[b]?≠some (some (c,d,e))
def wA (e:C (cG En))(b a:Nat):Prop:=a<=9223372036854775808/\b<=a/\∀(f:Nat)(g:U)(c d:Nat),e[f]? =some (some (g,c,d))->c+d<=a
def mf.get {l:Nat}{h:C (cG En)}{k:eU}{g:C (U×Int)}(i:mf l h k g)(j:(keys g).Nodup)(d:U):(∃b e f,hZ h d b e f/\dt g d=some (b:Int))\/(lC h d/\dt g d=none):=by
 by_cases c:d∈keys g
 .obtain⟨b,e,f,a⟩:=(Cc i).1 c;exact .inl ⟨b,e,f,a,vu j ((i.idx d b).2 ⟨b,e,f,rfl,a⟩)⟩
 .exact .inr ⟨λb e f a=>c ((Cc i).2 ⟨b,e,f,a⟩),yq c⟩
def mf.raise {x d:Nat}{o:C (cG En)}{t:eU}{w:C (U×Int)}{p:U}{u v i j:Nat}(m:mf x o t w)(s:(eR t).Nodup)(h:o[d]? =some (some (p,u,v))):mf x (o.set d (some (p,i,j))) (fW (rem t d) d (i+j)) w:=by
 have c:d<o.length:=(da.1 h).1;refine⟨by rw[fy];exact m.len,λg z=>?_,λn A=>?_,λg n e f b=>?_⟩
 .rw[RM,LK s,m.ord];by_cases b:d=g
  .subst b;rw[gm c];constructor
   .rintro(a|⟨_,a⟩)
    .injection a with _ a;exact⟨p,i,j,rfl,a⟩
    .exact absurd rfl a
   .rintro⟨y,e,f,a,rfl⟩;injection a with a;injection a with a;injection a with _ a;injection a with q r;subst q;subst r;exact .inl rfl
  .rw[fE b];constructor
   .rintro(a|a)
    .injection a with a _;exact absurd (by omega) b
    .exact a.1
   .exact λa=>.inr ⟨a,λl=>b (by have l:(g:Int)=d:=l;omega)⟩
 .rw[m.idx];constructor
  .rintro⟨g,e,f,rfl,a⟩;by_cases b:d=g
   .subst b;rw[h]at a;injection a with a;injection a with a;injection a with a _;subst a;exact⟨d,i,j,rfl,gm c⟩
   .exact⟨g,e,f,rfl,by rw[fE b];exact a⟩
  .rintro⟨g,e,f,rfl,a⟩;by_cases b:d=g
   .subst b;rw[gm c]at a;injection a with a;injection a with a;injection a with a _;subst a;exact⟨d,u,v,rfl,h⟩
   .rw[fE b]at a;exact⟨g,e,f,rfl,a⟩
 .by_cases k:d=g
  .subst k;rw[gm c]at b;injection b with b;injection b with b;injection b with a _;subst a;exact m.sm d p u v h
  .rw[fE k]at b;exact m.sm g n e f b
def aao {d:C (cG En)}{e:Nat}{f:U}{b g c:Nat}(j:d[e]? =some (some (f,b,g))):(fp d).take (0+e*3+1)++[J c]++(fp d).drop (0+e*3+1+1)=fp (d.set e (some (f,c,g))):=by
 obtain⟨h,i,rfl,rfl⟩:=Aa j;have a:∀b,fp (h++some (f,b,g)::i)=fp h++(.string f::J b::J g::fp i):=λb=>by rw[DM];rfl
 rw[zX,a,a,dU,<-wK h,ma _ 1 1,Nq,List.drop_length_add_append];simp
def qO (o:Nat)(h:C (cG En))(d b:Nat)(e:U)(f:Nat)(j:Int)(g:C (cG En))(a c:Nat):Prop:=(j≠0/\g=h/\a=d/\c=b/\(e=ByteArray.empty/\j=3\/e≠ByteArray.empty/\f=0/\j=1\/e≠ByteArray.empty/\f≠0/\9223372036854775808<b+f/\j=12))\/(j=0/\e≠ByteArray.empty/\f≠0/\b+f<=9223372036854775808/\c=b+f/\((∃k m n,hZ h e k m n/\g=h.set k (some (e,m+f,n))/\a=d)\/(lC h e/\∃l i,sR o h d l i a/\g=i.set l (some (e,f,a)))))
def sR.tok {r j:Nat}{m f:C (cG En)}{d a c:Nat}(p:sR r m d j f a)(e:wA m d c):wA f a c:=by
 obtain⟨_,h,⟨rfl,rfl,_⟩|⟨_,q,s,t,g,rfl,rfl,_⟩⟩:=p
 .exact e
 .refine⟨e.1,e.2.2 j q s t g,λo i k l b=>?_⟩;by_cases n:j=o
  .subst n;rw[h]at b;cases b
  .rw[fE n]at b;exact e.2.2 o i k l b
def sR.rr {p m:Nat}{i d:C (cG En)}{c b:Nat}{l:U}(n:sR p i c m d b)(e:lC i l):lC d l:=by
 obtain⟨_,f,⟨rfl,rfl,_⟩|⟨_,k0,q,r,o,rfl,rfl,_⟩⟩:=n
 .exact e
 .intro k g h a;by_cases j:m=k
  .subst j;rw[f]at a;cases a
  .rw[fE j]at a;exact e k g h a
def IN (p:Nat)(d:C (cG En))(l:eU)(b:Nat)(i:U)(k:Nat)(o:Int)(e:C (cG En))(c:eU)(a:Nat):Prop:=(o≠0/\c=l)\/(o=0/\((∃h m n,hZ d i h m n/\e=d.set h (some (i,m+k,n))/\c=fW (rem l h) h (m+k+n))\/(lC d i/\∃j f g,sR p d b j f a/\Nh p d l j g/\e=f.set j (some (i,k,a))/\c=fW g j (k+a))))
def akg {l:eU}(t S:Nat)(v:C (cG En))(b a:Nat)(j:U)(c:Nat)(r:V)(y:O)(hk:iN j)(hv:c<18446744073709551616)(ht:wA v b a)(hr:mX t S v l b a r)(hs:Hl y r):Sr 344 [Z t,.string j,J c] y r λu H=>∃(e:Int)(ak:C (cG En))(l':eU)(i q:Nat)(r':V),u=F e/\H=[r']/\mX t S ak l' i q r'/\qO S v b a j c e ak i q/\IN S v l b j c e ak l' i:=by
 have R:=hr;obtain⟨L,rfl,ag,ah,X,P,eV,ad,ae,aw,T,rfl,hR,B,z⟩:=hr;have aE:=z.len;have hO:=hR.inv;obtain⟨aK,aL,au⟩:=id ht;refine hJ func344 hs ?_;refine N [0,1,2] ?_;refine df ?_;refine I (gB rfl rfl underlying351) ?_;refine N [0,1,2,10] ?_;refine cL ?_;refine I (oO rfl rfl) ?_;refine cZ (λD=>?_) λD=>?_
 .obtain rfl:j=ByteArray.empty:=D;refine db results344 ?_;exact⟨3,v,_,b,a,_,rfl,rfl,R,.inl ⟨by decide,rfl,rfl,rfl,.inl ⟨rfl,rfl⟩⟩,.inl ⟨by decide,rfl⟩⟩
 .have o:j≠ByteArray.empty:=D;refine cQ ?_;refine I (e9 rfl rfl) ?_;refine cZ (λE=>?_) λE=>?_
  .have h:c=0:=by have:(c:Int)=0:=E;omega
   refine db results344 ?_;exact⟨1,v,_,b,a,_,rfl,rfl,R,.inl ⟨by decide,rfl,rfl,rfl,.inr (.inl ⟨o,h,rfl⟩)⟩,.inl ⟨by decide,rfl⟩⟩
  .have h:c≠0:=λab=>E (by rw[ab];rfl);refine NX 0 0 ?_;refine Y ?_;refine dd func121 (λy s=>zV a c y (by omega) hv) ?_;rintro _ _ w1 ⟨rfl,rfl⟩;refine I (jl rfl rfl) ?_;refine fP (λG=>?_) λG=>?_
   .have w:9223372036854775808<a+c:=by simpa using G
    refine db results344 ?_;exact⟨12,v,_,b,a,_,rfl,rfl,R,.inl ⟨by decide,rfl,rfl,rfl,.inr (.inr ⟨o,h,w,rfl⟩)⟩,.inl ⟨by decide,rfl⟩⟩
   .have w:a+c<=9223372036854775808:=by simpa using G
    refine eu (sG t S X P eV v b a ad ae) ?_;refine iq ?_;refine I (cU (z:=J ((a+c:Nat):Int)) (og rfl rfl) (by rw[gR])) ?_;refine KW 0 λax=>?_;refine Pw 3 func352 (λy s f=>B9 P S T 0 aw ae j y hk B f) ?_;rintro _ _ w2 ⟨rfl,rfl⟩;refine fu [1,1,1,0] ?_;refine fP (λk=>?_) λk=>?_
    .obtain⟨p,x,A,m,hg⟩:∃p x A,hZ v j p x A/\dt aw j=some (p:Int):=by
      rcases z.get B.nd j with ab|⟨_,ab⟩
      .exact ab
      .rw[ab]at k;cases k
     rw[hg];have aI:p<v.length:=(da.1 m).1;have aJ:=au p j x A m;have ap:=LB hO.nd ((z.ord p (x+A)).2 ⟨j,x,A,m,rfl⟩);have aq:yz l (p:Int) c=(0,fW (rem l p) p (x+A+c)):=by simp only[yz,ap];rw[cM (by omega),cJ h]
     refine eQ λs=>?_;obtain⟨g,cc,e2⟩:=fs s (q:=1) rfl;subst e2;clear s;refine fw ?_;refine I (cR (ab:=p)) ?_;refine Y ?_;refine I (gj 1 (n:=J x) (hv:=Gk m 1 rfl (by omega))) ?_;refine Y ?_;refine I (cU (z:=J ((x+c:Nat):Int)) (og rfl rfl) (by rw[gR])) ?_;refine I (cR (ab:=p)) ?_;refine Y ?_;refine iQ (fK 1 (y:=fp (v.set p (some (j,x+c,A)))) (hl:=by rw[wK];show 0+p*3+1+1<=_;omega) (ae:=?_)) ?_
     .exact aao m
     rintro _ _ av rfl;refine cB ?_;refine dw (ft ad [_,_,_] func353 (c8 2 rfl) (λy s f=>aiv X S l ad p c y hv hR f)) ?_;rw[aq];rintro _ _ w3 ⟨_,rfl,rfl,aj,rfl,_,af⟩;refine N [6] ?_;refine cK [1,1,0,0] ?_;refine dG (d:=[]) [_,_,_,_] ?_;refine dP results344 ?_;rw[show x+A+c=x+c+A by omega]at af;refine⟨0,v.set p (some (j,x+c,A)),_,b,a+c,_,rfl,rfl,⟨_,rfl,ag,ah,X,P,vS g S cc,aj,ae,aw,T,rfl,af,B,?_⟩,.inr ⟨rfl,o,h,w,rfl,.inl ⟨p,x,A,m,rfl,rfl⟩⟩,.inr ⟨rfl,.inl ⟨p,x,A,m,rfl,rfl⟩⟩⟩;exact z.raise hO.nd m
    .have Q:lC v j:=by
      rcases z.get B.nd j with⟨_,_,_,_,ab⟩|⟨ab,_⟩
      .rw[ab]at k;exact absurd rfl k
      .exact ab
     refine dG (d:=[]) [_,_,_,_] ?_;refine Pw 0 func354 (λy s f=>aki t S v b (a+c) _ y ⟨_,rfl,ag,ah,X,P,eV,ad,ae,aw,T,rfl,hR,B,z⟩ f) ?_;rintro _ _ w4 ⟨n,W,l1,d,r1,rfl,rfl,ai,K,ao⟩;have ar:=K.tok ht;have al:=K.rr Q;have am:=ai;obtain⟨L1,rfl,_,_,ay,aA,aC,aM,aN,M1,T1,rfl,aG,aH,aF⟩:=ai;refine NX 0 0 ?_;refine I (ee (λy=>JP _ _ _ y)) ?_;refine cY _ [] func355 (cD _) (λy s f=>T8 t S n W d (a+c) j c d _ y K.2.1 hk o al (by have:=ar.2.1;omega) am f) ?_;rintro _ _ w5 hL;rw[eN];have an:=hL;obtain⟨_,_,az,aB,aD,aj,aO,M2,T2,rfl,_⟩:=hL;refine qh (d:=[]) [_,_,_,_] ?_;refine db results344 ?_;exact⟨0,W.set n (some (j,c,d)),_,d,a+c,_,rfl,rfl,⟨_,rfl,an⟩,.inr ⟨rfl,o,h,w,rfl,.inr ⟨Q,n,W,K,rfl⟩⟩,.inr ⟨rfl,.inr ⟨Q,n,W,l1,K,ao,rfl,rfl⟩⟩⟩
def AE (b:C (cG En))(a:U)(e:M):Prop:=(∃f c d,hZ b a f c d/\e=PF [gf a c d,.bool true])\/(lC b a/\e=PF [oM,.bool false])
def T9 {r:eU}(h s:Nat)(j:C (cG En))(a b:Nat)(c:V)(i:O)(d:mX h s j r a b c)(e:Hl i c):Sr 351 [Z h] i c λv k=>v=J a/\k=[c]:=by obtain⟨w,rfl,f,g,l,m,n,t,u,x,y,rfl,p,q,o⟩:=d;refine dS func351 e ?_;refine N [0] ?_;refine cL ?_;refine I (gB rfl rfl underlying351) ?_;refine NX 0 0 ?_;refine db results351 ?_;exact⟨rfl,rfl⟩
def T6 {l:eU}(S Q:Nat)(m:C (cG En))(d c:Nat)(e:U)(t:V)(w:O)(E:iN e)(G:mX S Q m l d c t)(K:Hl w t):Sr 346 [Z S,.string e] w t λv H=>AE m e v/\H=[t]:=by
 obtain⟨L,rfl,af,ag,z,o,B,R,r,ab,T,rfl,hR,i,h⟩:=G;have ad:=h.len;refine dR func346 K ?_;refine NV [vE,J 0,J 0] λy W=>?_;refine N [0,1,4] ?_;refine cL ?_;refine I (gB rfl rfl underlying351) ?_;refine cH [0,1,4,9] ?_;refine cQ ?_;refine cK [1,0] ?_;refine eu (sG S Q z o B m d c R r) ?_;refine Pw 3 func352 (λw b q=>B9 o Q T 0 ab r e w E i q) ?_;rintro _ _ w2 ⟨rfl,rfl⟩;refine fu [4,1,1,1,0] ?_;refine N [0,4,6,7] ?_;refine cL ?_;refine I (jl rfl rfl) ?_;refine fP (λa=>?_) λa=>?_
 .have p:lC m e:=by
   rcases h.get i.nd e with⟨_,_,_,_,f⟩|⟨f,_⟩
   .rw[f]at a;cases a
   .exact f
  refine cC ?_;refine I (ee nt) ?_;refine cO 0 (u:=[_,_,_]) λX=>?_;refine N [4,5] ?_;refine cK [1,1,1,1,0] ?_;refine dG (d:=[_]) [_,_,_,_] ?_;refine cK [1,0] ?_;refine eM ?_;refine⟨_,_,λx j b=>eW results346 (eX (e4 0 rfl underlying302 rfl (by kernel_rfl) rfl) (gg rfl eY)) x j _ b,fO ..,?_⟩;exact⟨.inr ⟨p,rfl⟩,rfl⟩
 .obtain⟨n,s,u,k,D⟩:∃n s u,hZ m e n s u/\dt ab e=some (n:Int):=by
   rcases h.get i.nd e with f|⟨_,f⟩
   .exact f
   .rw[f]at a;exact absurd rfl a
  rw[D];have ae:n<m.length:=(da.1 k).1;refine eQ λb=>?_;obtain⟨g,cc,A⟩:=fs b (q:=2) rfl;subst A;clear b;refine iq ?_;refine I (cR (ab:=n)) ?_;refine I (je 2 (b:=dy (some (e,s,u))) (hv:=x6 k)) ?_;refine cO 0 (u:=[_,_,_]) λP=>?_;refine N [4,5] ?_;refine cK [1,1,1,1,0] ?_;refine dG (d:=[_]) [_,_,_,_] ?_;refine cK [1,0] ?_;refine eM ?_;refine⟨_,_,λx j b=>eW results346 (eX (e4 0 rfl underlying302 rfl (by kernel_rfl) rfl) (gg rfl eY)) x j _ b,fO ..,?_⟩;exact⟨.inl ⟨n,s,u,k,rfl⟩,rfl⟩
def akn {W:eU}(B y:Nat)(e:C (cG En))(b a:Nat)(d:U)(X:V)(t:O)(R:iN d)(w:mX B y e W b a X)(S:Hl t X):Sr 349 [Z B,.string d] t X λv H=>AE e d v/\∃z m s,H=[z]/\mX B y m s b a z/\((∃h k l,hZ e d h k l/\m=e.set h none/\s=rem W h/\v=PF [gf d k l,.bool true])\/(lC e d/\m=e/\s=W)):=by
 have j:=w;obtain⟨L,rfl,ah,ai,G,u,K,P,A,af,T,rfl,hR,p,o⟩:=w;have ag:=o.len;refine dR func349 S ?_;refine NV [vE,J 0,J 0] λE ab=>?_;refine N [0,1,4] ?_;refine cL ?_;refine I (gB rfl rfl underlying351) ?_;refine cH [0,1,4,9] ?_;refine cQ ?_;refine cK [1,0] ?_;refine eu (sG B y G u K e b a P A) ?_;refine Pw 3 func352 (λt f g=>B9 u y T 0 af A d t R p g) ?_;rintro _ _ w2 ⟨rfl,rfl⟩;refine fu [1,1,1,0,0] ?_;refine qh (d:=[_]) [_,_,_,_] ?_;refine fu [1,0] ?_;refine N [0,4,6,7] ?_;refine cL ?_;refine I (jl rfl rfl) ?_;refine fP (λc=>?_) λc=>?_
 .have i:lC e d:=by
   rcases o.get p.nd d with⟨_,_,_,_,n⟩|⟨n,_⟩
   .rw[n]at c;cases c
   .exact n
  refine cC ?_;refine I (ee nt) ?_;refine cO 0 λad=>?_;refine N [4,5] ?_;refine eM ?_;refine⟨_,_,λD q f=>eW results349 (eX (e4 0 rfl underlying302 rfl (by kernel_rfl) rfl) (gg rfl eY)) D q _ f,fO ..,?_⟩;exact⟨.inr ⟨i,rfl⟩,_,e,_,rfl,j,.inr ⟨i,rfl,rfl⟩⟩
 .obtain⟨h,k,l,r,Q⟩:∃h k l,hZ e d h k l/\dt af d=some (h:Int):=by
   rcases o.get p.nd d with n|⟨_,n⟩
   .exact n
   .rw[n]at c;exact absurd rfl c
  rw[Q];refine Pw 1 func358 (λt f g=>MD B y h e b a d k l _ t r j g) ?_;rintro _ _ w3 ⟨rfl,r2,rfl,x⟩;refine fu [1,0] ?_;refine cO 0 λae=>?_;refine N [4,5] ?_;refine eM ?_;refine⟨_,_,λD q f=>eW results349 (eX (e4 0 rfl underlying302 rfl (by kernel_rfl) rfl) (gg rfl eY)) D q _ f,fO ..,?_⟩;exact⟨.inl ⟨h,k,l,r,rfl⟩,_,e.set h none,_,rfl,x,.inl ⟨h,k,l,r,rfl,rfl,rfl⟩⟩
def pW:cG En->Nat
 |none=>0
 |some a=>a.2.1+a.2.2
def qz (a:C (cG En)):Nat:=(a.map pW).sum
def yb {a:C (cG En)}{b:Nat}{c:cG En}(d:cG En)(e:a[b]? =some c):qz (a.set b d)+pW c=qz a+pW d:=by obtain⟨f,g,rfl,rfl⟩:=Aa e;rw[zX];simp only[qz,dE,dA,mV,iE];omega
def PD (b:Nat):qz (List.replicate b none)=0:=by
 induction b with
 |zero=>rfl
 |succ b a=>rw[Ft,qz,dA,iE];exact(dU _).trans a
def D4 {d:Nat}{c:U}{b e f:Nat}:¬hZ (List.replicate d none) c b e f:=λa=>by unfold hZ at a;rw[CZ]at a;split at a<;>cases a
def sr {d:C (cG En)}{b:Nat}{k:cG En}{m:En}{i:U}{c j l:Nat}(h:d[b]? =some k)(a:hZ (d.set b (some m)) i c j l):(c=b/\m=(i,j,l))\/(c≠b/\hZ d i c j l):=by
 have g:b<d.length:=(da.1 h).1;unfold hZ at*;by_cases e:b=c
 .subst e;rw[gm g]at a;injection a with a;injection a with a;exact .inl ⟨rfl,a⟩
 .rw[fE e]at a;exact .inr ⟨λf=>e f.symm,a⟩
def AE.form {g:C (cG En)}{d:U}{k:M}(l:AE g d k):∃(b:U)(e f:Nat)(a:Bool),k=PF [gf b e f,.bool a]/\(a=true->∃j,hZ g d j e f/\b=d)/\(a=false->lC g d/\e=0/\f=0/\b=ByteArray.empty):=by
 rcases l with⟨j,e,f,i,rfl⟩|⟨c,rfl⟩
 .exact⟨d,e,f,true,rfl,(λ_=>⟨j,i,rfl⟩),(λh=>by cases h)⟩
 .exact⟨ByteArray.empty,0,0,false,rfl,(λh=>by cases h),(λ_=>⟨c,rfl,rfl,rfl⟩)⟩
def LH {f:C (cG En)}{a:En}:a∈f.filterMap id↔∃e,hZ f a.1 e a.2.1 a.2.2:=by
 rw[xC];constructor
 .rintro⟨g,c,b⟩;have b:g=some a:=b;subst b;exact ka.1 c
 .rintro⟨e,d⟩;exact⟨some a,ka.2 ⟨e,d⟩,rfl⟩
def abp {q:Nat}{b:C (cG En)}{p:eU}{j:C (U×Int)}(m:mf q b p j)(e:(keys j).Nodup):(b.filterMap id).Nodup:=by
 rw[List.Nodup,List.pairwise_filterMap,r3];intro n o h i k a f r g l;subst l;have c:b[n]? =some (some (a.1,a.2.1,a.2.2)):=by rw[dr h];exact dq some f
 have d:b[o]? =some (some (a.1,a.2.1,a.2.2)):=by rw[dr i];exact dq some g
 have:=m.uniq e c d;omega
def abq {y:Nat}{i:C (cG En)}{x:eU}{w:C (U×Int)}(n:mf y i x w)(e:(keys w).Nodup){es:C En}{h:C U}(q:es.map Prod.fst=h)(s:h.Perm (keys w))(c:∀a∈es,∃u,hZ i a.1 u a.2.1 a.2.2):es.Perm (i.filterMap id):=by
 have r:es.Nodup:=by
  have b:(es.map Prod.fst).Nodup:=by rw[q];exact s.nodup_iff.2 e
  exact(oE.1 b).imp λn m=>n (by rw[m])
 rw[tH r (abp n e)];intro a;rw[LH];refine⟨c a,λ⟨u,f⟩=>?_⟩;have b:a.1∈h:=s.mem_iff.2 ((Cc n).2 ⟨u,a.2.1,a.2.2,f⟩);rw[<-q]at b;obtain⟨v,t,m⟩:=dz.1 b;obtain⟨H,g⟩:=c v t;rw[m]at g;have p:=n.uniq e f g;subst p;have o:i[u]? =some (some (a.1,a.2.1,a.2.2)):=f;have d:i[u]? =some (some (a.1,v.2.1,v.2.2)):=g;rw[o]at d;injection d with j;injection j with j;injection j with _ j;injection j with k l;have:v=a:=by obtain⟨D,E,G⟩:=v;obtain⟨z,A,B⟩:=a;dsimp only at m k l;rw[m,k,l]
 rw[<-this];exact t
def akh {l:eU}(af w:Nat)(E:C (cG En))(j i:Nat)(r:V)(A:O)(D:w<=12)(hr:mX af w E l j i r)(hs:Hl A r):Sr 345 [Z af] A r λag H=>∃es:C En,H=[row ag 302 3 es.length (dn es),r]/\es.Perm (E.filterMap id)/\gd (es.map Prod.fst):=by
 obtain⟨L,rfl,aq,ar,K,v,eV,ad,m,ai,T,rfl,hR,o,n⟩:=hr;have am:=n.len;have an:=o.len;refine dS func345 hs ?_;refine N [0] ?_;refine cL ?_;refine I (gB rfl rfl underlying351) ?_;refine cH [0,9] ?_;refine N [0,3] ?_;refine cC ?_;refine eu (sG af w K v eV E j i ad m) ?_;refine eQ λd=>?_;obtain⟨g,Q,e2⟩:=fs d (q:=1) rfl;subst e2;clear d;refine eL ?_;refine dw (nu m [_,_,_] rfl func356 (by kernel_rfl) (c8 3 rfl) (λA d u=>acb v w T 0 ai m A D o u)) ?_;rintro vk _ w4 ⟨_,rfl,c,rfl,t,X⟩;refine kq λd=>?_;obtain⟨G,R,rfl⟩:=fS d (p:=0) rfl;clear d;have ap:c.length=ai.length:=by rw[t.length_eq,keys,dL]
 refine N [0,3,15,16,17] ?_;refine Y ?_;refine gh 302 3 ?_;refine dB (λP m' H A=>∃(ag:M)(es:C En)(b:C U),m'=[(0,Z af),(3,ag),(15,PA G c.length R),(16,F c.length),(17,F es.length)]/\H=[row ag 302 3 es.length (dn es),row (PA G c.length R) 9 1 c.length (sv c),m,cF af [Z K,Z v,F w,vS g w Q,J j,J i] 414,row (vS g w Q) 302 3 w (fp E),ad]/\P=b.length/\c=es.map Prod.fst++b/\∀ah∈es,∃z,hZ E ah.1 z ah.2.1 ah.2.2) c.length ⟨_,[],c,rfl,rfl,rfl,rfl,by simp⟩ ?_;rintro P _ _ w5 ⟨ag,es,b,rfl,rfl,rfl,f,x⟩;have q:c.length=es.length+b.length:=by rw[f];simp
 refine cC ?_;refine I (gN rfl rfl) ?_;refine cH [0,3,15,16,17,18] ?_;refine Y ?_;refine jc rfl (λp=>?_) (λp=>?_)
 .obtain⟨k,a,rfl⟩:∃k a,b=k::a:=by
   cases b with
   |nil=>have:(es.length:Int)<(c.length:Int):=p;simp at q;omega
   |cons k a=>exact⟨k,a,rfl⟩
  rw[eE]at q;have y:c[es.length]? =some k:=by rw[f];simp
  have W:k∈keys ai:=t.mem_iff.1 (eH y);obtain⟨z,ab,ae,s⟩:=(Cc n).1 W;have hg:=vu o.nd ((n.idx k z).2 ⟨z,ab,ae,rfl,s⟩);have B:=(n.sm z k ab ae s).1;have ao:z<E.length:=(da.1 s).1;refine eQ λd=>?_;obtain⟨gk,al,e⟩:=fs d (q:=1) rfl;cases e;clear d;refine df ?_;refine I (Kz 1 (w:=es.length) rfl rfl underlying264 (by kernel_rfl) rfl) ?_;refine I (DU (k:=.string k) 1 rfl underlying9 rfl rfl (sw Value.string y)) ?_;refine N [0,3,5,15,16,17] ?_;refine iq ?_;refine dw (nu m [_,_,_,_,_] rfl func352 (by kernel_rfl) (c8 2 rfl) (λA d u=>B9 v w T 0 ai m k A B o u)) ?_;rw[hg];rintro _ _ w7 ⟨_,rfl,rfl,rfl⟩;refine N [0,3,6,15,16,17] ?_;refine fw ?_;refine I (Kz 3 (w:=z) rfl rfl underlying203 (by kernel_rfl) rfl) ?_;refine I (Gu (D:=dy (some (k,ab,ae))) 4 rfl underlying302 rfl (by kernel_rfl) rfl (x6 s)) ?_;refine dw (Kf (z:=[_,_,_]) sH rfl rfl rfl (by omega)) ?_;rintro _ _ ak ⟨aj,rfl,rfl⟩;refine dw (BF 2 sH rfl rfl rfl (λA d=>Rd.dM d (l:=0) rfl) (by simp[Value.oneCell']) (by omega) (by omega)) ?_;rintro v2 _ w8 ⟨_,rfl⟩;refine Y ?_;refine fu [2,2,1,1,1,1] ?_;refine cH [0,3,15,16,17] ?_;refine N [0,3,15,16,17] ?_;refine⟨a.length,Fy _,v2,es++[(k,ab,ae)],a,?_,?_,rfl,?_,λah hx=>?_⟩
  .rw[show((es++[(k,ab,ae)]).length:Int)=(es.length:Int)+1 by simp]
  .rw[Po,cX];rfl
  .rw[f];simp
  .rcases dV.1 hx with h|h
   .exact x ah h
   .rw[fI]at h;subst h;exact⟨z,s⟩
 .obtain rfl:b=[]:=by
   cases b with
   |nil=>rfl
   |cons k a=>rw[eE]at q;exact absurd (show(es.length:Int)<(c.length:Int) by omega) p
  rw[eN]at f;refine dI ?_;refine N [2] ?_;refine cK [3,3,3,2,0] ?_;refine dG (d:=[_]) [_,_,_,_] ?_;refine cK [1,0] ?_;refine dP results345 ?_;exact⟨es,rfl,abq n o.nd f.symm t x,by have S:=X;rw[f]at S;exact S⟩
def S7 (b c:Nat)(i:O)(g:b<18446744073709551616):Sn 138 [J b,J c] i λh f=>
 h=.tuple #[J ((b-c:Nat):Int),.bool (decide (c<=b))]/\f=[]:=by
 refine dR func138 hS ?_
 refine N [0,1] ?_
 refine df ?_
 refine I (gN rfl rfl) ?_
 refine cZ (λa=>?_) λa=>?_
 .have e:b<c:=by have:(b:Int)<(c:Int):=a;omega
  refine db results138 ?_;exact⟨by rw[Nat.sub_eq_zero_of_le (by omega),fL (by omega)];rfl,rfl⟩
 .have d:c<=b:=by have:¬(b:Int)<(c:Int):=a;omega
  refine df ?_;refine I (cU (z:=J ((b-c:Nat):Int)) (BT rfl rfl) (by congr 1;omega)) ?_;refine db results138 ?_;exact⟨by rw[gb d];rfl,rfl⟩
def xO (b:C (cG En))(e:Nat)(k f:U)(a g:Nat)(l:M)(i:C (cG En)):Prop:=(∃j:Int,l=PF [oM,F j]/\i=b/\(lC b k/\j=8\/∃h c d,hZ b k h c d/\(f=ByteArray.empty/\j=3\/f≠ByteArray.empty/\((∃h c d,hZ b f h c d)/\j=10\/lC b f/\c+d<a+g/\j=1))))\/(∃h c d,hZ b k h c d/\f≠ByteArray.empty/\lC b f/\a+g<=c+d/\l=PF [gf k c d,F 0]/\i=b.set h (some (f,a,max g (e-a))))
def FJ (k:C (cG En))(g:eU)(a:Nat)(f:U)(c e:Nat)(j:M)(b:eU):Prop:=(∃l:Int,j=PF [oM,F l]/\b=g)\/(∃d h i,hZ k f d h i/\j=PF [gf f h i,F 0]/\b=fW (rem g d) d (c+max e (a-c)))
def akm {l:eU}(ae S:Nat)(s:C (cG En))(a d:Nat)(z E:U)(b f:Nat)(r:V)(A:O)(hk:iN z)(hx:iN E)(ar:b<18446744073709551616)(au:f<18446744073709551616)(ht:wA s a d)(al:∀z i k m,hZ s z i k m->a<=k+m)(hr:mX ae S s l a d r)(hs:Hl A r):Sr 348 [Z ae,.string z,.agg #[.string E,J b,J f]] A r λv H=>∃r' E' l',H=[r']/\mX ae S E' l' a d r'/\xO s a z E b f v E'/\FJ s l a z b f v l':=by
 have y:=hr;obtain⟨L,rfl,aP,aQ,af,X,ag,ai,R,aD,T,rfl,hR,D,B⟩:=hr;have aM:=B.len;have hO:=hR.inv;obtain⟨aS,aT,aq⟩:=id ht;refine hJ func348 hs ?_;refine Mf λG aE=>?_;refine dj [vE,J 0,J 0] λK aF=>?_;refine N [0,1,5,6] ?_;refine cL ?_;refine I (gB rfl rfl underlying351) ?_;refine cH [0,1,5,6,20] ?_;refine cQ ?_;refine cK [2,0,0] ?_;refine eu (sG ae S af X ag s a d ai R) ?_;refine cK [4,4,0,0,0,0] ?_;refine Pw 5 func352 (λA g h=>B9 X S T 0 aD R z A hk D h) ?_;rintro _ _ w3 ⟨rfl,rfl⟩;refine fu [1,1,1,1,1,0] ?_;refine N [0,5,6,8,9] ?_;refine cL ?_;refine I (jl rfl rfl) ?_;refine fP (λu=>?_) λu=>?_
 .have x:lC s z:=by
   rcases B.get D.nd z with⟨_,_,_,_,o⟩|⟨o,_⟩
   .rw[o]at u;cases u
   .exact o
  refine cC ?_;refine I (ee nt) ?_;refine cO 0 λaH=>?_;refine N [6,7] ?_;refine cK [2,2,2,2,0,0] ?_;refine dG (d:=[_,_]) [_,_,_,_] ?_;refine cK [1,1,0] ?_;refine eM ?_;refine⟨_,_,λW t g=>eW results348 (eX (e4 0 rfl underlying302 rfl (by kernel_rfl) rfl) (gg rfl eY)) W t _ g,(fO ..).trans (fO ..),?_⟩;exact⟨_,s,_,rfl,y,.inl ⟨8,rfl,rfl,.inl ⟨x,rfl⟩⟩,.inl ⟨8,rfl,rfl⟩⟩
 .obtain⟨i,k,m,p,hg⟩:∃i k m,hZ s z i k m/\dt aD z=some (i:Int):=by
   rcases B.get D.nd z with o|⟨_,o⟩
   .exact o
   .rw[o]at u;exact absurd rfl u
  rw[hg];have ad:i<s.length:=(da.1 p).1;have aR:=aq i z k m p;have aN:=al z i k m p;have ao:=LB hO.nd ((B.ord i (k+m)).2 ⟨z,k,m,p,rfl⟩);refine eL ?_;refine I (oO rfl rfl) ?_;refine cZ (λQ=>?_) λQ=>?_
  .have q:E=ByteArray.empty:=Q;refine cC ?_;refine I (ee nt) ?_;refine cO 0 λaI=>?_;refine N [6,7] ?_;refine cK [2,2,2,2,0,0] ?_;refine dG (d:=[_,_]) [_,_,_,_] ?_;refine cK [1,1,0] ?_;refine eM ?_;refine⟨_,_,λW t g=>eW results348 (eX (e4 0 rfl underlying302 rfl (by kernel_rfl) rfl) (gg rfl eY)) W t _ g,(fO ..).trans (fO ..),?_⟩;exact⟨_,s,_,rfl,y,.inl ⟨3,rfl,rfl,.inr ⟨i,k,m,p,.inl ⟨q,rfl⟩⟩⟩,.inl ⟨3,rfl,rfl⟩⟩
  .have q:E≠ByteArray.empty:=Q;refine cQ ?_;refine eO 13 [7] [_,_,_,_,_] [_] (cD _) λa2=>?_;refine fw ?_;refine eh rfl (ft R [_,_,_,_,_] func352 (c8 5 rfl) (λA g h=>B9 X S T 0 aD R E A hx D h)) ?_;rintro _ _ w8 ⟨_,rfl,rfl,rfl⟩;refine⟨_,lF,?_⟩;refine fP (λw=>?_) λw=>?_
   .have ah:∃i k m,hZ s E i k m:=by
     rcases B.get D.nd E with⟨i,k,m,o,_⟩|⟨_,o⟩
     .exact⟨i,k,m,o⟩
     .rw[o]at w;cases w
    refine cC ?_;refine I (ee nt) ?_;refine cO 0 λaw=>?_;refine N [6,7] ?_;refine cK [2,2,2,2,0,0] ?_;refine dG (d:=[_,_]) [_,_,_,_] ?_;refine cK [1,1,0] ?_;refine eM ?_;refine⟨_,_,λW t g=>eW results348 (eX (e4 0 rfl underlying302 rfl (by kernel_rfl) rfl) (gg rfl eY)) W t _ g,(fO ..).trans (fO ..),?_⟩;exact⟨_,s,_,rfl,y,.inl ⟨10,rfl,rfl,.inr ⟨i,k,m,p,.inr ⟨q,.inl ⟨ah,rfl⟩⟩⟩⟩,.inl ⟨10,rfl,rfl⟩⟩
   .have x:lC s E:=by
     rcases B.get D.nd E with⟨_,_,_,_,o⟩|⟨o,_⟩
     .rw[o]at w;exact absurd rfl w
     .exact o
    refine Pw 4 func357 (λA g h=>air af S l ai i A hR h) ?_;rintro _ _ aW ⟨rfl,rfl⟩;rw[ao];refine fu [1,1,1,1,0,0] ?_;refine Ku func88 (λA g=>qL b f A ar au) ?_;rintro _ _ aX ⟨rfl,rfl⟩;refine N [0,5,6,8,12,14,15] ?_;refine cQ ?_;refine I (jl rfl rfl) ?_;refine Y ?_;refine lj (H:=2) (A:=decide (((k+m:Nat):Int)<(if b+f<18446744073709551616 then((b+f:Nat):Int)else 18446744073709551615))) 3 [(0,_),(5,_),(6,_),(8,_)] ⟨rfl,rfl,rfl,rfl,trivial⟩ rfl rfl rfl rfl rfl (λak=>?_) (λax=>?_)
    .refine cC ?_;refine dZ rfl rfl (gA rfl rfl) ?_;exact iy
    refine fP (λn=>?_) λn=>?_
    .have am:k+m<b+f:=by
      by_cases o:b+f<18446744073709551616
      .rw[cM o,gb o]at n;have:((k+m:Nat):Int)<((b+f:Nat):Int):=by simpa using n
       omega
      .omega
     refine cC ?_;refine I (ee nt) ?_;refine cO 0 λay=>?_;refine N [6,7] ?_;refine cK [2,2,2,2,0,0] ?_;refine dG (d:=[_,_]) [_,_,_,_] ?_;refine cK [1,1,0] ?_;refine eM ?_;refine⟨_,_,λW t g=>eW results348 (eX (e4 0 rfl underlying302 rfl (by kernel_rfl) rfl) (gg rfl eY)) W t _ g,(fO ..).trans (fO ..),?_⟩;exact⟨_,s,_,rfl,y,.inl ⟨1,rfl,rfl,.inr ⟨i,k,m,p,.inr ⟨q,.inr ⟨x,am,rfl⟩⟩⟩⟩,.inl ⟨1,rfl,rfl⟩⟩
    .have an:b+f<=k+m:=by
      by_cases o:b+f<18446744073709551616
      .rw[cM o,gb o]at n;have:¬((k+m:Nat):Int)<((b+f:Nat):Int):=by simpa using n
       omega
      .rw[fL o]at n;exact absurd rfl n
     refine cQ ?_;refine kB 12 [6] λaG=>?_;refine eL ?_;refine eh rfl (eB func138 (λA g=>S7 a b A (by omega))) ?_;rintro _ _ aY ⟨_,rfl,rfl,rfl⟩;refine⟨_,jQ _ _ _,?_⟩;refine N [0,5,6,8,16,17] ?_;refine N [0,5,6,8,16,88] ?_;refine eS (λm' H w'=>m'=[(0,Z ae),(5,Z G),(6,Z K),(8,F i)]/\H=[cF K [vE,J 0,J 0] 302,cF G [.string E,J b,J ((max f (a-b):Nat):Int)] 302,cF ae [Z af,Z X,F S,ag,J a,J d] 414,row ag 302 3 S (fp s),ai,R]) ?_ ?_
     .refine jc rfl (λab=>?_) (λab=>?_)
      .refine cL ?_;refine I (wR (r:=((max f (a-b):Nat):Int)) rfl rfl (by split<;>omega)) ?_;refine KW 1 λaz=>?_;refine cH [0,5,6,8] ?_;exact⟨rfl,rfl⟩
      .refine kw [0,5,6,8] rfl (iY ?_);have aO:¬b<=a:=ab;exact⟨rfl,by rw[Nat.max_eq_left (by omega)];rfl⟩
     .rintro _ _ aZ ⟨rfl,rfl⟩;refine Y ?_;refine cK [2,2,2,2,0,0] ?_;refine dG (d:=[_,_]) [_,_,_,_] ?_;refine Pw 0 func358 (λA g h=>MD ae S i s a d z k m _ A p y h) ?_;rintro _ _ a0 ⟨rfl,r2,rfl,ap⟩;refine dj [vE,J 0,J 0] λav aA=>?_;refine cO 0 λaB=>?_;refine K3 3 (f:=[_,_,_]) ?_;refine dw (nu r2 [_,_,_] rfl func355 (by kernel_rfl) (c8 1 rfl) (λA g h=>T8 ae S i (s.set i none) a d E b (max f (a-b)) r2 A (gm ad) hx q (λj o' s' P=>by
       by_cases e:i=j
       .subst e;rw[gm ad]at P;cases P
       .rw[fE e]at P;exact x j o' s' P) (by omega) ap h)) ?_
      rintro _ _ a1 ⟨_,rfl,hL⟩;have aj:=hL;obtain⟨_,_,aJ,aK,aL,aU,aV,M2,T2,rfl,_⟩:=hL;refine qh (d:=[_,_,_]) [_,_,_,_] ?_;refine K3 1 (f:=[_,_,_]) ?_;refine cO 2 λaC=>?_;refine N [6,7] ?_;refine cK [2,1,1,0] ?_;refine eM ?_;refine⟨_,_,λW t g=>eW results348 (eX (e4 0 rfl underlying302 rfl (by kernel_rfl) rfl) (gg rfl eY)) W t _ g,((fO ..).trans (fO ..)).trans (fO ..),?_⟩;exact⟨_,(s.set i none).set i (some (E,b,max f (a-b))),_,rfl,⟨_,rfl,aj⟩,.inr ⟨i,k,m,p,q,x,an,rfl,by rw[we]⟩,.inr ⟨i,k,m,p,rfl,rfl⟩⟩
def mf.ep {P:Nat}{r:C (cG En)}{A:eU}{s:C (U×Int)}(g:mf P r A s)(w:IW P A)(n:(keys s).Nodup):A.length=(r.filterMap id).length:=by
 have u:s.Nodup:=(oE.1 n).imp λg f=>g (by rw[f]);have m:(s.map Prod.snd).Nodup:=by
  refine(oE.2 ?_);refine u.imp_of_mem λ{a t} E o v f=>v ?_;obtain⟨Q,S⟩:=a;obtain⟨R,T⟩:=t;obtain⟨d,i,j,rfl,m⟩:=(g.idx Q S).1 E;obtain⟨y,o',s',rfl,b⟩:=(g.idx R T).1 o;have f:(d:Int)=y:=f;obtain rfl:d=y:=by omega
  rw[m]at b;injection b with b;injection b with b;injection b with b _;rw[b]
 have b:(eR A).Perm (s.map Prod.snd):=by
  rw[tH w.nd m];intro z;constructor
  .intro h;obtain⟨⟨e,x⟩,p,f⟩:=dz.1 h;have f:e=z:=f;subst f;have X:=w.kI e h;obtain⟨d,rfl⟩:∃d:Nat,e=d:=⟨e.toNat,by omega⟩;obtain⟨q,i,j,c,_⟩:=(g.ord d x).1 p;exact dz.2 ⟨(q,(d:Int)),(g.idx q d).2 ⟨d,i,j,rfl,c⟩,rfl⟩
  .intro h;obtain⟨⟨q,e⟩,p,f⟩:=dz.1 h;have f:e=z:=f;subst f;obtain⟨d,i,j,rfl,c⟩:=(g.idx q e).1 p;exact dz.2 ⟨((d:Int),i+j),(g.ord d (i+j)).2 ⟨q,i,j,c,rfl⟩,rfl⟩
 have B:((r.filterMap id).map Prod.fst).Nodup:=by
  rw[List.Nodup,oE,List.pairwise_filterMap,r3];intro d y c H W t o x G f;have k:r[d]? =some (some (t.1,t.2.1,t.2.2)):=by rw[dr c];exact dq some o
  have l:r[y]? =some (some (t.1,x.2.1,x.2.2)):=by rw[dr H,f];exact dq some G
  have:=g.uniq n k l;omega
 have D:((r.filterMap id).map Prod.fst).Perm (keys s):=by
  rw[tH B n];intro q;rw[Cc g];constructor
  .intro K;obtain⟨ab,L,rfl⟩:=dz.1 K;obtain⟨d,c⟩:=LH.1 L;exact⟨d,ab.2.1,ab.2.2,c⟩
  .rintro⟨d,i,j,c⟩;exact dz.2 ⟨(q,i,j),LH.2 ⟨d,c⟩,rfl⟩
 have k:=b.length_eq;have l:=D.length_eq;simp only[eR,keys,dL]at k l;omega
def fz.BA {p:dX}{q:fR}{e:C M}{r:O}{n:Nat->Prop}{f g:M->C V->Prop}(s:fz p q e r n f)(l:∀d o,f d o->∃i b,o.Perm (i++b)/\g d (cz i::b)):fz p q e r n g:=nY s λ_ _ ⟨d,h,j,k,m⟩=>by obtain⟨i,b,a,c⟩:=l d h m;exact⟨d,_,j,cI.cz.1 (k.perm a),c⟩
def iU (c:Nat)(a:dk)(b:Nat):V:=cF c [.iface a (Z b)] 358
section
variable{b:dk}{f:fR}{fn:Func}{e d:Nat}{a:V}{c:O}
def US {i:M->C V->Prop}(m:∀c,(method (prog.types.size+Made.depth) b (Z d) "Untracked").run prog c=.ok (f,Z d) c)(l:prog.funcs[f]? =some fn)(j:(fn.body.isNone,fn.name== "runtime.NumGoroutine")=(false,false))(k:∀c,Hl c a->Sr f [Z d] c a i)(n:Hl c (cz [iU e b d,a])):Sr 176 [Z e] c (cz [iU e b d,a]) λp q=>∃g,q=g++[iU e b d]/\i p g:=by refine dS func176 n ?_;refine eu (d:=[]) [iU e b d,a] ?_;refine N [0] ?_;refine cL ?_;refine I (gB rfl rfl underlying289) ?_;refine cB ?_;refine dw (x5 a [_] rfl m rfl l j (c8 1 rfl) (λc r h=>k c h)) ?_;rintro p _ s ⟨g,rfl,o⟩;refine db results176 ?_;exact⟨g,rfl,o⟩
def UC {i:M->C V->Prop}(m:∀c,(method (prog.types.size+Made.depth) b (Z d) "Entries").run prog c=.ok (f,Z d) c)(l:prog.funcs[f]? =some fn)(j:(fn.body.isNone,fn.name== "runtime.NumGoroutine")=(false,false))(k:∀c,Hl c a->Sr f [Z d] c a i)(n:Hl c (cz [iU e b d,a])):Sr 214 [Z e] c (cz [iU e b d,a]) λp q=>∃g,q=g++[iU e b d]/\i p g:=by refine dS func214 n ?_;refine eu (d:=[]) [iU e b d,a] ?_;refine N [0] ?_;refine cL ?_;refine I (gB rfl rfl underlying289) ?_;refine cB ?_;refine dw (x5 a [_] rfl m rfl l j (c8 1 rfl) (λc r h=>k c h)) ?_;rintro p _ s ⟨g,rfl,o⟩;refine db results214 ?_;exact⟨g,rfl,o⟩
def Uq {i:M->C V->Prop}{p:U}{r:Nat}(m:∀c,(method (prog.types.size+Made.depth) b (Z d) "Add").run prog c=.ok (f,Z d) c)(l:prog.funcs[f]? =some fn)(j:(fn.body.isNone,fn.name== "runtime.NumGoroutine")=(false,false))(k:∀c,Hl c a->Sr f [Z d,.string p,J r] c a i)(n:Hl c (cz [iU e b d,a])):Sr 215 [Z e,.string p,J r] c (cz [iU e b d,a]) λq s=>∃g,s=g++[iU e b d]/\i q g:=by refine hJ func215 n ?_;refine eu (d:=[]) [iU e b d,a] ?_;refine N [0,1,2] ?_;refine cL ?_;refine I (gB rfl rfl underlying289) ?_;refine cB ?_;refine dw (x5 a [_] rfl m rfl l j (c8 1 rfl) (λc t h=>k c h)) ?_;rintro q _ u ⟨g,rfl,o⟩;refine db results215 ?_;exact⟨g,rfl,o⟩
def UR {o:U->Nat->Nat->Bool->V->Prop}{B:U}(v:∀c,(method (prog.types.size+Made.depth) b (Z d) "Take").run prog c=.ok (f,Z d) c)(u:prog.funcs[f]? =some fn)(s:(fn.body.isNone,fn.name== "runtime.NumGoroutine")=(false,false))(t:∀c,Hl c a->Sr f [Z d,.string B] c a λy p=>∃i j k h g,y=PF [gf i j k,.bool h]/\p=[g]/\o i j k h g)(w:Hl c (cz [iU e b d,a])):Sr 219 [Z e,.string B] c (cz [iU e b d,a]) λy p=>∃i j k h g,y=PF [gf i j k,.bool h]/\p=[cz [iU e b d,g]]/\o i j k h g:=by refine dR func219 w ?_;refine eu (d:=[]) [iU e b d,a] ?_;refine NV [vE,J 0,J 0] λq z=>?_;refine N [0,1,4] ?_;refine cL ?_;refine I (gB rfl rfl underlying289) ?_;refine cB ?_;refine dw (x5 a [_,_] rfl v rfl u s (c8 2 rfl) (λc m n=>t c n)) ?_;rintro _ _ D ⟨_,rfl,i,j,k,h,g,rfl,rfl,x⟩;refine KW 1 λA=>?_;refine N [4,5] ?_;refine cK [2,0,0] ?_;refine dG (d:=[_]) [iU e b d,g] ?_;refine cK [1,0] ?_;refine eM ?_;refine⟨_,_,λl r m=>eW results219 (eX (e4 0 rfl underlying302 rfl (by kernel_rfl) rfl) (gg rfl eY)) l r _ m,fO ..,?_⟩;exact⟨i,j,k,h,g,rfl,rfl,x⟩
def UQ {s:U->Nat->Nat->Int->V->Prop}{K H:U}{o p:Nat}(y:∀c,(method (prog.types.size+Made.depth) b (Z d) "Swap").run prog c=.ok (f,Z d) c)(x:prog.funcs[f]? =some fn)(v:(fn.body.isNone,fn.name== "runtime.NumGoroutine")=(false,false))(w:∀c,Hl c a->Sr f [Z d,.string K,.agg #[.string H,J o,J p]] c a λB t=>∃i j k g h,B=PF [gf i j k,F g]/\t=[h]/\s i j k g h)(z:Hl c (cz [iU e b d,a])):Sr 223 [Z e,.string K,.agg #[.string H,J o,J p]] c (cz [iU e b d,a]) λB t=>∃i j k g h,B=PF [gf i j k,F g]/\t=[cz [iU e b d,h]]/\s i j k g h:=by refine hJ func223 z ?_;refine eu (d:=[]) [iU e b d,a] ?_;refine Mf λm D=>?_;refine dj [vE,J 0,J 0] λn E=>?_;refine N [0,1,5,6] ?_;refine cL ?_;refine I (gB rfl rfl underlying289) ?_;refine cH [0,1,5,6,9] ?_;refine cQ ?_;refine mm 11 [6,9] [(cF m [.string H,J o,J p] 302,none),(iU e b d,none)] [cF n [vE,J 0,J 0] 302,a] (de [1,1] _ rfl) λL=>?_;refine df ?_;refine ew rfl (di 0 (b:=[_,_,_])) ?_;refine gY rfl (x5 a [_,_,_] rfl y rfl x v (c8 3 rfl) (λc q r=>w c r)) ?_;rintro _ _ Q ⟨_,rfl,i,j,k,g,h,rfl,rfl,A⟩;refine⟨_,de [1,1] _ rfl,?_⟩;refine cC ?_;refine jC rfl (gD 3) ?_;rintro _ _ G rfl;refine⟨_,cD _,?_⟩;refine Y ?_;refine sQ [6,7] [1,1,1] ?_;refine dG (d:=[_]) [iU e b d,h] ?_;refine cK [1,0] ?_;refine eM ?_;refine⟨_,_,λl u q=>eW results223 (eX (e4 0 rfl underlying302 rfl (by kernel_rfl) rfl) (gg rfl eY)) l u _ q,fO ..,?_⟩;exact⟨i,j,k,g,h,rfl,rfl,A⟩
end
def si:cG En->Nat
 |none=>1
 |some _=>0
def fr (a:C (cG En)):Nat:=(a.map si).sum
def GC {a:C (cG En)}{b:Nat}{c:cG En}(d:cG En)(e:a[b]? =some c):fr (a.set b d)+si c=fr a+si d:=by obtain⟨f,g,rfl,rfl⟩:=Aa e;rw[zX];simp only[fr,dE,dA,mV,iE];omega
def abx (a:C (cG En)):fr a+(a.filterMap id).length=a.length:=by
 induction a with
 |nil=>rfl
 |cons c a b=>
  cases c with
  |none=>simp only[fr,si,dA,iE,List.filterMap_cons,id,eE]at b|-;omega
  |some d=>simp only[fr,si,dA,iE,List.filterMap_cons,id,eE]at b|-;omega
def Qn {c:C (cG En)}(i:∀g<c.length,∃j,c[g]? =some (some j)):fr c=0:=by
 have e:∀d∈c,si d=0:=λd b=>by obtain⟨g,f⟩:=ka.1 b;obtain⟨j,a⟩:=i g (da.1 f).1;rw[f]at a;injection a with a;rw[a];rfl
 clear i;induction c with
 |nil=>rfl
 |cons d c h=>rw[fr,dA,iE,e d (dQ ..),dU];exact h λd b=>e d (dN _ b)
def aaz {b:C (cG En)}{d:Nat}(g:∀a,some a∈b->d<=a.2.1+a.2.2):b.length*d<=qz b+fr b*d:=by
 induction b with
 |nil=>simp
 |cons i b f=>
  have c:=f λa e=>g a (dN _ e);cases i with
  |none=>simp only[qz,fr,si,pW,dA,iE,eE]at c|-;rw[lT,mu];omega
  |some a=>have h:=g a (dQ ..);simp only[qz,fr,si,pW,dA,iE,eE]at c|-;rw[lT,dU];omega
structure mo (c:C (cG En))(a b:Nat):Prop where
 sum:qz c+fr c*a<=b
 ge:∀g f d e,hZ c g f d e->a<=d+e
def mo.new (b:Nat):mo (List.replicate b none) 0 0:=⟨by rw[PD];simp,λd c e f a=>absurd a D4⟩
def mo.LD {f:C (cG En)}{b a:Nat}(g:mo f b a):f.length*b<=a:=gF (aaz λe d=>by obtain⟨h,c⟩:=ka.1 d;exact g.ge e.1 h e.2.1 e.2.2 c) g.sum
def mo.set {i:C (cG En)}{b c k:Nat}{x:U}{o p d e:Nat}{j:U}(n:mo i b c)(g:hZ i x k o p)(u:b<=d+e){a:Nat}(v:d+e+c<=o+p+a):mo (i.set k (some (j,d,e))) b a:=by
 have q:=yb (some (j,d,e)) g;have r:=GC (some (j,d,e)) g;simp only[pW,si]at q r;have s:fr (i.set k (some (j,d,e)))=fr i:=by omega
 refine⟨?_,λy w l m h=>?_⟩
 .rw[s];have:=n.sum;omega
 .rcases sr g h with⟨_,f⟩|⟨_,h⟩
  .injection f with _ f;injection f with f t;omega
  .exact n.ge y w l m h
def mo.drop {f:C (cG En)}{c b e:Nat}{p:U}{q r:Nat}(l:mo f c b)(d:hZ f p e q r):mo (f.set e none) c b:=by
 have s:=yb none d;have t:=GC none d;simp only[pW,si]at s t;have m:e<f.length:=(da.1 d).1;have u:=l.ge p e q r d;have k:fr (f.set e none)=fr f+1:=by omega
 refine⟨?_,λo n g h i=>?_⟩
 .rw[k,lT];have:=l.sum;omega
 .have j:e≠n:=λk=>by subst k;have a:(f.set e none)[e]? =some (some (o,g,h)):=i;rw[gm m]at a;cases a
  have a:(f.set e none)[n]? =some (some (o,g,h)):=i;rw[fE j]at a;exact l.ge o n g h a
def mo.add {W:Nat}{p r:C (cG En)}{f a e c w:Nat}{k:U}{E:Int}(q:mo p f e)(ab:p.length=W)(H:qO W p f e k w E r a c):mo r a c:=by
 rcases H with⟨_,rfl,rfl,rfl,_⟩|⟨_,_,_,_,rfl,⟨L,o,s,n,rfl,rfl⟩|⟨T,z,t,⟨S,g,K⟩,rfl⟩⟩
 .exact q
 .have:=q.ge k L o s n;exact q.set n (by omega) (by omega)
 .have X:=yb (some (k,w,a)) g;have P:=GC (some (k,w,a)) g;simp only[pW,si]at X P;rcases K with⟨rfl,rfl,_⟩|⟨m,k0,Q,R,j,rfl,rfl,v⟩
  .refine⟨?_,λA y h i d=>?_⟩
   .have u:=q.sum;rw[show fr t=fr (t.set z (some (k,w,a)))+1 by omega,lT]at u;omega
   .rcases sr g d with⟨_,b⟩|⟨_,d⟩
    .injection b with _ b;injection b with b G;omega
    .exact q.ge A y h i d
  .have h0:=Qn (c:=p) λL n=>m L (by omega);have B:=yb none j;have D:=GC none j;simp only[pW,si]at B D;refine⟨?_,λA y h i d=>?_⟩
   .rw[show fr ((p.set z none).set z (some (k,w,Q+R)))=0 by omega];have u:=q.sum;omega
   .rcases sr g d with⟨_,b⟩|⟨x,d⟩
    .injection b with _ b;injection b with b G;omega
    .have l:(p.set z none)[y]? =some (some (A,h,i)):=d;rw[fE (λE=>x E.symm)]at l;exact v y A h i l
def mo.tok {c:C (cG En)}{a b:Nat}(g:mo c a b)(e:1<=c.length)(f:b<=9223372036854775808):wA c a b:=by
 refine⟨f,?_,λk l m n d=>?_⟩
 .have i:=g.LD;have j:1*a<=c.length*a:=j7 _ e;omega
 .have h:=yb none d;simp only[pW]at h;have:=g.sum;omega
def mo.swap {e c:C (cG En)}{a b:Nat}{j o:U}{g h:Nat}{n:M}(f:mo e a b)(hS:xO e a j o g h n c):mo c a b/\c.length=e.length:=by
 rcases hS with⟨_,_,rfl,_⟩|⟨k,l,m,d,_,_,i,_,rfl⟩
 .exact⟨f,rfl⟩
 .have:=f.ge j k l m d;exact⟨f.set d (by omega) (by omega),fy⟩
def mW (c:C (cG En))(a:Nat):Prop:=∀e d f b,hZ c e d f b->b<=a
def mW.new (b:Nat):mW (List.replicate b none) 0:=λd c e f a=>absurd a D4
inductive TS
 |sv (d:C (cG En)) (f:eU) (b a:Nat)
 |fr (e:UM) (c a:Nat)
def TS.base:TS->Nat
 |.sv _ _ a _=>a
 |.fr _ b _=>b
def TS.total:TS->Nat
 |.sv _ _ _ a=>a
 |.fr _ _ a=>a
def TS.new (a b:Nat):TS:=if a=1 then .sv (List.replicate b none) [] 0 0 else .fr [] 0 0
def mA (h g:Nat):TS->V->Prop
 |.sv i k c a,f=>∃d b,f=cz [iU h 351 d,b]/\mX d g i k c a b
 |.fr j e a,f=>∃d b,f=cz [iU h 354 d,b]/\qP d g j e a b
def mY (d:Nat):TS->Prop
 |.sv e _ b a=>1<=d/\e.length=d/\mo e b a/\mW e b/\a<=9223372036854775808
 |.fr f c a=>1<=d/\nG d f c a
def oa (d:Nat):TS->Prop
 |.sv e _ b a=>1<=d/\e.length=d/\mo e b a/\a<=9223372036854775808
 |.fr f c a=>1<=d/\nG d f c a
def Az (l:Nat)(j:U)(m:Nat)(i:Int):TS->TS->Prop
 |.sv n p d b,.sv f k c a=>qO l n d b j m i f c a/\IN l n p d j m i f k c
 |.fr o g b,.fr h e a=>nX l o g b j m i h e a
 |_,_=>False
def qk (c b:U)(e f:Nat)(a:Bool):TS->Prop
 |.sv g _ _ _=>(a=true->∃i,hZ g c i e f/\b=c)/\(a=false->lC g c/\e=0/\f=0/\b=ByteArray.empty)
 |.fr h d _=>(a=true->dt h c=some e/\f=d/\b=c)/\(a=false->dt h c=none/\e=0/\f=0/\b=ByteArray.empty)
def s4 (j:U)(q:M):TS->TS->Prop
 |.sv i m d b,.sv f h c a=>c=d/\a=b/\((∃l n o,hZ i j l n o/\f=i.set l none/\h=rem m l/\q=PF [gf j n o,.bool true])\/(lC i j/\f=i/\h=m))
 |.fr p g b,.fr k e a=>e=g/\a=b/\k=gX p j
 |_,_=>False
def xP (k o:U)(g h:Nat)(m:M):TS->TS->Prop
 |.sv n q c b,.sv i l d a=>d=c/\a=b/\xO n c k o g h m i/\FJ n q c k g h m l
 |.fr p e b,.fr j f a=>f=e/\a=b/\vO p e k o g h m j
 |_,_=>False
def tA (es:C En):TS->Prop
 |.sv d _ _ _=>es.Perm (d.filterMap id)/\gd (es.map Prod.fst)
 |.fr c b _=>∃a:C U,a.Perm (keys c)/\gd a/\es=a.map (rk c b)
def TS.len:TS->Nat
 |.sv a _ _ _=>(a.filterMap id).length
 |.fr b _ _=>b.length
section
variable{b:Nat}{c a:TS}{k e:U}{v:Nat}{d:Int}
def mY.new (f b:Nat)(g:1<=b):mY b (TS.new f b):=by
 unfold TS.new;split
 .exact⟨g,o3,mo.new b,mW.new b,by omega⟩
 .exact⟨g,nG.new b⟩
def sR.G7 {b l:Nat}{i h:C (cG En)}{g f:Nat}(j:sR b i g l h f):h.length=i.length:=by
 rcases j with⟨_,_,⟨rfl,_⟩|⟨_,_,_,_,_,rfl,_⟩⟩
 .rfl
 .exact fy
def qO.G7 {b:Nat}{n j:C (cG En)}{i h g f q:Nat}{k:U}{d:Int}(p:qO b n i g k q d j h f):j.length=n.length/\(f<=9223372036854775808\/f=g):=by
 rcases p with⟨_,rfl,_,rfl,_⟩|⟨_,_,_,l,rfl,⟨r,t,u,_,rfl,_⟩|⟨_,s,o,m,rfl⟩⟩
 .exact⟨rfl,.inr rfl⟩
 .exact⟨fy,.inl l⟩
 .exact⟨by rw[fy];exact m.G7,.inl l⟩
def mY.j (g:mY b c):oa b c:=by
 cases c with
 |sv j m h f=>exact⟨g.1,g.2.1,g.2.2.1,g.2.2.2.2⟩
 |fr l i f=>exact g
def oa.new (f b:Nat)(g:1<=b):oa b (TS.new f b):=(mY.new f b g).j
def oa.add (m:oa b c)(f:Az b k v d c a):oa b a:=by
 cases c with
 |sv y A j h=>
  cases a with
  |sv r x i g=>obtain⟨n,o,p,t⟩:=m;obtain⟨u,w⟩:=f.1.G7;exact⟨n,by omega,p.add o f.1,by omega⟩
  |fr _ _ _=>cases f
 |fr z q h=>
  cases a with
  |sv _ _ _ _=>cases f
  |fr s l g=>exact⟨m.1,m.2.add f⟩
def oa.take {x:M}(q:oa b c)(g:s4 k x c a):oa b a:=by
 cases c with
 |sv y B o h=>
  cases a with
  |sv t w n f=>
   obtain⟨i,j,l,m⟩:=q;obtain⟨rfl,rfl,⟨A,D,E,r,rfl,_⟩|⟨_,rfl,_⟩⟩:=g
   .exact⟨i,by rw[fy];exact j,l.drop r,m⟩
   .exact⟨i,j,l,m⟩
  |fr _ _ _=>cases g
 |fr z s h=>
  cases a with
  |sv _ _ _ _=>cases g
  |fr u p f=>obtain⟨rfl,rfl,rfl⟩:=g;exact⟨q.1,q.2.del⟩
def oa.swap {r s:Nat}{A:M}(m:oa b c)(hS:xP k e r s A c a):oa b a:=by
 cases c with
 |sv B E j g=>
  cases a with
  |sv u z i f=>obtain⟨n,x,o,p⟩:=m;obtain⟨rfl,rfl,h,_⟩:=hS;obtain⟨q,y⟩:=o.swap h;exact⟨n,by omega,q,p⟩
  |fr _ _ _=>cases hS
 |fr D t g=>
  cases a with
  |sv _ _ _ _=>cases hS
  |fr w l f=>obtain⟨rfl,rfl,h⟩:=hS;exact⟨m.1,m.2.swap h⟩
def xO.form {o g:C (cG En)}{f l m:Nat}{n:M}(p:xO o f k e l m n g):∃(h:U)(i j:Nat)(d:Int),n=PF [gf h i j,F d]:=by
 rcases p with⟨d,rfl,_⟩|⟨s,q,r,_,_,_,_,rfl,_⟩
 .exact⟨ByteArray.empty,0,0,d,rfl⟩
 .exact⟨k,q,r,0,rfl⟩
def vO.abu {o g:UM}{f l m:Nat}{n:M}(p:vO o f k e l m n g):∃(h:U)(i j:Nat)(d:Int),n=PF [gf h i j,F d]:=by
 rcases p with⟨d,rfl,_⟩|⟨q,_,_,_,_,rfl,_⟩
 .exact⟨ByteArray.empty,0,0,d,rfl⟩
 .exact⟨k,q,f,0,rfl⟩
end
section
variable{c b:Nat}{d:TS}{e:V}{a:O}
def akG (E:U)(G:Nat)(u:b<=12)(z:iN E)(D:G<18446744073709551616)(y:oa b d)(A:mA c b d e)(B:Hl a e):
 Sr 215 [Z c,.string E,J G] a e λT X=>∃h w k,T=F h/\X=[k]/\mA c b w k/\Az b E G h d w:=by
 cases d with
 |sv W l q j=>obtain⟨g,k,rfl,m⟩:=A;obtain⟨h1,h2,L,Q⟩:=y;refine(Uq (f:=344) (λa=>by kernel_rfl) func344 (by kernel_rfl) (λa t=>akg g b W q j E G k a z D (L.tok (by omega) Q) m t) B).BA ?_;rintro T _ ⟨_,rfl,h,H,S,p,i,o,v,rfl,n,s,R⟩;exact⟨[iU c _ g,o],[],List.Perm.swap ..,h,.sv H S p i,_,v,rfl,⟨g,o,rfl,n⟩,s,R⟩
 |fr P x j=>obtain⟨g,k,rfl,m⟩:=A;refine(Uq (f:=389) (λa=>by kernel_rfl) func389 (by kernel_rfl) (λa t=>abz g b P x j E G k a u z D y.2.ok m t) B).BA ?_;rintro T _ ⟨_,rfl,h,K,r,i,o,v,rfl,n,s⟩;exact⟨[iU c _ g,o],[],List.Perm.swap ..,h,.fr K r i,_,v,rfl,⟨g,o,rfl,n⟩,s⟩
def ali (s:U)(K:iN s)(L:mA c b d e)(Q:Hl a e):
 Sr 219 [Z c,.string s] a e λR X=>∃j o p i G t,R=PF [gf j o p,.bool i]/\X=[t]/\mA c b G t/\qk s j o p i d/\s4 s (PF [gf j o p,.bool i]) d G:=by
 cases d with
 |sv D W m g=>
  obtain⟨h,t,rfl,u⟩:=L;refine(UR (o:=λj o p i l=>∃q r,mX h b q r m g l/\qk s j o p i (.sv D W m g)/\((∃T v w,hZ D s T v w/\q=D.set T none/\r=rem W T/\Value.tuple [gf j o p,.bool i].toArray=Value.tuple [gf s v w,.bool true].toArray)\/(lC D s/\q=D/\r=W))) (f:=349) (λa=>by kernel_rfl) func349 (by kernel_rfl) (λa z=>(akn h b D m g s t a K u z).mono ?_) Q).mono ?_
  .rintro R _ ⟨S,l,q,r,rfl,k,x⟩;obtain⟨j,v,w,i,rfl,B,A⟩:=S.form;exact⟨j,v,w,i,l,rfl,rfl,q,r,k,⟨B,A⟩,x⟩
  .rintro R _ ⟨j,v,w,i,l,rfl,rfl,q,r,k,y,x⟩;exact⟨j,v,w,i,.sv q r m g,_,rfl,rfl,⟨h,l,rfl,k⟩,y,rfl,rfl,x⟩
 |fr E n g=>
  obtain⟨h,t,rfl,u⟩:=L;refine(UR (o:=λj o p i l=>qP h b (gX E s) n g l/\qk s j o p i (.fr E n g)) (f:=394) (λa=>by kernel_rfl) func394 (by kernel_rfl) (λa z=>(abF h b E n g s t a K u z).mono ?_) Q).mono ?_
  .rintro R _ ⟨rfl,l,rfl,k⟩;obtain⟨j,v,w,i,H,B,A⟩:=KI E n s;exact⟨j,v,w,i,l,H,rfl,k,B,A⟩
  .rintro R _ ⟨j,v,w,i,l,rfl,rfl,k,y⟩;exact⟨j,v,w,i,.fr (gX E s) n g,_,rfl,rfl,⟨h,l,rfl,k⟩,y,rfl,rfl,rfl⟩
def alh (z G:U)(p q:Nat)(Q:iN z)(T:iN G)(W:p<18446744073709551616)(X:q<18446744073709551616)(hI:oa b d)(R:mA c b d e)(S:Hl a e):
 Sr 223 [Z c,.string z,.agg #[.string G,J p,J q]] a e λP H=>∃j r s g K x,P=PF [gf j r s,F g]/\H=[x]/\mA c b K x/\xP z G p q (PF [gf j r s,F g]) d K:=by
 cases d with
 |sv ab l k h=>
  obtain⟨i,x,rfl,y⟩:=R;obtain⟨h1,h2,L,h5⟩:=hI;refine(UQ (s:=λj r s g n=>∃u w,mX i b u w k h n/\xO ab k z G p q (PF [gf j r s,F g]) u/\FJ ab l k z p q (PF [gf j r s,F g]) w) (f:=348) (λa=>by kernel_rfl) func348 (by kernel_rfl) (λa B=>(akm i b ab k h z G p q x a Q T W X (L.tok (by omega) h5) L.ge y B).mono ?_) S).mono ?_
  .rintro P _ ⟨n,u,w,rfl,m,o,A⟩;obtain⟨j,D,E,g,rfl⟩:=o.form;exact⟨j,D,E,g,n,rfl,rfl,u,w,m,o,A⟩
  .rintro P _ ⟨j,D,E,g,n,rfl,rfl,u,w,m,o,A⟩;exact⟨j,D,E,g,.sv u w k h,_,rfl,rfl,⟨i,n,rfl,m⟩,rfl,rfl,o,A⟩
 |fr ad t h=>
  obtain⟨i,x,rfl,y⟩:=R;refine(UQ (s:=λj r s g n=>∃v,qP i b v t h n/\vO ad t z G p q (PF [gf j r s,F g]) v) (f:=393) (λa=>by kernel_rfl) func393 (by kernel_rfl) (λa B=>(abE i b ad t h z G p q x a Q T y B).mono ?_) S).mono ?_
  .rintro P _ ⟨n,v,rfl,m,o⟩;obtain⟨j,D,E,g,rfl⟩:=o.abu;exact⟨j,D,E,g,n,rfl,rfl,v,m,o⟩
  .rintro P _ ⟨j,D,E,g,n,rfl,rfl,v,m,o⟩;exact⟨j,D,E,g,.fr v t h,_,rfl,rfl,⟨i,n,rfl,m⟩,rfl,rfl,o⟩
def alm (o:mA c b d e)(p:Hl a e):
 Sr 176 [Z c] a e λu r=>u=J (d.base:Nat)/\r=[e]:=by
 cases d with
 |sv q v k h=>obtain⟨g,j,rfl,i⟩:=o;refine(US (f:=351) (λa=>by kernel_rfl) func351 (by kernel_rfl) (λa l=>T9 g b q k h j a i l) p).BA ?_;rintro t _ ⟨_,rfl,m,rfl⟩;exact⟨[iU c _ g,j],[],List.Perm.swap ..,m,rfl⟩
 |fr s n h=>obtain⟨g,j,rfl,i⟩:=o;refine(US (f:=396) (λa=>by kernel_rfl) func396 (by kernel_rfl) (λa l=>Qs g b s n h j a i l) p).BA ?_;rintro t _ ⟨_,rfl,m,rfl⟩;exact⟨[iU c _ g,j],[],List.Perm.swap ..,m,rfl⟩
def ak2 (i:b<=12)(q:mA c b d e)(r:Hl a e):
 Sr 214 [Z c] a e λz x=>∃es:C En,x=[e,row z 302 3 es.length (dn es)]/\tA es d:=by
 cases d with
 |sv w A m h=>obtain⟨g,k,rfl,j⟩:=q;refine(UC (f:=345) (λa=>by kernel_rfl) func345 (by kernel_rfl) (λa n=>akh g b w m h k a i j n) r).BA ?_;rintro y _ ⟨_,rfl,es,rfl,t,u⟩;exact⟨[iU c _ g,k],[_],de [2,1] _ rfl,es,rfl,t,u⟩
 |fr v l h=>obtain⟨g,k,rfl,j⟩:=q;refine(UC (f:=390) (λa=>by kernel_rfl) func390 (by kernel_rfl) (λa n=>abB g b v l h k a i j n) r).BA ?_;rintro y _ ⟨_,rfl,s,o,p,rfl⟩;exact⟨[iU c _ g,k],[_],de [2,1] _ rfl,s.map (rk v l),rfl,s,o,p,rfl⟩
end
def Oc (a:dk)(b:cG Addr)(c:O):(Instr.build 358 [(0,.iface a (.pointer b))].toArray).run prog c=.ok (PE [.iface a (.pointer b)]) c:=by kernel_rfl
def ak8 (a g:Nat)(k:O)(n:a=1\/a=2)(l:1<=g)(m:g<=64):Sn 162 [F a,F g] k λu p=>∃j b,u=PF [Z j,F 0]/\p=[b]/\mA j g (TS.new a g) b:=by
 refine dR func162 hS ?_;refine N [0,1] ?_;refine N [0,1,6] ?_;refine N [0,1,6] ?_;refine N [1,6,8] ?_;refine eS (λs p v=>∃(f:Nat)(b:V)(h:dk),s=[(6,.iface h (Z f)),(7,F 0)]/\p=[b]/\∀j,mA j g (TS.new a g) (cz [iU j h f,b])) ?_ ?_
 .refine cQ ?_;refine I (e9 rfl rfl) ?_;refine cZ (λe=>?_) λe=>?_
  .have i:a=1:=by have:(a:Int)=1:=e;omega
   refine Ku func208 (λk r=>T7 g k l m) ?_;rintro _ _ t ⟨f,b,rfl,rfl,c⟩;refine cC ?_;refine I (BP rfl underlying351 rfl) ?_;refine N [6,7] ?_;refine⟨f,b,_,rfl,rfl,λj=>?_⟩;rw[TS.new,cM i];exact⟨f,b,rfl,c⟩
  .have i:a=2:=by have:¬(a:Int)=1:=e;omega
   refine cC ?_;refine I (e9 rfl rfl) ?_;refine N [1,6,17] ?_;refine jc rfl (λ_=>?_) (λq=>absurd (show(a:Int)=2 by omega) q);refine Ku func209 (λk r=>Qr g k l m) ?_;rintro _ _ t ⟨f,b,rfl,rfl,c⟩;refine cC ?_;refine I (BP rfl underlying354 rfl) ?_;refine N [6,7] ?_;refine⟨f,b,_,rfl,rfl,λj=>?_⟩;rw[TS.new,cJ (by omega)];exact⟨f,b,rfl,c⟩
 .rintro _ _ w ⟨f,b,h,rfl,rfl,c⟩;refine cL ?_;refine I (jt rfl rfl) ?_;refine cH [6,7,26] ?_;refine jc rfl (λq=>absurd rfl q) (λ_=>?_);refine cL ?_;refine I (ee (λk=>Oc _ _ k)) ?_;refine dK λd o=>?_;refine N [4,5] ?_;refine dG (d:=[]) [iU d h f,b] ?_;refine dP results162 ?_;exact⟨d,_,rfl,rfl,c _⟩
def ep (a:En):Nat:=a.2.1+a.2.2
def m7:C En->En->C En
 |[],a=>[a]
 |b::c,a=>if ep b<=ep a then b::m7 c a else a::b::c
def gy (a:C En):C En:=a.foldl m7 []
def iT (b:C En)(a:U):C En:=b.filter λc=> !decide (c.1=a)
def CO (c:C En):Prop:=c.Pairwise λa b=>ep a<=ep b
def ug (a:C En)(b:En):gy (a++[b])=m7 (gy a) b:=by rw[gy,uK];rfl
def QU (a:C En)(c:En):(m7 a c).Perm (c::a):=by
 induction a with
 |nil=>exact cD _
 |cons d a b=>
  rw[m7];split
  .exact(b.cons d).trans (List.Perm.swap ..)
  .exact cD _
def acn {d:C En}(i:En)(h:CO d):CO (m7 d i):=by
 induction d with
 |nil=>exact r4 ..
 |cons j d f=>
  obtain⟨b,e⟩:=jD.1 h;rw[m7];split
  .rename_i c;refine jD.2 ⟨λg a=>?_,f e⟩;rcases dh.1 ((QU d i).mem_iff.1 a)with rfl|a
   .exact c
   .exact b g a
  .rename_i c;refine jD.2 ⟨λg a=>?_,h⟩;rcases dh.1 a with rfl|a
   .omega
   .have:=b g a;omega
def Qm:∀(b a:C En),(b.foldl m7 a).Perm (a++b)
 |[],a=>by simp
 |c::b,a=>by rw[oZ];refine(Qm b _).trans ?_;refine((QU a c).append_right b).trans ?_;exact eg.symm
def pg (a:C En):(gy a).Perm a:=(Qm a []).trans (cD _)
def Ms {b:C En->Prop}(h0:b [])(d:∀a f,b a->b (a++[f]))(a:C En):b a:=by
 have:∀c:C En,b c.reverse:=by
  intro c;induction c with
  |nil=>exact h0
  |cons f c e=>rw[C1];exact d _ _ e
 have g:=this a.reverse
 rwa [C3]at g
def acD (a:C En):CO (gy a):=Ms (b:=λa=>CO (gy a)) List.Pairwise.nil (λa c b=>by rw[ug];exact acn c b) a
def HL {c:C En}{b:U}(e:b∉cE c):iT c b=c:=by refine sW.2 λf a=>?_;have:f.1≠b:=λd=>e (d▸x7 a);simp[this]
def aij {a:C En}{b:En}(d:b.1∉cE a):iT (m7 a b) b.1=a:=by
 induction a with
 |nil=>simp[m7,iT]
 |cons h a g=>
  have e:¬h.1=b.1:=λc=>d (by simp[cE,c]);have f:b.1∉cE a:=λc=>d (by simp only[cE,dA,dh];exact .inr c);rw[m7];split
  .rw[iT,oC (by simp[e])];exact dq _ (g f)
  .rw[iT,nI (by simp)];exact HL d
def QT {a:C En}{c:En}(d:∀b∈a,ep c<ep b):m7 a c=c::a:=by
 cases a with
 |nil=>rfl
 |cons b a=>rw[m7,cJ (by have:=d b (dQ ..);omega)]
def aii {d:C En}{g:U}{k:En}(j:CO d)(f:k.1≠g):iT (m7 d k) g=m7 (iT d g) k:=by
 induction d with
 |nil=>simp[m7,iT,f]
 |cons l d c=>
  obtain⟨h,i⟩:=jD.1 j;have c:=c i;rw[m7];split
  .rename_i e;by_cases b:l.1=g
   .rw[iT,nI (by simp[b]),iT,nI (by simp[b])];exact c
   .rw[iT,oC (by simp[b]),iT,oC (by simp[b]),m7,cM e];exact dq _ c
  .rename_i e;rw[QT (a:=iT (l::d) g) (λm a=>?_)]
   .rw[iT,oC (by simp[f])];rfl
   .have a:=(kE.1 a).1;rcases dh.1 a with rfl|a
    .omega
    .have:=h m a;omega
def acG {d:C En}{b:En}(h:b.1∉cE d)(a:C En):b.1∉cE a->gy (d++a)=iT (gy (d++b::a)) b.1:=by
 refine Ms (b:=λa=>b.1∉cE a->gy (d++a)=iT (gy (d++b::a)) b.1) (λ_=>?_) (λa k i c=>?_) a
 .rw[ug,eN,aij];exact λe=>h (((pg d).map Prod.fst).mem_iff.1 e)
 .rw[lJ]at c;have f:b.1∉cE a:=λe=>c (gI _ e);have g:k.1≠b.1:=λj=>c (iA _ (by simp[cE,j]));rw[<-dJ,ug,i f,<-kP,<-dJ,ug,aii (acD _) g]
def acF {c:C En}{b:En}(f:∀j∈c,ep b<ep j)(a:C En):(∀d∈a,ep b<=ep d)->gy (c++b::a)=b::gy (c++a):=by
 refine Ms (b:=λa=>(∀d∈a,ep b<=ep d)->gy (c++b::a)=b::gy (c++a)) (λ_=>?_) (λa d i e=>?_) a
 .rw[ug,eN];exact QT λl h=>f l ((pg c).mem_iff.1 h)
 .rw[<-kP,<-dJ,ug,i (λk g=>e k (gI _ g)),m7,cM (e d (by simp)),<-dJ,ug]
def gE (b:C (cG En))(a:Int×Nat):cG En×Nat:=((b[a.1.toNat]?).join,a.2)
def hE (a:En):cG En×Nat:=(some a,ep a)
def Q4 {d:C (cG En)}{j f:Nat}{i:En}(b:gE d ((j:Int),f)=hE i):∀{h:eU}{e:C En},h.map (gE d)=e.map hE->(fW h j f).map (gE d)=(m7 e i).map hE
 |[],[],_=>by simp[fW,m7,b]
 |[],_::_,a=>by simp at a
 |_::_,[],a=>by simp at a
 |k::h,l::e,a=>by
  simp only[dA,vY]at a;have g:k.2=ep l:=dq Prod.snd a.1;have c:f=ep i:=dq Prod.snd b;rw[fW,m7,g,c];split
  .rw[dA,dA,a.1,<-c,Q4 b a.2]
  .rw[dA,dA,<-c,b,dA,dA,a.1,a.2]
def KQ {d:C (cG En)}{e:Nat}{h:cG En}{b:eU}(g:∀c∈b,c.1.toNat≠e):b.map (gE (d.set e h))=b.map (gE d):=k5 λc a=>by unfold gE;rw[fE (λf=>g c a f.symm)]
def KR {d:C (cG En)}{c:Int×Nat}{e:En}(f:gE d c=hE e):d[c.1.toNat]? =some (some e)/\c.2=ep e:=by
 have a:(d[c.1.toNat]?).join=some e:=dq Prod.fst f;refine⟨?_,dq Prod.snd f⟩;cases b:d[c.1.toNat]?with
 |none=>rw[b]at a;cases a
 |some g=>rw[b]at a;exact dq _ a
def Qt {c:C (cG En)}{a:Nat}{b:En}(d:c[a]? =some (some b)):gE c ((a:Int),ep b)=hE b:=by unfold gE hE;rw[show((a:Int),ep b).1.toNat=a from yU a,d];rfl
def SM {k:C (cG En)}{o:Nat}{j:En}(h:k[o]? =some (some j))(f:∀(r:Nat) g,k[r]? =some (some g)->g.1=j.1->r=o):∀{l:eU}{d:C En},(∀p∈l,0<=p.1)->l.map (gE k)=d.map hE->(cE d).Nodup->(rem l o).map (gE k)=(iT d j.1).map hE
 |[],[],_,_,_=>rfl
 |[],_::_,_,c,_=>by simp at c
 |_::_,[],_,c,_=>by simp at c
 |p::l,g::d,h0,c,m=>by
  simp only[dA,vY]at c;obtain⟨a,t⟩:=KR c.1;have q:=h0 p (dQ ..);have e:g.1∉cE d/\(cE d).Nodup:=iB.1 m;rw[rem];split
  .rename_i b;rw[b,yU,h]at a;injection a with a;injection a with a;subst a;rw[iT,nI (by simp)];rw[show(d.filter λv=> !decide (v.1=j.1))=d from HL e.1];exact c.2
  .rename_i b;have i:g.1≠j.1:=λs=>b (by have:=f _ g a s;omega);rw[iT,oC (by simp[i]),dA,dA,c.1];exact dq _ (SM h f (λu n=>h0 u (dN _ n)) c.2 e.2)
structure sa (k:Nat)(b:C (cG En))(d:eU):Prop where
 len:b.length=k
 nd:(eR d).Nodup
 kI:∀l∈d,0<=l.1
 ord:∀(a:Nat)(e:Nat),((a:Int),e)∈d↔∃(j:U)(g h:Nat),b[a]? =some (some (j,g,h))/\e=g+h
 uq:∀(a f:Nat)(c i:En),b[a]? =some (some c)->b[f]? =some (some i)->i.1=c.1->f=a
 ep:d.length=(b.filterMap id).length
 ne:∀(a:Nat)(c:En),b[a]? =some (some c)->c.1≠ByteArray.empty
def mX.fact {G r c b:Nat}{n:C (cG En)}{q:eU}{A:V}(w:mX G r n q c b A):sa r n q:=by obtain⟨K,rfl,o,p,s,t,v,B,D,L,Q,rfl,j,f,a⟩:=w;have d:=j.inv;refine⟨a.len,d.nd,λz l=>(d.kI z.1 (gu l)).1,λh u=>a.ord h u,λh R g H e k i=>?_,a.ep d f.nd,λh g e=>(a.sm h g.1 g.2.1 g.2.2 e).2⟩;obtain⟨x,S,T⟩:=g;obtain⟨m,y,E⟩:=H;have i:m=x:=i;subst i;exact a.uniq f.nd k e
def iW (b:C (cG En))(c:eU)(a:C En):Prop:=c.map (gE b)=(gy a).map hE/\(cE a).Nodup
section
variable{i:Nat}{a h:C (cG En)}{b g:eU}{d j:C En}{k:U}{c e f:Nat}
def abU {m n:En}(l:hE m=hE n):m=n:=by have:=dq Prod.fst l;simpa[hE]using this
def iW.mem (l:iW a b d)(r:sa i a b){x:En}:x∈d↔∃c:Nat,a[c]? =some (some x):=by
 constructor
 .intro t;have m:hE x∈b.map (gE a):=by rw[l.1];exact gu ((pg d).mem_iff.2 t)
  obtain⟨u,_,s⟩:=dz.1 m;exact⟨_,(KR s).1⟩
 .rintro⟨c,n⟩;have m:((c:Int),Go.Proofs.YtdlpoonfcdoiiaaGreat.ep x)∈b:=(r.ord c _).2 ⟨x.1,x.2.1,x.2.2,n,rfl⟩;have p:hE x∈(gy d).map hE:=by rw[<-l.1,<-Qt n];exact gu m
  obtain⟨v,o,q⟩:=dz.1 p;rw[abU q]at o;exact(pg d).mem_iff.1 o
def iW.len (l:iW a b d):d.length=b.length:=by have:=dq List.length l.1;rw[dL,dL,(pg d).length_eq]at this;exact this.symm
def iW.rr (l:iW a b d)(o:sa i a b):k∉cE d↔lC a k:=by
 constructor
 .intro n c e f m;exact n (x7 ((l.mem o).2 ⟨c,m⟩))
 .intro n p;obtain⟨r,q,rfl⟩:=dz.1 p;obtain⟨c,m⟩:=(l.mem o).1 q;exact n c r.2.1 r.2.2 m
def iW.at {u v:C En}(n:iW a b d)(q:sa i a b)(r:hZ a k c e f){o p:Nat}(t:d=u++(k,o,p)::v):o=e/\p=f:=by obtain⟨l,m⟩:=(n.mem q (x:=(k,o,p))).1 (by rw[t];simp);have:=q.uq c l _ _ r m rfl;subst this;have s:a[l]? =some (some (k,e,f)):=r;rw[s]at m;simp at m;exact⟨m.1.symm,m.2.symm⟩
def Md {b:eU}(l:(eR b).Nodup){c:Int}{n:Int×Nat}(m:n∈rem b c):n∈b/\n.1≠c:=(LK l).1 m
def wY {t o:C En}{s:En}(l:(cE (t++s::o)).Nodup):s.1∉cE t/\s.1∉cE o/\(cE (t++o)).Nodup:=by rw[lJ]at l;obtain⟨u,v,p⟩:=kR.1 l;have q:s.1∉cE o/\(cE o).Nodup:=iB.1 v;refine⟨λx=>p _ x _ (by simp[cE]) rfl,q.1,?_⟩;rw[lJ];exact kR.2 ⟨u,q.2,λm w n r=>p m w n (by simp only[cE,dA,dh]at r|-;exact .inr r)⟩
def iW.del {B u:C En}(l:iW a b d)(n:sa i a b)(y:hZ a k c e f)(r:d=B++(k,e,f)::u):iW (a.set c none) (rem b c) (B++u):=by have p:a[c]? =some (some (k,e,f)):=y;have q:=l.2;rw[r]at q;obtain⟨v,w,x⟩:=wY q;refine⟨?_,x⟩;rw[KQ (λD A m=>by obtain⟨s,t⟩:=Md n.nd A;have:=n.kI D s;exact t (by omega)),acG v u w,<-r];refine SM p (λo E z m=>n.uq c o _ E p z m) n.kI l.1 ?_;exact((pg d).map Prod.fst).nodup_iff.2 l.2
def iW.put {n:Nat}{x:En}(l:iW a b d)(t:n<a.length)(s:∀v∈b,v.1.toNat≠n)(u:x.1∉cE d):iW (a.set n (some x)) (fW b n (ep x)) (d++[x]):=by
 refine⟨?_,?_⟩
 .rw[ug];refine Q4 (Qt (gm t)) ?_;rw[KQ s];exact l.1
 .rw[lJ];exact kR.2 ⟨l.2,by simp[cE],λp r q o m=>u (by simp[cE]at o;rw[<-o,<-m];exact r)⟩
def iW.least {s l:Nat}{r:eU}{v u:C En}{t:En}(o:iW a (((s:Int),l)::r) d)(z:d=v++t::u)(x:∀m∈v,ep t<ep m)(y:∀n∈u,ep t<=ep n):a[s]? =some (some t)/\l=ep t/\r.map (gE a)=(gy (v++u)).map hE:=by have p:=o.1;rw[z,acF x u y,dA,dA,vY]at p;obtain⟨q,w⟩:=KR p.1;rw[show(((s:Int),l):Int×Nat).1.toNat=s from yU s]at q;exact⟨q,w,p.2⟩
def Nt (w:Nat)(b:C En)(n o:Nat)(k:U)(q:Nat)(l:Int)(g:C En)(m p:Nat):Prop:=(l≠0/\g=b/\m=n/\p=o/\(k=ByteArray.empty/\l=3\/k≠ByteArray.empty/\q=0/\l=1\/k≠ByteArray.empty/\q≠0/\9223372036854775808<o+q/\l=12))\/(l=0/\k≠ByteArray.empty/\q≠0/\o+q<=9223372036854775808/\p=o+q/\((∃t e f u,b=t++(k,e,f)::u/\k∉cE t/\g=t++u++[(k,e+q,f)]/\m=n)\/(k∉cE b/\b.length≠w/\g=b++[(k,q,n)]/\m=n)\/(k∉cE b/\b.length=w/\∃t v u,b=t++v::u/\(∀r∈t,ep v<ep r)/\(∀s∈u,ep v<=ep s)/\m=ep v/\g=t++u++[(k,q,ep v)])))
def ajI {q:Nat}(n:sa i a b)(t:a[q]? =some none):∀p∈b,p.1.toNat≠q:=λp o l=>by
 have r:=n.kI p o;have s:((q:Int),p.2)∈b:=by rw[<-l,rY r];exact o
 obtain⟨k,e,f,m,_⟩:=(n.ord q p.2).1 s;rw[t]at m;cases m
def iW.add {z m u X Q af v:Nat}{q e':Int}(l:iW a b d)(s:sa i a b)(hA:qO i a z X k v q h m Q)(hO:IN i a b z k v q h g m)(ad:Nt i d z X k v e' j u af):e'=q/\u=m/\af=Q/\iW h g j:=by
 rcases hA with⟨t,rfl,rfl,rfl,hE⟩|⟨rfl,hk,hv,ht,rfl,hA⟩
 .rcases hO with⟨_,rfl⟩|⟨am,_⟩
  .rcases ad with⟨_,rfl,rfl,rfl,ab⟩|⟨_,hk,hv,ht,_⟩
   .refine⟨?_,rfl,rfl,l⟩;rcases hE with⟨o,rfl⟩|⟨o,r,rfl⟩|⟨o,r,P,rfl⟩<;>rcases ab with⟨R,rfl⟩|⟨R,ah,rfl⟩|⟨R,ah,h6,rfl⟩<;>first|rfl|exact absurd o R|exact absurd R o|exact absurd r ah|exact absurd ah r
   .rcases hE with⟨o,_⟩|⟨_,r,_⟩|⟨_,_,P,_⟩
    .exact absurd o hk
    .exact absurd r hv
    .omega
  .exact absurd am t
 .rcases hO with⟨h0,_⟩|⟨_,hO⟩
  .exact absurd rfl h0
  .rcases ad with⟨_,_,_,_,ab⟩|⟨rfl,_,_,_,rfl,ad⟩
   .rcases ab with⟨o,_⟩|⟨_,r,_⟩|⟨_,_,P,_⟩
    .exact absurd o hk
    .exact absurd r hv
    .omega
   .rcases hO with⟨c,e,f,S,rfl,rfl⟩|⟨al,n,E1,l1,ae,ai,rfl,rfl⟩
    .have T:¬lC a k:=λw=>w c e f S;rcases ad with⟨A,o',s',B,t,ao,rfl,rfl⟩|⟨w,_⟩|⟨w,_⟩
     .obtain⟨rfl,rfl⟩:=l.at s S t;have W:u=m:=by
       rcases hA with⟨_,_,_,_,_,hb⟩|⟨w,_⟩
       .exact hb.symm
       .exact absurd w T
      refine⟨rfl,W,rfl,?_⟩;have o:=l.del s S t;have an:c<a.length:=(da.1 S).1;have r:=o.put (n:=c) (x:=(k,o'+v,s')) (by rw[fy];exact an) (λp hp q=>by obtain⟨ar,au⟩:=Md s.nd hp;have:=s.kI p ar;exact au (by omega)) (by have L:=l.2;rw[t]at L;obtain⟨P,R,_⟩:=wY L;rw[lJ];exact λK=>(dV.1 K).elim P R);rw[we]at r;exact r
     .exact absurd ((l.rr s).1 w) T
     .exact absurd ((l.rr s).1 w) T
    .have H:=(l.rr s).2 al;have W:∃n' ag,sR i a z n' ag m/\E1.set n (some (k,v,m))=ag.set n' (some (k,v,m)):=by
      rcases hA with⟨c,e,f,S,_⟩|⟨_,n',ag,o,r⟩
      .exact absurd S (al c e f)
      .exact⟨n',ag,o,r⟩
     have ay:=abx a;have aA:=l.len;have az:=s.len;have aB:=s.ep;have aq:=ae.1;rcases ad with⟨A,o',s',B,t,ao,rfl,rfl⟩|⟨_,ap,rfl,rfl⟩|⟨_,ap,A,y,B,t,av,aw,rfl,rfl⟩
     .exact absurd (by rw[t,lJ];simp[cE]) H
     .rcases ae with⟨_,D,⟨rfl,rfl,_⟩|⟨G,_⟩⟩
      .rcases ai with⟨_,rfl⟩|⟨G,_⟩
       .refine⟨rfl,rfl,rfl,?_⟩;exact l.put (x:=(k,v,m)) (by omega) (ajI s D) H
       .obtain⟨x,hx⟩:=G n aq;rw[D]at hx;cases hx
      .have:=Qn (c:=a) (λc S=>G c (by omega));omega
     .rcases ae with⟨_,D,⟨rfl,rfl,_⟩|⟨G,kn,on,sn,w,rfl,rfl,_⟩⟩
      .exfalso;have:fr E1≠0:=by obtain⟨A',B',rfl,_⟩:=Aa D;simp[fr,si]
       omega
      .rcases ai with⟨aj,_⟩|⟨_,ax,rfl⟩
       .rw[w]at aj;cases aj
       .obtain⟨o,r,P⟩:=l.least t av aw;rw[w]at o;injection o with o;injection o with o;subst o;refine⟨rfl,rfl,rfl,?_⟩;have L:=l.2;rw[t]at L;obtain⟨R,ah,h6⟩:=wY L;have ak:∀p∈l1,p.1.toNat≠n:=λp hp q=>by have h7:=s.kI p (dN _ hp);have h8:(n:Int)∉eR l1:=(iB.1 s.nd).1;exact h8 (by rw[<-q,rY h7];exact gu hp)
        have h9:iW (a.set n none) l1 (A++B):=⟨by rw[KQ ak];exact P,h6⟩;exact h9.put (x:=(k,v,on+sn)) (by rw[fy];omega) ak (by rw[lJ];rw[t,lJ]at H;exact λK=>(dV.1 K).elim (λK=>H (gI _ K)) (λK=>H (iA _ (by simp only[cE,dA,dh]at K|-;exact .inr K))))
def iW.take {base:Nat}{v:M}(l:iW a b d)(o:sa i a b)(r:(∃c e f,hZ a k c e f/\h=a.set c none/\g=rem b c/\v=PF [gf k e f,.bool true])\/(lC a k/\h=a/\g=b))(q:FG d k j):iW h g j:=by
 rcases r with⟨c,e,f,p,rfl,rfl,_⟩|⟨t,rfl,rfl⟩
 .rcases q with⟨s,_⟩|⟨x,w,y,n,m,_,rfl⟩
  .exact absurd p ((l.rr o).1 s c e f)
  .obtain⟨u,z,A⟩:=w;have m:u=k:=m;subst m;obtain⟨rfl,rfl⟩:=l.at o p n;exact l.del o p n
 .rcases q with⟨_,rfl⟩|⟨x,w,y,n,m,_,rfl⟩
  .exact l
  .exact absurd (by rw[n,lJ,<-m];simp[cE]) ((l.rr o).2 t)
def iW.get {m:Nat}{z:M}{s:U}{t u:Nat}{r:Bool}(l:iW a b d)(o:sa i a b)(v:AE a k z)(p:Df 1 d m k s t u r):z=PF [gf s t u,.bool r]:=by
 rcases v with⟨c,e,f,q,rfl⟩|⟨x,rfl⟩
 .rcases p with⟨_,w,_⟩|⟨rfl,A,y,B,n,_,rfl,rfl⟩
  .exact absurd q ((l.rr o).1 w c e f)
  .obtain⟨rfl,rfl⟩:=l.at o q n;rfl
 .rcases p with⟨rfl,_,rfl,rfl,rfl⟩|⟨_,A,y,B,n,_,_,_⟩
  .rfl
  .exact absurd (by rw[n,lJ];simp[cE]) ((l.rr o).2 x)
end
def Pp {e d:C En}(m:gd (cE e))(g:gd (cE d))(i:e.Perm d):e=d:=by
 have l:cE e=cE d:=Cx m g (i.map Prod.fst);have h:(cE d).Nodup:=g.imp λq=>pj q;refine qo λk=>?_;have a:(cE e)[k]? =(cE d)[k]? :=by rw[l]
 simp only[cE,eK]at a;cases c:e[k]?with
 |none=>
  cases b:d[k]?with
  |none=>rfl
  |some p=>rw[c,b]at a;cases a
 |some o=>
  cases b:d[k]?with
  |none=>rw[c,b]at a;cases a
  |some p=>rw[c,b]at a;simp only[tK,ln]at a;have j:o∈d:=i.mem_iff.1 (eH c);obtain⟨u,v,f⟩:=pJ (eH b);obtain⟨r,s⟩:=o;obtain⟨n,t⟩:=p;have a:r=n:=a;subst a;rw[Rz h f j]
def iW.eF {s:Nat}{k:C (cG En)}{r:eU}{e es a:C En}{b:Nat}(g:iW k r e)(m:sa s k r)(hE:k.length=s)(l:es.Perm (k.filterMap id))(h:gd (es.map Prod.fst))(i:a.Perm (e.map (iM 1 b)))(j:gd (cE a)):es=a:=by
 have f:e.map (iM 1 b)=e:=(k5 λt _=>rfl).trans (wc e);rw[f]at i;refine Pp h j ?_;have o:es.Nodup:=yV Prod.fst (λu v c f=>c (by rw[f])) (h.imp λg=>pj g);have p:a.Nodup:=yV Prod.fst (λu v c f=>c (by rw[f])) (j.imp λg=>pj g);refine(tH o p).2 λt=>?_;rw[l.mem_iff,i.mem_iff,g.mem m];simp only[xC,id];constructor
 .rintro⟨w,n,rfl⟩;obtain⟨q,d⟩:=ka.1 n;exact⟨q,d⟩
 .rintro⟨q,d⟩;exact⟨some t,eH d,rfl⟩
def Jw (c:C En)(b:Nat)(l d:U)(a e:Nat)(m:M)(i:C En):Prop:=(∃h:Int,m=PF [oM,F h]/\i=c/\(l∉cE c/\h=8\/∃f g j k,FF c l f g j k/\(d=ByteArray.empty/\h=3\/d≠ByteArray.empty/\(d∈cE c/\h=10\/d∉cE c/\f+g<a+e/\h=1))))\/(∃f g j k,FF c l f g j k/\d≠ByteArray.empty/\d∉cE c/\a+e<=f+g/\m=PF [gf l f g,F 0]/\i=j++k++[(d,a,max e (b-a))])
section
variable{i:Nat}{b c:C (cG En)}{f a:eU}{h d:C En}{e g:U}
def Pv {m:U}{n o:Nat}{k l:Int}(j:(Value.tuple [oM,F k].toArray)=PF [gf m n o,F l]):m=ByteArray.empty/\k=l:=by simp[oM,gf]at j;exact⟨j.1.1.symm,j.2⟩
def iW.swap {v L P:Nat}{u u':M}(k:iW b f h)(q:sa i b f)(hS:xO b v e g L P u c)(hL:FJ b f v e L P u a)(hR:Jw h v e g L P u' d):u'=u/\iW c a d:=by
 have ae:g∈cE h->∃j o s,hZ b g j o s:=λhx=>by obtain⟨y,hy,rfl⟩:=dz.1 hx;obtain⟨j,r⟩:=(k.mem q).1 hy;exact⟨j,y.2.1,y.2.2,r⟩
 rcases hS with⟨z,rfl,rfl,hE⟩|⟨j,o,s,r,hx,am,hc,rfl,rfl⟩
 .have aj:z≠0:=by rcases hE with⟨_,rfl⟩|⟨_,_,_,_,⟨_,rfl⟩|⟨_,⟨_,rfl⟩|⟨_,_,rfl⟩⟩⟩<;>decide
  have W:a=f:=by
   rcases hL with⟨_,_,ah⟩|⟨_,_,_,_,ab,_⟩
   .exact ah
   .exact absurd (Pv ab).2 aj
  subst W;rcases hR with⟨af,rfl,rfl,t⟩|⟨D,E,A,B,m,ad,G,ai,_,_⟩
  .refine⟨?_,k⟩
   suffices af=z by rw[this]
   rcases hE with⟨l,rfl⟩|⟨j,o,s,r,hE⟩
   .rcases t with⟨_,rfl⟩|⟨D,E,A,B,m,_⟩
    .rfl
    .obtain⟨X,w⟩:=(k.mem q (x:=(e,D,E))).1 (by rw[m.1];simp);exact absurd w (l X D E)
   .rcases t with⟨l,_⟩|⟨D,E,A,B,m,t⟩
    .exact absurd r ((k.rr q).1 l j o s)
    .obtain⟨rfl,rfl⟩:=k.at q r m.1;rcases hE with⟨l,rfl⟩|⟨l,⟨⟨X,H,K,w⟩,rfl⟩|⟨Q,R,rfl⟩⟩<;>rcases t with⟨T,rfl⟩|⟨T,⟨ag,rfl⟩|⟨ag,h6,rfl⟩⟩
     .rfl
     .exact absurd l T
     .exact absurd l T
     .exact absurd T l
     .rfl
     .exact absurd w ((k.rr q).1 ag X H K)
     .exact absurd T l
     .obtain⟨X,H,K,w⟩:=ae ag;exact absurd w (Q X H K)
     .rfl
  .exfalso;rcases hE with⟨l,_⟩|⟨j,o,s,r,hE⟩
   .obtain⟨X,w⟩:=(k.mem q (x:=(e,D,E))).1 (by rw[m.1];simp);exact absurd w (l X D E)
   .obtain⟨rfl,rfl⟩:=k.at q r m.1;rcases hE with⟨l,_⟩|⟨_,⟨⟨X,H,K,w⟩,_⟩|⟨_,R,_⟩⟩
    .exact ad l
    .exact absurd w ((k.rr q).1 G X H K)
    .omega
 .have hk:=q.ne j _ r;have W:a=fW (rem f j) j (L+max P (v-L)):=by
   rcases hL with⟨af,ab,_⟩|⟨i2,o2,s2,ak,ab,ah⟩
   .exact absurd (Pv ab.symm).1 hk
   .have:j=i2:=q.uq i2 j _ _ ak r rfl;subst this;exact ah
  subst W;rcases hR with⟨af,rfl,rfl,t⟩|⟨D,E,A,B,m,ad,G,ai,rfl,rfl⟩
  .exfalso;rcases t with⟨l,_⟩|⟨D,E,A,B,m,t⟩
   .exact absurd r ((k.rr q).1 l j o s)
   .obtain⟨rfl,rfl⟩:=k.at q r m.1;rcases t with⟨l,_⟩|⟨_,⟨Q,_⟩|⟨_,R,_⟩⟩
    .exact hx l
    .obtain⟨X,H,K,w⟩:=ae Q;exact absurd w (am X H K)
    .omega
  .obtain⟨rfl,rfl⟩:=k.at q r m.1;refine⟨rfl,?_⟩;have l:=k.del q r m.1;have al:j<b.length:=(da.1 r).1;have Q:=l.put (n:=j) (x:=(g,L,max P (v-L))) (by rw[fy];exact al) (λp hp z=>by obtain⟨an,ao⟩:=Md q.nd hp;have:=q.kI p an;exact ao (by omega)) (by rw[lJ];have R:=G;rw[m.1,lJ]at R;exact λS=>(dV.1 S).elim (λS=>R (gI _ S)) (λS=>R (iA _ (by simp only[cE,dA,dh]at S|-;exact .inr S))));rw[we]at Q;exact Q
def iW.new (i:Nat):iW (List.replicate i none) [] []:=⟨rfl,xD⟩
end
def TS.mode:TS->Nat
 |.sv _ _ _ _=>1
 |.fr _ _ _=>2
section
variable{d:Nat}{b a:TS}{c g:U}{f:Nat}{e:Int}
def TS.adZ {h d:Nat}(i:h=1\/h=2):(TS.new h d).mode=h:=by rcases i with rfl|rfl<;>rfl
def Az.mode (h:Az d c f e b a):a.mode=b.mode:=by cases b<;>cases a<;>first|rfl|cases h
def s4.mode {i:M}(h:s4 c i b a):a.mode=b.mode:=by cases b<;>cases a<;>first|rfl|cases h
def xP.mode {h i:Nat}{k:M}(j:xP c g h i k b a):a.mode=b.mode:=by cases b<;>cases a<;>first|rfl|cases j
end
def xQ (d:Nat):TS->Prop
 |.sv a c _ _=>sa d a c
 |.fr b _ _=>(keys b).Nodup
def mA.uq {l i:Nat}{b:TS}{k:V}(h:mA l i b k):xQ i b:=by
 cases b with
 |sv m o c a=>obtain⟨j,f,rfl,e⟩:=h;exact e.fact
 |fr n g a=>obtain⟨j,f,rfl,_,_,_,_,_,_,d⟩:=h;exact d.nd
section
variable{e:Nat}{b a:TS}{es c:C En}{d:U}
def s4.same {g:M}(f:s4 d g b a):a.base=b.base/\a.total=b.total:=by cases b<;>cases a<;>first|exact⟨f.1,f.2.1⟩|cases f
end
def r8 (a:C En):TS->Prop
 |.sv b d _ _=>iW b d a
 |.fr c _ _=>FL c a
def r8.new {a b:Nat}:r8 [] (TS.new a b):=by
 unfold TS.new;split
 .exact iW.new b
 .exact⟨cD _,xD⟩
section
variable{d f:Nat}{a:TS}{b:C En}{g:V}{h:O}{c e:U}
def r8.nd (i:r8 b a):(cE b).Nodup:=by
 cases a with
 |sv m o k j=>exact i.2
 |fr n l j=>exact FL.nd i
def r8.len (i:r8 b a)(l:xQ d a):b.length=a.len:=by
 cases a with
 |sv n p k j=>exact(iW.len i).trans l.ep
 |fr o m j=>exact FL.len i
def Qw {l t:U}{u w v x:Nat}{j n:Bool}(i:r8 b a)(z:xQ d a)(k:qk c l u w j a)(s:Df a.mode b a.base c t v x n):l=t/\u=v/\w=x/\j=n:=by
 cases a with
 |sv A E y m=>
  have o:AE A c (PF [gf l u w,.bool j]):=by
   cases j with
   |true=>obtain⟨D,p,rfl⟩:=k.1 rfl;exact .inl ⟨D,u,w,p,rfl⟩
   |false=>obtain⟨q,rfl,rfl,rfl⟩:=k.2 rfl;exact .inr ⟨q,rfl⟩
  exact UT (iW.get i z o s)
 |fr B r m=>
  have o:rn B r c=PF [gf l u w,.bool j]:=by
   unfold rn;cases j with
   |true=>obtain⟨p,rfl,rfl⟩:=k.1 rfl;rw[p]
   |false=>obtain⟨q,rfl,rfl,rfl⟩:=k.2 rfl;rw[q];rfl
  exact UT (o.symm.trans (FL.get i s))
def xP.same {j:TS}{k l:Nat}{m:M}(i:xP c e k l m a j):j.base=a.base/\j.total=a.total:=by cases a<;>cases j<;>first|exact⟨i.1,i.2.1⟩|cases i
def r8.take {j:TS}{n:C En}{v:M}(i:r8 b a)(p:xQ d a)(k:s4 c v a j)(o:FG b c n):r8 n j:=by
 cases a with
 |sv y A m l=>
  cases j with
  |sv s x u q=>exact iW.take (base:=m) (v:=v) i p k.2.2 o
  |fr _ _ _=>cases k
 |fr z r l=>
  cases j with
  |sv _ _ _ _=>cases k
  |fr t w q=>obtain⟨_,_,rfl⟩:=k;exact FL.take i o
def aav {es j:C En}(i:r8 b a)(o:xQ d a)(l:tA es a)(m:j.Perm (b.map (iM a.mode a.base)))(n:gd (cE j)):es=j:=by
 cases a with
 |sv u w p k=>exact iW.eF i o o.len l.1 l.2 m n
 |fr v s k=>obtain⟨t,q,r,rfl⟩:=l;exact FL.eF i q r m n
end
end Go.Proofs.YtdlpoonfcdoiiaaGreat
