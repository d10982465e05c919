/- What the code does, step by step, and plain facts: part 9. They have no conditions. -/
import Derived.Test.YtdlpoonfcdoiiaaGreatMB8
namespace Go.Proofs.YtdlpoonfcdoiiaaGreat
open Go.RowKit Go.Proofs.Tryz
set_option maxHeartbeats 40000000
set_option linter.all false
structure iV where
 L:C En
 base:Nat
 dY:Nat
def tl:C En->cG (En×C En)
 |[]=>none
 |a::b=>match tl b with
  |none=>some (a,[])
  |some (c,d)=>if ep a<=ep c then some (a,b)else some (c,a::d)
def MO:∀{b:C En},tl b=none->b=[]
 |[],_=>rfl
 |c::b,a=>by
  rw[tl]at a;split at a
  .cases a
  .split at a<;>cases a
def Iq:∀{p:C En}{k:En}{q:C En},tl p=some (k,q)->∃f g,p=f++k::g/\q=f++g/\(∀m∈f,ep k<ep m)/\(∀l∈g,ep k<=ep l)
 |[],_,_,b=>by cases b
 |t::p,k,q,b=>by
  rw[tl]at b;split at b
  .rename_i n;injection b with b;injection b with c d;subst c;subst d;obtain rfl:=MO n;exact⟨[],[],rfl,rfl,by simp,by simp⟩
  .rename_i u s o;obtain⟨f,g,rfl,rfl,h,i⟩:=Iq o;split at b
   .rename_i j;injection b with b;injection b with c d;subst c;subst d;refine⟨[],_,rfl,rfl,by simp,λl a=>?_⟩;rcases dV.1 a with a|a
    .have:=h l a;omega
    .rcases dh.1 a with rfl|a
     .exact j
     .have:=i l a;omega
   .rename_i r;injection b with b;injection b with c d;subst c;subst d;refine⟨t::f,g,rfl,rfl,λm e=>?_,i⟩;rcases dh.1 e with rfl|e
    .omega
    .exact h m e
def kh (b:C En)(a:U):cG En:=b.find? λc=>decide (c.1=a)
def rq {f:C En}{e:U}:kh f e=none↔e∉cE f:=by
 unfold kh;rw[wa];constructor
 .intro b c;obtain⟨d,a,rfl⟩:=dz.1 c;exact b d a (by simp)
 .intro b d a g;exact b (dz.2 ⟨d,a,by simpa using g⟩)
def vl {d:C En}{g:U}{k:En}(b:kh d g=some k):k.1=g/\∃e h,d=e++k::h/\g∉cE e:=by
 induction d with
 |nil=>cases b
 |cons l d c=>
  unfold kh at b c;rw[sY]at b;by_cases f:l.1=g
  .rw[gb f]at b;injection b with b;subst b;exact⟨f,[],d,rfl,by simp[cE]⟩
  .rw[fL f]at b;obtain⟨i,e,h,rfl,j⟩:=c b;refine⟨i,l::e,h,rfl,λa=>?_⟩;rcases dh.1 a with a|a
   .exact f a.symm
   .exact j a
def KO {a:C En}{d:U}{b:En}(c:kh a d=some b):b∈a:=Fm c
def GA {e:C En}{f:En}(i:(cE e).Nodup)(j:f∈e):kh e f.1=some f:=by
 cases b:kh e f.1 with
 |none=>exact absurd (gu j) (rq.1 b)
 |some n=>
  obtain⟨g,_⟩:=vl b;have h:=KO b;obtain⟨l,c⟩:=ka.1 j;obtain⟨m,a⟩:=ka.1 h;have d:l<(cE e).length:=by rw[cE,dL];exact(da.1 c).1
  have k:=(Jh (j:=m) d i).1 (by rw[cE,eK,eK,c,a];simp[g]);subst k;rw[c]at a;injection a with a;rw[a]
def vB {c d:C En}{a:En}(g:(cE (c++a::d)).Nodup):iT (c++a::d) a.1=c++d:=by obtain⟨e,f,_⟩:=wY g;rw[iT,qT,nI (by simp)];have h:∀{b:C En},a.1∉cE b->b.filter (λj=> !decide (j.1=a.1))=b:=λ{b} i=>HL i;rw[h e,h f]
def Mc {b:C En}{a:U}:cE (iT b a)=(cE b).filter λc=> !decide (c=a):=by rw[iT,cE,cE,List.filter_map];rfl
def iV.get (a:Nat)(b:iV)(c:U):cG En:=(kh b.L c).map (iM a b.base)
def iV.add (c d:Nat)(a:iV)(k:U)(b:Nat):iV:=
 match kh a.L k with
 |some e=>⟨iT a.L k++[(k,e.2.1+b,e.2.2)],a.base,a.dY+b⟩
 |none=>if c=2 then(if a.L.length=d then⟨red (ly b a.L) a.L++(if ly b a.L<b then[(k,b-ly b a.L,0)]else[]),a.base+ly b a.L,a.dY+b⟩else⟨a.L++[(k,b,0)],a.base,a.dY+b⟩)else if a.L.length=d then(match tl a.L with
  |some (f,g)=>⟨g++[(k,b,ep f)],ep f,a.dY+b⟩
  |none=>a)
  else⟨a.L++[(k,b,a.base)],a.base,a.dY+b⟩
def iV.take (a:iV)(b:U):iV:={a with L:=iT a.L b}
def iV.swap (a:Nat)(c:iV)(d:U)(b:En):iV:={c with L:=iT c.L d++[(b.1,b.2.1,if a=2 then 0 else max b.2.2 (c.base-b.2.1))]}
structure ns (c:Nat)(mode:Nat)(b:iV)(a:TS):Prop where
 rel:r8 b.L a
 mode:a.mode=mode
 base:a.base=b.base
 dY:a.total=b.dY
 uq:xQ c a
 j:oa c a
def ns.new {a b:Nat}(e:a=1\/a=2)(c:1<=b){g:Nat}{f:V}(d:mA g b (TS.new a b) f):ns b a ⟨[],0,0⟩ (TS.new a b):=by
 refine⟨r8.new,TS.adZ e,?_,?_,d.uq,oa.new a b c⟩
 .unfold TS.new;split<;>rfl
 .unfold TS.new;split<;>rfl
section
variable{d a:Nat}{b:iV}{e c:TS}{k:U}{v:Nat}
def ns.adK (f:ns d a b e):a=1\/a=2:=by
 rw[<-f.mode];cases e
 .exact .inl rfl
 .exact .inr rfl
def ns.add {t:Nat}{r r':V}{g:Int}(h:ns d a b e)(al:mA t d c r')(hl:e.len<=d)(G:k≠ByteArray.empty)(K:v≠0)(H:b.dY+v<=9223372036854775808)
 (z:Az d k v g e c):g=0/\ns d a (b.add a d k v) c:=by
 have af:=h.rel.nd
 have an:=h.rel.len h.uq
 have hm:c.mode=a:=z.mode.trans h.mode
 have ad:=h.j.add z
 have ae:=al.uq
 obtain⟨W,f,D,X,am,hj⟩:=h
 cases e with
 |sv E l ag p=>
  cases c with
  |fr _ _ _=>cases z
  |sv E' l' ab m=>
   have f:1=a:=f;subst f;have hb:ag=b.base:=D;have P:p=b.dY:=X;subst hb;subst P;have i:∀(u:C En)(w:Nat),Nt d b.L b.base b.dY k v 0 u w (b.dY+v)->g=0/\ns d 1 ⟨u,w,b.dY+v⟩ (.sv E' l' ab m):=λu w hR=>by obtain⟨Q,R,ai,aj⟩:=iW.add W am z.1 z.2 hR;exact⟨Q.symm,aj,rfl,R.symm,ai.symm,ae,ad⟩
   unfold iV.add;cases T:kh b.L k with
   |some x=>obtain⟨rfl,A,B,o,S⟩:=vl T;refine i _ _ (.inr ⟨rfl,G,K,H,rfl,.inl ⟨A,x.2.1,x.2.2,B,o,S,?_,rfl⟩⟩);rw[o,vB (by rw[<-o];exact af)]
   |none=>
    have s:=rq.1 T;rw[cJ (by decide)];dsimp only;split
    .rename_i n;obtain⟨_,ao,_⟩:True/\1<=d/\True:=⟨trivial,hj.1,trivial⟩;cases ht:tl b.L with
     |none=>have:=MO ht;rw[this]at n;simp at n;omega
     |some q=>obtain⟨y,r'⟩:=q;obtain⟨A,B,o,rfl,Q,R⟩:=Iq ht;exact i _ _ (.inr ⟨rfl,G,K,H,rfl,.inr (.inr ⟨s,n,A,y,B,o,Q,R,rfl,rfl⟩)⟩)
    .rename_i n;exact i _ _ (.inr ⟨rfl,G,K,H,rfl,.inr (.inl ⟨s,n,rfl,rfl⟩)⟩)
 |fr ap ak p=>
  cases c with
  |sv _ _ _ _=>cases z
  |fr M' ah m=>
   have f:2=a:=f;subst f;have hb:ak=b.base:=D;have P:p=b.dY:=X;subst hb;subst P;have i:∀(u:C En)(w:Nat),Nr d b.L b.base b.dY k v 0 u w (b.dY+v)->g=0/\ns d 2 ⟨u,w,b.dY+v⟩ (.fr M' ah m):=λu w hR=>by obtain⟨Q,R,ai,aj⟩:=FL.add W z hR;exact⟨Q.symm,aj,rfl,R.symm,ai.symm,ae,ad⟩
   unfold iV.add;cases T:kh b.L k with
   |some x=>obtain⟨rfl,A,B,o,S⟩:=vl T;refine i _ _ (.inr ⟨rfl,G,K,H,rfl,.inl ⟨⟨A,x.2.1,x.2.2,B,o,S,?_⟩,rfl⟩⟩);rw[o,vB (by rw[<-o];exact af)]
   |none=>
    have s:=rq.1 T;rw[cM rfl];dsimp only;split
    .rename_i n;exact i _ _ (.inr ⟨rfl,G,K,H,rfl,.inr ⟨s,.inr ⟨n,rfl,rfl⟩⟩⟩)
    .rename_i n;exact i _ _ (.inr ⟨rfl,G,K,H,rfl,.inr ⟨s,.inl ⟨n,rfl,rfl⟩⟩⟩)
def ns.get {j:U}{p q:Nat}{i:Bool}(h:ns d a b e)(o:qk k j p q i e):(∃g,b.get a k=some g/\j=k/\g=(k,p,q)/\i=true)\/(b.get a k=none/\j=ByteArray.empty/\p=0/\q=0/\i=false):=by
 have f:=h.adK;unfold iV.get;cases n:kh b.L k with
 |some g=>
  obtain⟨rfl,r,s,m,l⟩:=vl n;obtain⟨rfl,rfl,rfl,rfl⟩:=Qw (t:=g.1) (v:=g.2.1) (x:=(iM a b.base g).2.2) (n:=true) h.rel h.uq o (by
   rw[h.mode,h.base];rcases f with rfl|rfl
   .exact .inr ⟨rfl,r,g.2.2,s,m,l,rfl,rfl⟩
   .exact .inr ⟨rfl,r,g.2.2,s,m,l,rfl,rfl⟩)
  exact .inl ⟨_,rfl,rfl,rfl,rfl⟩
 |none=>obtain⟨rfl,rfl,rfl,rfl⟩:=Qw (t:=ByteArray.empty) (v:=0) (x:=0) (n:=false) h.rel h.uq o (.inl ⟨rfl,rq.1 n,rfl,rfl,rfl⟩);exact .inr ⟨rfl,rfl,rfl,rfl,rfl⟩
def ns.take {r:Nat}{o:V}{s:M}(g:ns d a b e)(m:mA r d c o)(f:s4 k s e c):ns d a (b.take k) c:=by
 have l:=g.rel.nd;refine⟨?_,f.mode.trans g.mode,f.same.1.trans g.base,f.same.2.trans g.dY,m.uq,g.j.take f⟩;refine g.rel.take g.uq f ?_;show FG b.L k (iT b.L k);cases i:kh b.L k with
 |some t=>
  obtain⟨rfl,p,q,h,n⟩:=vl i;refine .inr ⟨p,t,q,h,rfl,n,?_⟩
  conv=>lhs;rw[h]
  exact vB (by rw[<-h];exact l)
 |none=>exact .inl ⟨rq.1 i,HL (rq.1 i)⟩
def ns.swap {t:Nat}{r':V}{u:M}{h ab:En}(z:ns d a b e)(s:mA t d c r')(Q:b.get a k=some ab)(w:h.1≠ByteArray.empty)(X:h.1∉cE b.L)(h1:h.2.1≠0)(B:h.2.1+h.2.2<=ab.2.1)(h3:h.2.2<=b.base)
 (hS:xP k h.1 h.2.1 h.2.2 u e c):u=PF [gf k ab.2.1 ab.2.2,F 0]/\ns d a (b.swap a k h) c:=by
 have S:=z.rel.nd
 unfold iV.get at Q
 obtain⟨i,hf,rfl⟩:=nq.1 Q
 obtain⟨rfl,ad,ae,q,G⟩:=vl hf
 have o:iT b.L i.1=ad++ae:=by
  conv=>lhs;rw[q]
  exact vB (by rw[<-q];exact S)
 have R:=hS.mode.trans z.mode
 have K:=hS.same.1.trans z.base
 have T:=hS.same.2.trans z.dY
 have H:=z.j.swap hS
 obtain⟨n,f,g,ag,W,hj⟩:=z
 cases e with
 |sv E l x r=>
  cases c with
  |fr _ _ _=>cases hS
  |sv E' l' P p=>have f:1=a:=f;subst f;have m:x=b.base:=g;subst m;have D:h.2.1+h.2.2<=i.2.1:=B;obtain⟨h4,y⟩:=iW.swap n W hS.2.2.1 hS.2.2.2 (u':=PF [gf i.1 i.2.1 i.2.2,F 0]) (.inr ⟨i.2.1,i.2.2,ad,ae,⟨q,G⟩,w,X,by omega,rfl,rfl⟩);refine⟨h4.symm,?_,R,K,T,s.uq,H⟩;show iW E' l' (iT b.L i.1++_);rw[o];exact y
 |fr ah A r=>
  cases c with
  |sv _ _ _ _=>cases hS
  |fr M' af p=>have f:2=a:=f;subst f;have m:A=b.base:=g;subst m;have D:h.2.1+h.2.2<=i.2.1:=B;obtain⟨_,_,_,_,_,y,h6⟩:=FL.swap n hS.2.2 (u':=PF [gf i.1 i.2.1 b.base,F 0]) (.inr ⟨i.2.1,i.2.2,ad,ae,⟨q,G⟩,w,X,by omega,rfl,rfl⟩);refine⟨y.symm,?_,R,K,T,s.uq,H⟩;show FL M' (iT b.L i.1++_);rw[o];exact h6
def lM (f:En):C En->C En
 |[]=>[f]
 |g::h=>if eI g.1 f.1 then g::lM f h else f::g::h
def mh (f:C En):C En:=f.foldr lM []
def vo (g:En):∀f,(lM g f).Perm (g::f)
 |[]=>cD _
 |h::f=>by
  rw[lM];split
  .exact((vo g f).cons h).trans (List.Perm.swap ..)
  .exact cD _
def xm:∀f,(mh f).Perm f
 |[]=>cD _
 |g::f=>(vo g (mh f)).trans ((xm f).cons g)
def GY {n:En}:∀{l:C En},gd (cE l)->n.1∉cE l->gd (cE (lM n l))
 |[],_,_=>by simp[lM,cE,gd]
 |s::l,t,p=>by
  have m:(∀o∈cE l,eI s.1 o=true)/\gd (cE l):=jD.1 t;rw[lM];split
  .rename_i f;refine jD.2 ⟨λo g=>?_,GY m.2 (λr=>p (dN _ r))⟩;have h:o∈cE (n::l):=(((vo n l).map Prod.fst).mem_iff).1 g;rcases dh.1 h with rfl|h
   .exact f
   .exact m.1 o h
  .rename_i f;have j:eI n.1 s.1=true:=by
    cases q:eI n.1 s.1 with
    |true=>rfl
    |false=>exact absurd (uk q (by simpa using f)) λi=>p (by rw[i];exact dQ ..)
   refine jD.2 ⟨λo g=>?_,t⟩;rcases dh.1 g with rfl|g
   .exact j
   .exact sC j (m.1 o g)
def EE:∀{f:C En},(cE f).Nodup->gd (cE (mh f))
 |[],_=>List.Pairwise.nil
 |j::f,i=>by have g:j.1∉cE f/\(cE f).Nodup:=iB.1 i;exact GY (EE g.2) λh=>g.1 ((((xm f).map Prod.fst).mem_iff).1 h)
def ns.eF {es:C En}(f:ns d a b e)(g:tA es e):es=mh (b.L.map (iM a b.base)):=by
 refine aav f.rel f.uq g ?_ (EE ?_)
 .rw[f.mode,f.base];exact xm _
 .rw[Gm];exact f.rel.nd
end
structure PC where
 length:Nat
 late:Nat
 ga:Nat
 dm:Nat
 spread:Nat
 queue:Nat
 mode:Nat
 et:Nat
 exact:Nat
 rK:Nat
 depth:Nat
 width:Nat
 top:Nat
 key:Nat
 table:C Nat
 rM:Nat
structure PC.Ok (a:PC):Prop where
 length:1<=a.length/\a.length<=20
 late:a.late<15
 ga:1<=a.ga/\a.ga<=4
 dm:1<=a.dm/\a.dm<=4
 spread:1<=a.spread/\a.spread<=a.dm
 queue:1<=a.queue/\a.queue<=64
 mode:a.mode=1\/a.mode=2
 et:1<=a.et/\a.et<=4
 exact:a.exact<4
 rK:a.rK<40
 depth:1<=a.depth/\a.depth<=3
 width:1<=a.width/\a.width<=9
 top:1<=a.top/\a.top<=6
 key:5<=a.key/\a.key<=255
 table:a.table.length=16/\∀b∈a.table,b<18446744073709551616
 rM:a.rM<18446744073709551616
def S0 (a b:Nat):Int:=IntKind.u64.wrap ((a:Int)+IntKind.u64.wrap (((b:Int)+1)*15111065706836454659))
def PC.at (a:PC)(c:U)(b:Nat):Nat:=mD a.table (S0 a.rM b) a.width c
def PC.Bv {a:PC}(c:1<=a.width)(b:U)(d:Nat):a.at b d<a.width:=zH _ _ c b
def qc (a:Nat->Nat):Nat->C (C Nat)->C Nat
 |_,[]=>[]
 |b,d::c=>d.getD (a b) 0::qc a (b+1) c
def uj (a:C Nat):Nat:=a.foldl Nat.min 18446744073709551615
def qb (b:Nat->Nat)(a:C (C Nat)):Nat:=uj (qc b 0 a)
def lZ (a:Nat->Nat)(d:Nat):Nat->C (C Nat)->C (C Nat)
 |_,[]=>[]
 |b,c::e=>c.set (a b) (max (c.getD (a b) 0) d)::lZ a d (b+1) e
def Ql:∀(d:C Nat)(b:Nat),d.foldl Nat.min b<=b/\∀f∈d,d.foldl Nat.min b<=f
 |[],b=>⟨dT _,by simp⟩
 |g::d,b=>by
  obtain⟨c,e⟩:=Ql d (Nat.min b g);rw[oZ];refine⟨gF c (Jq ..),λf a=>?_⟩;rcases dh.1 a with rfl|a
  .exact gF c (Jr ..)
  .exact e f a
def Rr {c:Nat}:∀(b:C Nat)(d:Nat),c<=d->(∀g∈b,c<=g)->c<=b.foldl Nat.min d
 |[],_,e,_=>e
 |h::b,d,e,a=>by rw[oZ];exact Rr b _ (Nat.le_min.2 ⟨e,a h (dQ ..)⟩) λg f=>a g (dN _ f)
def TC {i:Nat->Nat}{j:Nat}:∀{d:C (C Nat)}{g:Nat},j∈qc i g d->∃(b:Nat)(c:C Nat),d[b]? =some c/\j=c.getD (i (g+b)) 0
 |[],_,a=>by cases a
 |c::d,g,a=>by
  rcases dh.1 a with rfl|a
  .exact⟨0,c,rfl,rfl⟩
  .obtain⟨b,h,e,f⟩:=TC a;exact⟨b+1,h,by simpa using e,by rw[f];congr 2;omega⟩
def TE {f:Nat->Nat}:∀{d:C (C Nat)}{b a:Nat}{c:C Nat},d[a]? =some c->c.getD (f (b+a)) 0∈qc f b d
 |[],_,_,_,e=>by simp at e
 |h::d,b,a,c,e=>by
  cases a with
  |zero=>
   obtain rfl:h=c:=by simpa using e
   exact dQ ..
  |succ a=>
   have g:d[a]? =some c:=by simpa using e
   have:=TE (f:=f) (b:=b+1) g;refine dN _ ?_
   rwa [show b+1+a=b+(a+1) by omega]at this
def H3 {c:Nat->Nat}{d:Nat}:∀{a:C (C Nat)}{b:Nat},(lZ c d b a).length=a.length
 |[],_=>rfl
 |_::a,b=>by rw[lZ,eE,eE,H3]
def Tz {g:Nat->Nat}{k:Nat}:∀{f:C (C Nat)}{d b:Nat}{i:C Nat},(lZ g k d f)[b]? =some i->∃a,f[b]? =some a/\i=a.set (g (d+b)) (max (a.getD (g (d+b)) 0) k)
 |[],_,_,_,c=>by simp[lZ]at c
 |a::f,d,b,i,c=>by
  cases b with
  |zero=>rw[lZ,Jg]at c;injection c with c;exact⟨a,rfl,c.symm⟩
  |succ b=>rw[lZ,y0]at c;obtain⟨j,h,e⟩:=Tz c;refine⟨j,by simpa using h,?_⟩;rw[show d+1+b=d+(b+1) by omega]at e;exact e
structure tO (d:PC)(c:C (C Nat))(b:Nat)(g:U->Nat):Prop where
 len:c.length=d.depth
 row:∀a∈c,a.length=d.width/\∀h∈a,h<=b
 ge:∀(e:Nat)(a:C Nat),c[e]? =some a->∀f,g f<=a.getD (d.at f e) 0
def HY (a:PC):C (C Nat):=List.replicate a.depth (List.replicate a.width 0)
def tO.new (c:PC):tO c (HY c) 0 (λ_=>0):=by refine⟨o3,λd a=>?_,λe d _ f=>gK _⟩;obtain rfl:=uJ a;exact⟨o3,λg b=>by rw[uJ b];omega⟩
def abO {d:C Nat}{b c e:Nat}(a:b<d.length):(d.set b e).getD c 0=if b=c then e else d.getD c 0:=by
 rw[jM,jM,oD];split
 .rename_i f;subst f
  first|rfl|(rw[cM a];rfl)
 .rfl
section
variable{a:PC}{c:C (C Nat)}{b:Nat}{d:U->Nat}{k:U}{w:Nat}
def tO.PB (h:tO a c b d)(f:d k<=18446744073709551615):d k<=qb (a.at k) c:=by refine Rr _ _ f λl g=>?_;obtain⟨i,j,e,rfl⟩:=TC g;rw[dU];exact h.ge i j e k
def tO.Kr (i:tO a c b d)(g:1<=a.depth):qb (a.at k) c<=b:=by
 have h0:0<c.length:=by rw[i.len];exact g
 obtain⟨f,e⟩:∃f,c[0]? =some f:=⟨_,dr h0⟩;refine gF ((Ql _ _).2 _ (TE e)) ?_;rw[jM];cases h:f[a.at k (0+0)]?with
 |none=>exact gK _
 |some j=>exact(i.row f (eH e)).2 j (eH h)
def tO.add (l:tO a c b d)(s:1<=a.width)(t:1<=a.depth)(v:d k<=18446744073709551615):tO a (lZ (a.at k) (qb (a.at k) c+w) 0 c) (b+w) (λo=>if o=k then d k+w else d o):=by
 have z:=l.PB (k:=k) v;have y:=l.Kr (k:=k) t;have j:∀(g:Nat)(n:C Nat),(lZ (a.at k) (qb (a.at k) c+w) 0 c)[g]? =some n->∃e,c[g]? =some e/\e.length=a.width/\n=e.set (a.at k g) (max (e.getD (a.at k g) 0) (qb (a.at k) c+w)):=λg n i=>by obtain⟨e,f,h⟩:=Tz i;rw[dU]at h;exact⟨e,f,(l.row e (eH f)).1,h⟩
 refine⟨by rw[H3];exact l.len,λn i=>?_,λg n i o=>?_⟩
 .obtain⟨g,u⟩:=ka.1 i;obtain⟨e,f,h,rfl⟩:=j g n u;refine⟨by rw[fy];exact h,λA m=>?_⟩;rcases AX m with m|rfl
  .have:=(l.row e (eH f)).2 A m;omega
  .have:e.getD (a.at k g) 0<=b:=by
    rw[jM];cases x:e[a.at k g]?with
    |none=>exact gK _
    |some B=>exact(l.row e (eH f)).2 B (eH x)
   omega
 .obtain⟨e,f,h,rfl⟩:=j g n i;have p:a.at k g<e.length:=by rw[h];exact a.Bv s k g
  rw[abO p];have r:=l.ge g e f o;show(if o=k then d k+w else d o)<=_;split
  .rename_i q;subst q;rw[cM rfl];omega
  .split
   .rename_i q;rw[q]at*;omega
   .exact r
end
def fk (a:C En):Nat:=(a.map λb=>b.2.1).sum
def pU (a:C En):Nat:=(a.map ep).sum
def lf (a b:C En):fk (a++b)=fk a+fk b:=by simp[fk]
def sd (a b:C En):pU (a++b)=pU a+pU b:=by simp[pU]
def mG (b:En)(a:C En):fk (b::a)=b.2.1+fk a:=by simp[fk]
def ve (b:En)(a:C En):pU (b::a)=ep b+pU a:=by simp[pU]
def LU {a b:C En}(c:a.Perm b):fk a=fk b:=(c.map _).sum_nat
def OA {d:Nat}:∀{a:C En},(∀c∈a,d<=ep c)->a.length*d<=pU a
 |[],_=>by simp[pU]
 |c::a,e=>by have f:=e c (dQ ..);have g:=OA λh b=>e h (dN _ b);rw[ve,eE,lT];omega
def aip (b a:Nat)(c:C En):fk (c.map (iM b a))=fk c:=by rw[fk,fk,jj];rfl
structure PT where
 T:iV
 X:C En
 R:C (C Nat)
 sum:Nat
def PT.new (a:PC):PT:=⟨⟨[],0,0⟩,[],HY a,0⟩
def Lv:C En->cG En
 |[]=>none
 |d::c=>some (c.foldl (λa b=>if ep b<=ep a then b else a) d)
def Lw:∀{a:C En}{g:En},Lv a=some g->g∈a
 |[],_,b=>by cases b
 |h::a,g,b=>by
  have e:∀(a:C En)(c:En),a.foldl (λc f=>if ep f<=ep c then f else c) c∈c::a:=by
   intro a;induction a with
   |nil=>intro c;simp
   |cons f a d=>
    intro c;rw[oZ];split
    .exact dN _ (d f)
    .rcases dh.1 (d c)with b|b
     .rw[b];exact dQ ..
     .exact dN _ (dN _ b)
  injection b with b;rw[<-b];exact e a h
def m8 (c:PC)(b:iV)(a:C En)(e:U):iV×C En:=
 match b.get c.mode e with
 |none=>(b,a)
 |some d=>if c.exact=0\/d.2.1<c.rK then(b,a)else if a.length<c.exact then(b.take e,lM d a)else match Lv a with
  |none=>(b,a)
  |some f=>if d.2.1<=ep f then(b,a)else(b.swap c.mode e f,lM d (iT a f.1))
def PT.add (b:PC)(a:PT)(k:U)(w:Nat):PT:=
 match kh a.X k with
 |some _=>{T:=a.T,X:=a.X.map (λc=>if c.1=k then(k,c.2.1+w,c.2.2)else c),R:=lZ (b.at k) (qb (b.at k) a.R+w) 0 a.R,sum:=a.sum+w}
 |none=>{T:=(m8 b (a.T.add b.mode b.et k w) a.X k).1,X:=(m8 b (a.T.add b.mode b.et k w) a.X k).2,R:=lZ (b.at k) (qb (b.at k) a.R+w) 0 a.R,sum:=a.sum+w}
def ml (c:PC)(a:iV)(b:C En):C En:=a.L.map (iM c.mode a.base)++b
structure jy (d:PC)(a:iV)(e:C En)(c:Nat)(f:U->Nat):Prop where
 dY:a.dY<=c
 len:a.L.length<=d.et
 sN:e.length<=d.exact
 nD:gd (cE e)
 nd:(cE a.L++cE e).Nodup
 one:∀b∈ml d a e,b.2.1<=f b.1/\f b.1<=b.2.1+b.2.2/\b.2.2<=a.base/\1<=b.2.1/\b.2.1+b.2.2<=c/\b.1≠ByteArray.empty/\b.1.size<=255
 out:∀g,g∉cE a.L->g∉cE e->f g<=a.base
 owns:fk a.L+fk e<=c
 sv:d.mode=1->pU a.L+(d.et-a.L.length)*a.base<=a.dY/\∀b∈a.L,a.base<=ep b
 fr:d.mode=2->fk a.L+(d.et+1)*a.base<=a.dY
def jy.new (b:PC):jy b ⟨[],0,0⟩ [] 0 (λ_=>0):=by refine⟨by simp,by simp,by simp,List.Pairwise.nil,by simp[cE],λd a=>by simp[ml]at a,λc _ _=>gK _,by simp[fk],λ_=>⟨by simp[pU],by simp⟩,λ_=>by simp[fk]⟩
def Gn {c:PC}{a:iV}{b:C En}:cE (ml c a b)=cE a.L++cE b:=by rw[ml,lJ,Gm]
def jy.Lz {c:PC}{b:iV}{g:C En}{d:Nat}{h:U->Nat}(e:jy c b g d h)(a:c.mode=1\/c.mode=2):(if c.mode=2 then c.et+1 else c.et)*b.base<=b.dY:=by
 rcases a with a|a
 .rw[cJ (by omega)];obtain⟨i,f⟩:=e.sv a;have j:=OA f;have k:=e.len;have l:(c.et-b.L.length)*b.base+b.L.length*b.base=c.et*b.base:=by rw[<-mu];congr 1;omega
  omega
 .rw[cM a];have:=e.fr a;omega
def jy.F1 {a:PC}{b:iV}{e:C En}{c:Nat}{f:U->Nat}(g:jy a b e c f)(d:a.mode=1\/a.mode=2)(j:1<=a.et):b.base<=b.dY:=by have h:=g.Lz d;have i:1*b.base<=(if a.mode=2 then a.et+1 else a.et)*b.base:=j7 _ (by split<;>omega);omega
def ki {g:PC}{c:iV}{f:C En}{e:En}:e∈ml g c f↔(∃b∈c.L,e=iM g.mode c.base b)\/e∈f:=by
 rw[ml,dV,dz];constructor
 .rintro(⟨b,a,rfl⟩|d)
  .exact .inl ⟨b,a,rfl⟩
  .exact .inr d
 .rintro(⟨b,a,rfl⟩|d)
  .exact .inl ⟨b,a,rfl⟩
  .exact .inr d
def uD (a:U->Nat)(b:U)(d:Nat):U->Nat:=λc=>if c=b then a b+d else a c
def CH {b:U->Nat}{a:U}{c:Nat}:uD b a c a=b a+c:=cM rfl
def qg {b:U->Nat}{c a:U}{e:Nat}(d:a≠c):uD b c e a=b a:=cJ d
section
variable{b:PC}{a:iV}{f:C En}{e c:Nat}{g:U->Nat}{d:U}
def x8 {j k:C En}{l:En}{i:U}:i∈cE (j++l::k)↔i=l.1\/i∈cE (j++k):=by
 simp only[cE,dE,dA,dV,dh];constructor
 .rintro(h|h|h)
  .exact .inr (.inl h)
  .exact .inl h
  .exact .inr (.inr h)
 .rintro(h|h|h)
  .exact .inr (.inl h)
  .exact .inl h
  .exact .inr (.inr h)
def Ho {h i f:C En}{l:En}(n:(cE (h++l::i)++cE f).Nodup):l.1∉cE (h++i)/\l.1∉cE f/\(cE (h++i)++cE f).Nodup:=by
 have m:(cE (h++l::i)++cE f).Perm (l.1::(cE (h++i)++cE f)):=by have:(h++l::i).Perm (l::(h++i)):=eg;exact(this.map Prod.fst).append_right _
 have j:=iB.1 (m.nodup_iff.1 n);exact⟨λk=>j.1 (gI _ k),λk=>j.1 (iA _ k),j.2⟩
def Hq {h f:C En}{i:En}(n:(cE h++cE f).Nodup)(j:i.1∉cE h)(k:i.1∉cE f):(cE (h++[i])++cE f).Nodup:=by
 have m:(cE (h++[i])++cE f).Perm (i.1::(cE h++cE f)):=by have:(h++[i]).Perm (i::h):=pK i h;exact(this.map Prod.fst).append_right _
 exact m.nodup_iff.2 (iB.2 ⟨λl=>(dV.1 l).elim j k,n⟩)
def Ej {h f:C En}(i:(cE h++cE f).Nodup):(cE h).Nodup:=(kR.1 i).1
def yp {i j:C En}{l k:En}(h:k∈i++j):k∈i++l::j:=by
 rcases dV.1 h with h|h
 .exact gI _ h
 .exact iA _ (dN _ h)
def sj {i:C En}{j:En}{h:U}:h∈cE (i++[j])↔h∈cE i\/h=j.1:=by simp[cE]
def xg (i h:Nat)(j:En):iM i h j=(j.1,j.2.1,if i=2 then h else j.2.2):=rfl
def jy.VV {u v:C En}{n:En}(m:jy b a f e g)(K:1<=c)(l:a.L=u++n::v):jy b ⟨u++v++[(n.1,n.2.1+c,n.2.2)],a.base,a.dY+c⟩ f (e+c) (uD g n.1 c):=by
 have w:(cE (u++n::v)++cE f).Nodup:=by rw[<-l];exact m.nd
 obtain⟨B,D,G⟩:=Ho w;have A:=m.one (iM b.mode a.base n) (ki.2 (.inl ⟨n,by rw[l];simp,rfl⟩));simp only[xg]at A;have x:∀q∈u++v,q.1≠n.1:=λq i h=>B (by rw[<-h];exact gu i);have t:=m.owns;have E:=m.len;rw[l]at t E;rw[lf,mG]at t;have s:(u++n::v).length=u.length+v.length+1:=by rw[cX,eE];omega
 refine⟨by have:=m.dY;dsimp only;omega,?_,m.sN,m.nD,Hq G B D,λQ o=>?_,λH y z=>?_,?_,λk=>?_,λk=>?_⟩
 .dsimp only;rw[cX,cX,lD];omega
 .rcases ki.1 o with⟨q,i,rfl⟩|o
  .rcases dV.1 i with i|i
   .have j:=m.one (iM b.mode a.base q) (ki.2 (.inl ⟨q,by rw[l];exact yp i,rfl⟩));simp only[xg]at j|-;rw[qg (x q i)];exact⟨by omega,by omega,by omega,by omega,by omega,j.2.2.2.2.2⟩
   .obtain rfl:=fI.1 i;simp only[xg,CH];exact⟨by omega,by omega,by omega,by omega,by omega,A.2.2.2.2.2⟩
  .have j:=m.one Q (ki.2 (.inr o));rw[qg (λh=>D (by rw[<-h];exact gu o))];dsimp only;exact⟨by omega,by omega,by omega,by omega,by omega,j.2.2.2.2.2⟩
 .have p:H≠n.1:=λh=>y (sj.2 (.inr h));rw[qg p];refine m.out H (λk=>?_) z;rw[l]at k;rcases x8.1 k with h|k
  .exact p h
  .exact y (sj.2 (.inl k))
 .dsimp only;rw[lf,lf,mG];simp only[fk,kD,pM]at t|-;omega
 .obtain⟨j,r⟩:=m.sv k;rw[l]at j r;rw[sd,ve,s]at j;refine⟨?_,λq i=>?_⟩
  .dsimp only;rw[sd,sd,ve,cX,cX,lD];simp only[pU,kD,pM,ep]at j|-;omega
  .rcases dV.1 i with i|i
   .exact r q (yp i)
   .obtain rfl:=fI.1 i;have:=r n (by simp);simp only[ep]at this|-;omega
 .have j:=m.fr k;rw[l,lf,mG]at j;dsimp only;rw[lf,lf,mG];simp only[fk,kD,pM]at j|-;omega
def jy.room (i:b.mode=1\/b.mode=2)(l:jy b a f e g)(z:1<=b.et)(K:1<=c)(q:d≠ByteArray.empty)(x:d.size<=255)(o:d∉cE a.L)(p:d∉cE f)(G:a.L.length<b.et)(A:Nat)(n:b.mode=1->A=a.base):jy b ⟨a.L++[(d,c,A)],a.base,a.dY+c⟩ f (e+c) (uD g d c):=by
 have E:=l.F1 i z;have y:=l.owns;have B:=l.out d o p;have H:=l.dY;refine⟨by dsimp only;omega,?_,l.sN,l.nD,Hq l.nd o p,λQ m=>?_,λD s u=>?_,?_,λi=>?_,λi=>?_⟩
 .dsimp only;rw[cX,lD];omega
 .rcases ki.1 m with⟨v,j,rfl⟩|m
  .rcases dV.1 j with j|j
   .have k:=l.one (iM b.mode a.base v) (ki.2 (.inl ⟨v,j,rfl⟩));have r:v.1≠d:=λh=>o (by rw[<-h];exact gu j);simp only[xg]at k|-;rw[qg r];exact⟨by omega,by omega,by omega,by omega,by omega,k.2.2.2.2.2⟩
   .obtain rfl:=fI.1 j;simp only[xg,CH];have:(if b.mode=2 then a.base else A)=a.base:=by
     rcases i with i|i
     .rw[cJ (by omega),n i]
     .rw[cM i]
    rw[this];exact⟨by omega,by omega,by omega,by omega,by omega,q,x⟩
  .have k:=l.one Q (ki.2 (.inr m));rw[qg (λh=>p (by rw[<-h];exact gu m))];dsimp only;exact⟨by omega,by omega,by omega,by omega,by omega,k.2.2.2.2.2⟩
 .have t:D≠d:=λh=>s (sj.2 (.inr h));rw[qg t];exact l.out D (λi=>s (sj.2 (.inl i))) u
 .dsimp only;rw[lf,mG];simp only[fk,kD,pM]at y|-;omega
 .obtain⟨k,w⟩:=l.sv i;have h:=n i;subst h;refine⟨?_,λv j=>?_⟩
  .dsimp only;rw[sd,ve,cX,lD];have h:b.et-a.L.length=b.et-(a.L.length+1)+1:=by omega
   rw[h,mu,xJ]at k;simp only[pU,kD,pM,ep]at k|-;omega
  .rcases dV.1 j with j|j
   .exact w v j
   .obtain rfl:=fI.1 j;simp only[ep];omega
 .have k:=l.fr i;dsimp only;rw[lf,mG];simp only[fk,kD,pM]at k|-;omega
def jy.aaH {t v:C En}{r:En}(o:jy b a f e g)(j:b.mode=1)(hw:1<=c)(G:d≠ByteArray.empty)(X:d.size<=255)(E:d∉cE a.L)(B:d∉cE f)(H:a.L.length=b.et)(m:a.L=t++r::v)(W:∀s∈t++v,ep r<=ep s):jy b ⟨t++v++[(d,c,ep r)],ep r,a.dY+c⟩ f (e+c) (uD g d c):=by
 have K:(cE (t++r::v)++cE f).Nodup:=by rw[<-m];exact o.nd
 obtain⟨n1,n2,ab⟩:=Ho K;have y:=o.sv j;have z:r∈a.L:=by rw[m];simp
 have ad:=y.2 r z;have p:∀(l:Nat)(s:En),iM b.mode l s=s:=λl s=>by rw[j];rfl
 have hy:=o.one r (ki.2 (.inl ⟨r,z,(p _ _).symm⟩));have ae:=o.out d E B;have w:d∉cE (t++v):=λj=>E (by rw[m];exact x8.2 (.inr j));have D:=o.owns;have ht:=o.dY;have k:=y.1;rw[m]at D k H;rw[lf,mG]at D;rw[sd,ve,H]at k;have P:(t++r::v).length=t.length+v.length+1:=by rw[cX,eE];omega
 refine⟨by dsimp only;omega,?_,o.sN,o.nD,Hq ab w B,λs i=>?_,λq R T=>?_,?_,λ_=>?_,λaf=>by omega⟩
 .dsimp only;rw[cX,cX,lD];omega
 .rcases ki.1 i with⟨u,n,rfl⟩|i
  .rw[p];rcases dV.1 n with n|n
   .have A:=o.one u (ki.2 (.inl ⟨u,by rw[m];exact yp n,(p _ _).symm⟩));have Q:u.1≠d:=λh=>w (by rw[<-h];exact gu n);rw[qg Q];dsimp only;exact⟨by omega,by omega,by omega,by omega,by omega,A.2.2.2.2.2⟩
   .obtain rfl:=fI.1 n;dsimp only;rw[CH];simp only[ep]at*;exact⟨by omega,by omega,by omega,by omega,by omega,G,X⟩
  .have A:=o.one s (ki.2 (.inr i));rw[qg (λh=>B (by rw[<-h];exact gu i))];dsimp only;exact⟨by omega,by omega,by omega,by omega,by omega,A.2.2.2.2.2⟩
 .have S:q≠d:=λh=>R (sj.2 (.inr h));rw[qg S];dsimp only;by_cases x:q=r.1
  .subst x;simp only[ep];omega
  .have:=o.out q (λj=>by
    rw[m]at j;rcases x8.1 j with h|j
    .exact x h
    .exact R (sj.2 (.inl j))) T
   omega
 .dsimp only;rw[lf,lf,mG];simp only[fk,kD,pM]at D|-;omega
 .refine⟨?_,λs i=>?_⟩
  .dsimp only;rw[sd,sd,ve,cX,cX,lD];have h:b.et-(t.length+v.length+1)=0:=by omega
   rw[h,qt];rw[nK,qt]at k;simp only[pU,kD,pM,ep]at k|-;omega
  .rcases dV.1 i with i|i
   .exact W s i
   .obtain rfl:=fI.1 i;simp only[ep];omega
def Mb {h:Nat}{m:C En}{n:En}:n∈red h m↔∃k∈m,k.2.1-h≠0/\n=(k.1,k.2.1-h,k.2.2):=by
 rw[red,xC];constructor
 .rintro⟨k,l,i⟩;unfold tw at i;split at i
  .cases i
  .rename_i j;injection i with i;exact⟨k,l,j,i.symm⟩
 .rintro⟨k,l,j,rfl⟩;exact⟨k,l,by rw[tw,cJ j]⟩
def Ct {h:Nat}:∀{l:C En},(cE (red h l)).Sublist (cE l)
 |[]=>gq _
 |i::k=>by
  by_cases j:i.2.1-h=0
  .rw[show red h (i::k)=red h k by simp[Go.Proofs.YtdlpoonfcdoiiaaGreat.red,tw,j]];exact Ct.cons _
  .rw[show red h (i::k)=(i.1,i.2.1-h,i.2.2)::red h k by simp[Go.Proofs.YtdlpoonfcdoiiaaGreat.red,tw,j]];exact Ct.cons_cons _
def SK {h:Nat}:∀{l:C En},(∀i∈l,h<=i.2.1)->fk (red h l)+l.length*h=fk l
 |[],_=>by simp[Go.Proofs.YtdlpoonfcdoiiaaGreat.red,fk]
 |i::k,n=>by
  have o:=n i (dQ ..);have p:=SK λq m=>n q (dN _ m);rw[mG,eE,lT];by_cases j:i.2.1-h=0
  .rw[show red h (i::k)=red h k by simp[Go.Proofs.YtdlpoonfcdoiiaaGreat.red,tw,j]];omega
  .rw[show red h (i::k)=(i.1,i.2.1-h,i.2.2)::red h k by simp[Go.Proofs.YtdlpoonfcdoiiaaGreat.red,tw,j],mG];dsimp only;omega
def jy.Zh (s:jy b a f e g)(D:b.mode=2)(hs:1<=b.et)(hw:1<=c)(ah:d≠ByteArray.empty)(hk:d.size<=255)(ab:d∉cE a.L)(ad:d∉cE f)(hl:a.L.length=b.et):jy b ⟨red (ly c a.L) a.L++(if ly c a.L<c then[(d,c-ly c a.L,0)]else[]),a.base+ly c a.L,a.dY+c⟩ f (e+c) (uD g d c):=by
 obtain⟨h,t⟩:∃h,ly c a.L=h:=⟨_,rfl⟩;have ap:h<=c:=by rw[<-t];exact Mi c a.L
 have fV:∀k∈a.L,h<=k.2.1:=λk j=>by rw[<-t];exact SR c j
 rw[t];have S:∀(m:Nat)(W:En),iM b.mode m W=(W.1,W.2.1,m):=λm W=>by rw[D];rfl
 have aq:=s.out d ab ad;have ho:=s.owns;have ht:=s.dY;have G:=s.fr D;have p:=SK fV;rw[hl]at p;have v:∀u∈a.L,_:=λu l=>s.one (u.1,u.2.1,a.base) (ki.2 (.inl ⟨u,l,(S _ _).symm⟩));have ai:d∉cE (red h a.L):=λD=>ab (Ct.subset D);have K:(cE (red h a.L)++cE f).Nodup:=s.nd.sublist (List.Sublist.append_right Ct _);have ak:=aie h a.L;have af:(b.et+1)*(a.base+h)=(b.et+1)*a.base+(b.et*h+h):=by rw[Nat.mul_add,lT b.et h]
 have ao:a.base+b.et*a.base=(b.et+1)*a.base:=by rw[lT];omega
 have au:h<=b.et*h:=Nat.le_mul_of_pos_left h hs;refine⟨by dsimp only;omega,?_,s.sN,s.nD,?_,λW r=>?_,λq E aj=>?_,?_,λar=>by omega,λ_=>?_⟩
 .dsimp only;by_cases o:h<c
  .rw[cM o,cX,lD];have:(red h a.L).length<a.L.length:=by
    rcases o4 ak with X|X
    .exact X
    .exfalso;have ae:∃k∈a.L,k.2.1=h:=by
      have an:∀(A:C En)(z:Nat),ly z A<z->∃k∈A,k.2.1=ly z A:=by
       intro A;induction A with
       |nil=>intro z hv;exact absurd hv (Fx z)
       |cons k A ih=>
        intro z hv;have i:ly z (k::A)=ly (min z k.2.1) A:=rfl;by_cases n:ly (min z k.2.1) A<min z k.2.1
        .obtain⟨W,r,am⟩:=ih _ n;exact⟨W,dN _ r,by rw[am,i]⟩
        .have h3:=Mi (min z k.2.1) A;exact⟨k,dQ ..,by rw[i]at hv|-;omega⟩
      obtain⟨k,j,T⟩:=an a.L c (by rw[t];exact o);exact⟨k,j,by rw[T,t]⟩
     obtain⟨k,j,T⟩:=ae;have ag:(cE (red h a.L))=cE a.L:=Ct.eq_of_length (by rw[cE,cE,dL,dL];exact X);have w:k.1∈cE (red h a.L):=by rw[ag];exact gu j
     obtain⟨y,hy,x⟩:=dz.1 w;obtain⟨x',al,H,rfl⟩:=Mb.1 hy;have e1:=GA (Ej s.nd) j;have B:=GA (Ej s.nd) al;have x:x'.1=k.1:=x;rw[x,e1]at B;injection B with B;rw[<-B]at H;omega
   omega
  .rw[cJ o,eN];omega
 .dsimp only;split
  .exact Hq K ai ad
  .rw[eN];exact K
 .rcases ki.1 r with⟨u,l,rfl⟩|r
  .rw[S];rcases dV.1 l with l|l
   .obtain⟨k,j,H,rfl⟩:=Mb.1 l;have n:=v k j;have w:k.1≠d:=λi=>ab (by rw[<-i];exact gu j);have h3:=fV k j;dsimp only at n|-;rw[qg w];exact⟨by omega,by omega,by omega,by omega,by omega,n.2.2.2.2.2⟩
   .split at l
    .obtain rfl:=fI.1 l;dsimp only;rw[CH];exact⟨by omega,by omega,by omega,by omega,by omega,ah,hk⟩
    .cases l
  .have n:=s.one W (ki.2 (.inr r));rw[qg (λi=>ad (by rw[<-i];exact gu r))];dsimp only;exact⟨by omega,by omega,by omega,by omega,by omega,n.2.2.2.2.2⟩
 .dsimp only at E|-;by_cases R:q=d
  .subst R;rw[CH];by_cases o:h<c
   .rw[cM o]at E;exact absurd (sj.2 (.inr rfl)) E
   .omega
  .rw[qg R];by_cases Q:q∈cE a.L
   .obtain⟨k,j,rfl⟩:=dz.1 Q;have n:=v k j;have h3:=fV k j;have P:k.2.1-h=0:=by
     rcases Bc (k.2.1-h)with P|P
     .exact P
     .exact absurd (show k.1∈cE (red h a.L++_) by rw[lJ];exact gI _ (dz.2 ⟨_,Mb.2 ⟨k,j,by omega,rfl⟩,rfl⟩)) E
    dsimp only at n;omega
   .have:=s.out q Q aj;omega
 .dsimp only;rw[lf];split
  .rw[mG];simp only[fk,kD,pM]at ho p|-;omega
  .simp only[fk,kD,pM]at ho p|-;omega
 .dsimp only;rw[lf,af];split
  .rw[mG];simp only[fk,kD,pM]at G p|-;omega
  .simp only[fk,kD,pM]at G p|-;omega
def jy.Up (t:b.Ok)(q:jy b a f e g)(l:1<=c)(i:d≠ByteArray.empty)(p:d.size<=255)(o:d∉cE f):jy b (a.add b.mode b.et d c) f (e+c) (uD g d c):=by
 have z:=t.mode;have s:=t.et.1;unfold iV.add;cases u:kh a.L d with
 |some K=>
  obtain⟨rfl,A,B,j,E⟩:=vl u;have:iT a.L K.1=A++B:=by
   conv=>lhs;rw[j]
   exact vB (by rw[<-j];exact Ej q.nd)
  dsimp only;rw[this];exact q.VV l j
 |none=>
  have n:=rq.1 u;have y:=q.len;dsimp only;rcases z with r|k
  .rw[cJ (by omega)];split
   .rename_i h;cases v:tl a.L with
    |none=>have:=MO v;rw[this]at h;simp at h;omega
    |some G=>
     obtain⟨Q,H⟩:=G;obtain⟨A,B,j,rfl,w,x⟩:=Iq v;refine q.aaH r l i p n o h j λD m=>?_;rcases dV.1 m with m|m
     .exact Nat.le_of_lt (w D m)
     .exact x D m
   .rename_i h;exact q.room (.inl r) s l i p n o (by omega) _ (λ_=>rfl)
  .rw[cM k];split
   .rename_i h;exact q.Zh k s l i p n o h
   .rename_i h;exact q.room (.inr k) s l i p n o (by omega) _ (λq=>by omega)
end
section
variable{a:PC}{b:iV}{d:C En}{c g:Nat}{f:U->Nat}{e:U}
def Gl {j:En}{i:C En}{h:U}:h∈cE (lM j i)↔h=j.1\/h∈cE i:=by rw[((vo j i).map Prod.fst).mem_iff (a:=h)|>(show h∈cE (lM j i)↔h∈cE (j::i)from·)];simp[cE]
def RK {i j:En}{h:C En}:j∈lM i h↔j=i\/j∈h:=by rw[(vo i h).mem_iff,dh]
def QW {i:En}{h:C En}:(lM i h).length=h.length+1:=by rw[(vo i h).length_eq,eE]
def QX {i:En}{h:C En}:fk (lM i h)=i.2.1+fk h:=by rw[LU (vo i h),mG]
def KY {o:En}(n:b.get a.mode e=some o):∃h i j,o=iM a.mode b.base h/\h.1=e/\b.L=i++h::j:=by unfold iV.get at n;obtain⟨h,m,rfl⟩:=nq.1 n;obtain⟨k,i,j,l,_⟩:=vl m;exact⟨h,i,j,rfl,k,l⟩
def jy.taken (q:jy a b d c f){k:En}{m n:C En}(j:b.L=m++k::n)(z:d.length<a.exact):jy a ⟨m++n,b.base,b.dY⟩ (lM (iM a.mode b.base k) d) c f:=by
 have r:(cE (m++k::n)++cE d).Nodup:=by rw[<-j];exact q.nd
 obtain⟨Q,D,R⟩:=Ho r;have K:=q.one (iM a.mode b.base k) (ki.2 (.inl ⟨k,by rw[j];simp,rfl⟩));have t:(m++k::n).length=m.length+n.length+1:=by rw[cX,eE];omega
 have x:=q.owns;have w:=q.len;rw[j]at x w;rw[lf,mG]at x;have v:(iM a.mode b.base k).1∉cE d:=D;refine⟨q.dY,?_,by rw[QW];exact z,GY q.nD v,?_,λS p=>?_,λG B s=>?_,?_,λi=>?_,λi=>?_⟩
 .dsimp only;rw[cX];omega
 .have A:(cE (m++n)++cE (lM (iM a.mode b.base k) d)).Perm (cE (m++k::n)++cE d):=by have l:(cE (lM (iM a.mode b.base k) d)).Perm (k.1::cE d):=(vo _ _).map Prod.fst;have o:(m++k::n).Perm (k::(m++n)):=eg;refine(l.append_left _).trans (eg.trans ?_);exact((o.map Prod.fst).append_right _).symm
  exact A.nodup_iff.2 r
 .refine q.one S (ki.2 ?_);rcases ki.1 p with⟨E,u,rfl⟩|p
  .exact .inl ⟨E,by rw[j];exact yp u,rfl⟩
  .rcases RK.1 p with rfl|p
   .exact .inl ⟨k,by rw[j];simp,rfl⟩
   .exact .inr p
 .have y:G≠k.1:=λh=>s (Gl.2 (.inl h));refine q.out G (λi=>?_) (λi=>s (Gl.2 (.inr i)));rw[j]at i;rcases x8.1 i with h|i
  .exact y h
  .exact B i
 .dsimp only;rw[QX,lf];simp only[xg];omega
 .obtain⟨l,o⟩:=q.sv i;rw[j]at l o;have H:=o k (by simp);rw[sd,ve,t]at l;refine⟨?_,λE u=>o E (yp u)⟩;dsimp only;rw[sd,cX];have h:a.et-(m.length+n.length)=a.et-(m.length+n.length+1)+1:=by omega
  rw[h,mu,xJ];omega
 .have l:=q.fr i;rw[j,lf,mG]at l;dsimp only;rw[lf];omega
def jy.ako (i:a.mode=1\/a.mode=2)(hs:1<=a.et)(r:jy a b d c f){o j:En}{y z t w:C En}(s:b.L=y++o::z)(A:d=t++j::w)(R:ep j<o.2.1):jy a ⟨y++z++[(j.1,j.2.1,if a.mode=2 then 0 else max j.2.2 (b.base-j.2.1))],b.base,b.dY⟩ (lM (iM a.mode b.base o) (t++w)) c f:=by
 obtain⟨P,x⟩:∃P,(if a.mode=2 then 0 else max j.2.2 (b.base-j.2.1))=P:=⟨_,rfl⟩;rw[x];have H:(cE (y++o::z)++cE d).Nodup:=by rw[<-s];exact r.nd
 obtain⟨n1,n2,n3⟩:=Ho H;have E:j∈d:=by rw[A];simp
 have hz:=r.one (iM a.mode b.base o) (ki.2 (.inl ⟨o,by rw[s];simp,rfl⟩));have hy:=r.one j (ki.2 (.inr E));simp only[xg]at hz;have S:(y++o::z).length=y.length+z.length+1:=by rw[cX,eE];omega
 have hb:=r.F1 i hs;have ht:=r.dY;have G:=r.owns;have ab:=r.len;have ad:=r.sN;have B:=r.nD;rw[s]at G ab;rw[A]at G ad B;rw[lf,mG,lf,mG]at G;have af:(t++j::w).length=t.length+w.length+1:=by rw[cX,eE];omega
 have ae:o.1∉cE (t++w):=λp=>n2 (by rw[A];exact x8.2 (.inr p));have ah:j.1∉cE (y++z):=λp=>(kR.1 n3).2.2 j.1 p j.1 (gu E) rfl;have ai:j.1≠o.1:=λk=>n2 (by rw[<-k];exact gu E);have X:(t++w).Sublist (t++j::w):=List.Sublist.append_left (fO j w) t;have W:gd (cE (t++w)):=B.sublist (X.map _);have ag:j.1∉cE (t++w):=by have l:(cE (t++j::w)).Nodup:=B.imp λr=>pj r;exact λp=>(wY l).1|>λhA=>(wY l).2.1|>λhB=>by rw[lJ]at p;exact(dV.1 p).elim hA hB
 have T:∀h,(if a.mode=2 then b.base else P)=h->j.2.2<=h/\h<=b.base/\j.2.1+h<=c:=λh m=>by
  simp only[ep]at R;rcases i with i|i
  .rw[cJ (by omega)]at m x;subst m;subst x;omega
  .rw[cM i]at m hz;subst m;omega
 refine⟨ht,?_,by rw[QW,cX];omega,GY W ae,?_,λu n=>?_,λq p K=>?_,?_,λi=>?_,λi=>?_⟩
 .dsimp only;rw[cX,cX,lD];omega
 .have l:(cE (y++z++[(j.1,j.2.1,P)])++cE (lM (iM a.mode b.base o) (t++w))).Perm (cE (y++o::z)++cE d):=by
   have p1:(cE (lM (iM a.mode b.base o) (t++w))).Perm (o.1::cE (t++w)):=(vo _ _).map Prod.fst;have p2:(cE (y++o::z)).Perm (o.1::cE (y++z)):=(eg (l₁:=y) (l₂:=z) (a:=o)).map Prod.fst;have p3:(cE d).Perm (j.1::cE (t++w)):=by rw[A];exact(eg (l₁:=t) (l₂:=w) (a:=j)).map Prod.fst
   have e1:cE (y++z++[(j.1,j.2.1,P)])=cE (y++z)++[j.1]:=by rw[lJ];rfl
   rw[e1];refine(p1.append_left _).trans ?_;refine List.Perm.trans ?_ (p2.append p3).symm;rw[dJ];refine List.Perm.trans ?_ (eg (a:=o.1) (l₁:=[]) (l₂:=_));rw[kF,kP];refine List.Perm.trans (vX _ (List.Perm.swap o.1 j.1 _)) ?_;exact eg
  exact l.nodup_iff.2 H
 .rcases ki.1 n with⟨v,D,rfl⟩|n
  .rcases dV.1 D with D|D
   .exact r.one _ (ki.2 (.inl ⟨v,by rw[s];exact yp D,rfl⟩))
   .obtain rfl:=fI.1 D;simp only[xg];obtain⟨h,m⟩:∃h,(if a.mode=2 then b.base else P)=h:=⟨_,rfl⟩;have h5:=T h m;rw[m];exact⟨by omega,by omega,by omega,by omega,by omega,hy.2.2.2.2.2⟩
  .rcases RK.1 n with rfl|n
   .exact r.one _ (ki.2 (.inl ⟨o,by rw[s];simp,rfl⟩))
   .exact r.one _ (ki.2 (.inr (by rw[A];exact yp n)))
 .refine r.out q (λi=>?_) (λi=>?_)
  .rw[s]at i;rcases x8.1 i with k|i
   .exact K (Gl.2 (.inl k))
   .exact p (sj.2 (.inl i))
  .rw[A]at i;rcases x8.1 i with k|i
   .exact p (sj.2 (.inr k))
   .exact K (Gl.2 (.inr i))
 .dsimp only;rw[QX,lf,lf,mG,lf];simp only[xg];simp only[fk,kD,pM]at G|-;omega
 .obtain⟨l,Q⟩:=r.sv i;rw[s]at l Q;have h3:=Q o (by simp);rw[sd,ve,S]at l;rw[cJ (by omega)]at x;refine⟨?_,λu n=>?_⟩
  .dsimp only;rw[sd,sd,ve,cX,cX,lD];simp only[pU,kD,pM,ep]at l h3 R|-;omega
  .rcases dV.1 n with n|n
   .exact Q u (yp n)
   .obtain rfl:=fI.1 n;simp only[ep];omega
 .have l:=r.fr i;rw[s,lf,mG]at l;dsimp only;rw[lf,lf,mG];simp only[ep]at R;simp only[fk,kD,pM]at l|-;omega
def jy.m8 (m:a.Ok)(i:jy a b d c f):jy a (m8 a b d e).1 (m8 a b d e).2 c f:=by
 unfold Go.Proofs.YtdlpoonfcdoiiaaGreat.m8;split
 .exact i
 .rename_i y q;obtain⟨x,s,t,rfl,rfl,j⟩:=KY q;have h:iT b.L x.1=s++t:=by
   conv=>lhs;rw[j]
   exact vB (by rw[<-j];exact Ej i.nd)
  split
  .exact i
  .split
   .rename_i p;have:=i.taken j p;unfold iV.take;rw[h];exact this
   .split
    .exact i
    .rename_i w r;split
     .exact i
     .rename_i n;obtain⟨u,v,k⟩:=pJ (Lw r);have l:(cE d).Nodup:=i.nD.imp λi=>pj i;have o:iT d w.1=u++v:=by
       conv=>lhs;rw[k]
       exact vB (by rw[<-k];exact l)
      have:=i.ako m.mode m.et.1 j k (Nat.lt_of_not_le n);unfold iV.swap;rw[h,o];exact this
def RF {l m:C En}{i:En}(q:(cE (l++i::m)).Nodup):((l++i::m).map λj=>if j.1=i.1 then(i.1,j.2.1+g,j.2.2)else j)=l++(i.1,i.2.1+g,i.2.2)::m:=by
 obtain⟨n,o,_⟩:=wY q;have h:∀{k:C En},i.1∉cE k->(k.map λj=>if j.1=i.1 then(i.1,j.2.1+g,j.2.2)else j)=k:=λ{k} p=>by refine(k5 λj r=>?_).trans (wc k);rw[cJ λh=>p (by rw[<-h];exact gu r)];rfl
 rw[dE,dA,cM rfl,h n,h o]
def jy.atL (m:jy a b d c f){n:En}(R:1<=g)(G:kh d e=some n):jy a b (d.map λo=>if o.1=e then(e,o.2.1+g,o.2.2)else o) (c+g) (uD f e g):=by
 obtain⟨rfl,D,E,k,_⟩:=vl G;have u:(cE d).Nodup:=m.nD.imp λm=>pj m;have q:=RF (g:=g) (by rw[<-k];exact u);rw[<-k]at q;rw[q];have t:n∈d:=by rw[k];simp
 have K:=m.one n (ki.2 (.inr t));have p:cE (D++(n.1,n.2.1+g,n.2.2)::E)=cE d:=by rw[k,cE,cE];simp
 have z:n.1∉cE b.L:=λv=>(kR.1 m.nd).2.2 n.1 v n.1 (gu t) rfl;have s:∀o∈D++E,o.1≠n.1:=λo l h=>by
  have i:=(wY (t:=D) (o:=E) (s:=n) (by rw[<-k];exact u));rcases dV.1 l with l|l
  .exact i.1 (by rw[<-h];exact gu l)
  .exact i.2.1 (by rw[<-h];exact gu l)
 have H:=m.owns;rw[k,lf,mG]at H;refine⟨by have:=m.dY;omega,m.len,?_,by rw[p];exact m.nD,by rw[p];exact m.nd,λo l=>?_,λS v r=>?_,?_,m.sv,m.fr⟩
 .have i:=m.sN;rw[k]at i;rw[cX,eE]at i|-;omega
 .rcases ki.1 l with⟨Q,y,rfl⟩|l
  .have i:=m.one _ (ki.2 (.inl ⟨Q,y,rfl⟩));have x:(iM a.mode b.base Q).1≠n.1:=λh=>z (by rw[<-h];exact dz.2 ⟨Q,y,rfl⟩);rw[qg x];exact⟨by omega,by omega,by omega,by omega,by omega,i.2.2.2.2.2⟩
  .rcases dV.1 l with j|j
   .have i:=m.one o (ki.2 (.inr (by rw[k];exact gI _ j)));rw[qg (s o (gI _ j))];exact⟨by omega,by omega,by omega,by omega,by omega,i.2.2.2.2.2⟩
   .rcases dh.1 j with rfl|j
    .dsimp only;rw[CH];exact⟨by omega,by omega,by omega,by omega,by omega,K.2.2.2.2.2⟩
    .have i:=m.one o (ki.2 (.inr (by rw[k];simp[j])));rw[qg (s o (iA _ j))];exact⟨by omega,by omega,by omega,by omega,by omega,i.2.2.2.2.2⟩
 .rw[p]at r;rw[qg λh=>r (by rw[h];exact gu t)];exact m.out S v r
 .rw[lf,mG];dsimp only;omega
def jy.ac5 (j:a.Ok)(i:jy a b d c f)(e:U):f e<=c:=by
 by_cases h:e∈cE (ml a b d)
 .obtain⟨o,k,rfl⟩:=dz.1 h;have:=i.one o k;omega
 .rw[Gn]at h;have l:=i.out e (λi=>h (gI _ i)) (λi=>h (iA _ i));have m:=i.F1 j.mode j.et.1;have n:=i.dY;omega
end
structure uW (b:PC)(a:PT)(c:U->Nat):Prop where
 x:jy b a.T a.X a.sum c
 sk:tO b a.R a.sum c
def uW.add {d:PC}{c:PT}{j:U->Nat}{k:U}{w:Nat}(a:d.Ok)(h:uW d c j)(g:1<=w)(f:k≠ByteArray.empty)(i:k.size<=255)(l:c.sum<=9223372036854775808):
 uW d (c.add d k w) (uD j k w)/\(c.add d k w).sum=c.sum+w:=by
 have b:=h.sk.add (k:=k) (w:=w) a.width.1 a.depth.1 (by have:=h.x.ac5 a k;omega)
 unfold PT.add
 cases e:kh c.X k with
 |some m=>exact⟨⟨h.x.atL g e,b⟩,rfl⟩
 |none=>exact⟨⟨(h.x.Up a g f i (rq.1 e)).m8 a,b⟩,rfl⟩
abbrev kO:=C (U×Nat)
def wt (b:kO)(c:U):Nat:=((b.filter λa=>decide (a.1=c)).map Prod.snd).sum
def eA (a:kO):Nat:=(a.map Prod.snd).sum
def atD (c:kO)(a:U)(e:Nat):wt (c++[(a,e)])=uD (wt c) a e:=by
 funext d;unfold wt uD;rw[qT,dE,mV];by_cases b:d=a
 .subst b;simp
 .rw[cJ b,nI (by simpa using λf:a=d=>b f.symm)];simp
def M9 (a:kO)(c:U)(b:Nat):eA (a++[(c,b)])=eA a+b:=by simp[eA]
def lQ (a:U×Nat):Prop:=a.1≠ByteArray.empty/\a.1.size<=255/\1<=a.2
def PT.of (a:PC)(c:kO):PT:=c.foldl (λd b=>d.add a b.1 b.2) (PT.new a)
def PT.R9 (a:PC)(c:kO)(b:U)(d:Nat):PT.of a (c++[(b,d)])=(PT.of a c).add a b d:=by rw[PT.of,uK];rfl
def PT.HA {d:PC}(o:d.Ok):∀(a:kO),(∀b∈a,lQ b)->eA a<=9223372036854775808->uW d (PT.of d a) (wt a)/\(PT.of d a).sum=eA a:=by
 have h:∀(i:Nat)(a:kO),a.length=i->(∀b∈a,lQ b)->eA a<=9223372036854775808->uW d (PT.of d a) (wt a)/\(PT.of d a).sum=eA a:=by
  intro i;induction i with
  |zero=>intro a c _ _;obtain rfl:=ll c;exact⟨⟨jy.new d,tO.new d⟩,rfl⟩
  |succ i r=>
   intro a c e q;have g:a≠[]:=λb=>by rw[b]at c;cases c
   obtain⟨f,b,rfl⟩:∃f b,a=f++[b]:=⟨_,_,(CT g).symm⟩;obtain⟨s,t⟩:=b;rw[M9]at q;obtain⟨j,k⟩:=r f (by simpa using c) (λb p=>e b (gI _ p)) (by omega);obtain⟨l,m,n⟩:=e (s,t) (by simp);have:=j.add o n l m (by omega);rw[PT.R9,atD,M9,<-k];exact this
 exact λa=>h a.length a rfl
abbrev Ev:=Nat×U×Nat
structure e8 where
 D:C Ev
 Q:C Ev
def ez (c:Nat)(b:C Ev):kO:=(b.filter λa=>decide (a.1=c)).map Prod.snd
def B5 (a:Nat)(b c:C Ev):ez a (b++c)=ez a b++ez a c:=by simp[ez]
def B6 {b:Nat}{a:C Ev}:ez b a=[]↔∀c∈a,c.1≠b:=by rw[ez,List.map_eq_nil_iff,CV];simp
def kK (a:Nat):C Ev->Nat
 |[]=>0
 |c::b=>if kK a b=0 then(if c.1<=a then 1 else 0)else kK a b+1
def UY (b:Nat):∀a:C Ev,kK b a<=a.length
 |[]=>dT _
 |c::a=>by
  have:=UY b a;rw[kK,eE];split
  .split<;>omega
  .omega
def EN (d:Nat):∀c:C Ev,∀b∈c.drop (kK d c),d<b.1
 |[],b,a=>by simp at a
 |f::c,b,a=>by
  rw[kK]at a;split at a
  .rename_i h0;split at a
   .rename_i e;have:=EN d c b;rw[h0]at this;exact this (by simpa using a)
   .rename_i e;rw[yX]at a;rcases dh.1 a with rfl|a
    .omega
    .have:=EN d c b;rw[h0]at this;exact this (by simpa using a)
  .rw[xz]at a;exact EN d c b a
def e8.step (a:e8):e8:=match a.Q with
 |[]=>a
 |b::c=>⟨a.D++[b],c⟩
def e8.push (a:e8)(b:Ev):e8:=⟨a.D,a.Q++[b]⟩
def e8.drain (a:e8)(b:Nat):e8:=⟨a.D++a.Q.take (kK b a.Q),a.Q.drop (kK b a.Q)⟩
def e8.close (a:e8)(c:Nat):e8:=⟨a.D.filter λb=> !decide (b.1=c),a.Q⟩
def e8.all (a:e8):C Ev:=a.D++a.Q
def e8.aj7 (a:e8):a.step.all=a.all:=by
 obtain⟨c,b⟩:=a;cases b with
 |nil=>rfl
 |cons d e=>simp[e8.step,e8.all]
def e8.OU (a:e8)(b:Nat):(a.drain b).all=a.all:=by unfold e8.drain e8.all;dsimp only;rw[dJ,gJ]
def e8.J9 (b:e8)(a:Nat):ez a (b.drain a).D=ez a b.all:=by
 rw[<-b.OU a];have e:ez a (b.drain a).Q=[]:=B6.2 λd c=>by have:=EN a b.Q d c;omega
 rw[e8.all,B5,e,eN]
def e8.YW (c:e8)(d:Nat)(e:∀a∈c.Q,a.1≠d):(c.close d).all=c.all.filter λa=> !decide (a.1=d):=by unfold e8.close e8.all;dsimp only;rw[qT];congr 1;rw[zg,sW];intro a b;simpa using e a b
structure PS where
 total:Nat
 E:C En
 iO:Nat
 R:C (C Nat)
def PT.jU (b:PC)(a:PT):PS:=⟨a.sum,mh (ml b a.T a.X),a.T.base,a.R⟩
def PS.zero:PS:=⟨0,[],0,[]⟩
def jU (a:PC)(b:kO):PS:=if b=[]then PS.zero else(PT.of a b).jU a
def PS.q9 (b:PC)(a:PS)(c:U):Nat:=if a.R=[]then a.total else qb (b.at c) a.R
def PS.iC (c:PC)(a:PS)(b:U):Nat×Nat:=match kh a.E b with
 |some d=>(min d.2.1 (a.q9 c b),min (d.2.1+d.2.2) (a.q9 c b))
 |none=>(0,min a.iO (a.q9 c b))
def PC.n (a:PC):Nat:=if a.mode=2 then a.et+1 else a.et
structure Bm (c:PC)(a:PS)(e:kO):Prop where
 total:a.total=eA e
 nD:gd (cE a.E)
 one:∀b∈a.E,b.2.1<=wt e b.1/\wt e b.1<=b.2.1+b.2.2/\1<=b.2.1/\b.2.1+b.2.2<=a.total/\c.n*b.2.2<=a.total/\b.1≠ByteArray.empty/\b.1.size<=255
 out:∀d,d∉cE a.E->wt e d<=a.iO
 iO:c.n*a.iO<=a.total/\a.iO<=a.total
 owns:fk a.E<=a.total
 len:a.E.length<=c.et+c.exact
 rows:a.R=[]\/a.R.length=c.depth
 row:∀f∈a.R,f.length=c.width/\∀b∈f,b<=a.total
 q9:∀d,wt e d<=a.q9 c d/\a.q9 c d<=a.total
def xn {b c:C Nat}(d:b.Sublist c):b.sum<=c.sum:=by
 induction d with
 |slnil=>exact dT _
 |cons e _ a=>rw[iE];omega
 |cons_cons e _ a=>rw[iE,iE];omega
def atB (a:kO)(b:U):wt a b<=eA a:=by unfold wt eA;exact xn (vZ.map _)
def T5 {d:PC}(f:d.Ok){m:kO}(v:∀o∈m,lQ o)(z:eA m<=9223372036854775808):Bm d (jU d m) m:=by
 unfold jU;split
 .rename_i k;subst k;exact⟨rfl,List.Pairwise.nil,λA b=>(nomatch b),λj _=>dT _,⟨dT _,dT _⟩,dT _,gK _,.inl rfl,λE y=>(nomatch y),λj=>⟨dT _,dT _⟩⟩
 .obtain⟨⟨b,e⟩,h⟩:=PT.HA f m v z;generalize PT.of d m=c at b e h;have i:=xm (ml d c.T c.X);have x:(cE (ml d c.T c.X)).Nodup:=by rw[Gn];exact b.nd
  have l:=b.Lz f.mode;have B:=b.F1 f.mode f.et.1;have D:=b.dY;have u:=f.depth.1;have t:c.R≠[]:=λo=>by have:=e.len;rw[o]at this;simp at this;omega
  have g:∀r,r<=c.T.base->d.n*r<=c.sum:=λr k=>by have a:d.n*r<=d.n*c.T.base:=Bd _ k;have s:d.n*c.T.base<=c.T.dY:=l;omega
  refine⟨h,EE x,λA q=>?_,λj p=>?_,⟨g _ (dT _),by show c.T.base<=c.sum;omega⟩,?_,?_,.inr e.len,e.row,λj=>?_⟩
  .have a:=b.one A (i.mem_iff.1 q);exact⟨a.1,a.2.1,a.2.2.2.1,a.2.2.2.2.1,g _ a.2.2.1,a.2.2.2.2.2⟩
  .have a:j∉cE (ml d c.T c.X):=λw=>p ((i.map Prod.fst).mem_iff.2 w);rw[Gn]at a;exact b.out j (λk=>a (gI _ k)) (λk=>a (iA _ k))
  .show fk (mh (ml d c.T c.X))<=c.sum;rw[LU i,ml,lf,aip];exact b.owns
  .show(mh (ml d c.T c.X)).length<=_;have a:=b.len;have s:=b.sN;rw[i.length_eq,ml,cX,dL];omega
  .have o:PS.q9 d (c.jU d) j=qb (d.at j) c.R:=cJ t;rw[o];refine⟨e.PB ?_,e.Kr u⟩;have:=atB m j;omega
def Bm.iC {c:PC}{b:PS}{h:kO}(f:Bm c b h)(a:U):(b.iC c a).1<=wt h a/\wt h a<=(b.iC c a).2/\c.n*((b.iC c a).2-(b.iC c a).1)<=b.total/\(b.iC c a).2<=b.total:=by
 obtain⟨i,j⟩:=f.q9 a;unfold PS.iC;cases d:kh b.E a with
 |some k=>obtain⟨rfl,_⟩:=vl d;have e:=f.one k (KO d);dsimp only;refine⟨by omega,by omega,?_,by omega⟩;refine gF (Bd _ ?_) e.2.2.2.2.1;omega
 |none=>have e:=f.out a (rq.1 d);have g:=f.iO;dsimp only;refine⟨by omega,by omega,?_,by omega⟩;refine gF (Bd _ ?_) g.1;omega
def PC.home (a:PC)(b:U):Nat:=mD a.table a.rM a.dm b
def PC.set (a:PC)(c:U):C Nat:=(List.range a.spread).map λb=>(a.home c+b) % a.dm
def PC.oU (a:PC)(b:U)(c:Nat):Nat:=(a.home b+c % a.spread) % a.dm
def RU {b a c d:Nat}(l:c<a)(m:d<a)(j:(b+c) % a=(b+d) % a):c=d:=by
 have h:=Jo (b+c) a;have k:=Jo (b+d) a;rw[j]at h;have i:a*((b+c)/a)+d=a*((b+d)/a)+c:=by omega
 rcases xI ((b+c)/a) ((b+d)/a)with g|e|f
 .have:=Bd a (Nat.succ_le_of_lt g);rw[Nat.mul_succ]at this;omega
 .rw[e]at i;omega
 .have:=Bd a (Nat.succ_le_of_lt f);rw[Nat.mul_succ]at this;omega
def PC.Mm {e:PC}(b:e.Ok)(h:U):(e.set h).Nodup:=by unfold PC.set;have g:=b.spread.2;refine oE.2 (List.Pairwise.imp_of_mem ?_ zb);intro i j c d a f;exact a (RU (by have:=lE.1 c;omega) (by have:=lE.1 d;omega) f)
def PC.xj {a:PC}(b:a.Ok){e:U}{c:Nat}(d:c∈a.set e):c<a.dm:=by obtain⟨f,_,rfl⟩:=dz.1 d;exact uQ _ (by have:=b.dm;omega)
def PC.aiC {a:PC}(b:a.Ok)(c:U)(d:Nat):a.oU c d∈a.set c:=dz.2 ⟨d % a.spread,lE.2 (uQ _ (by have:=b.spread;omega)),rfl⟩
def PC.HW (a:PC)(b:U):(a.set b).length=a.spread:=by simp[PC.set]
def MB {f:Nat}{c:Nat->Nat}:∀{e:C Nat},e.Nodup->(∀b∈e,b<f)->(∀b,b<f->c b≠0->b∈e)->(e.map c).sum=((List.range f).map c).sum:=by
 intro e i h g;have l:(e.map c).sum=((e.filter λb=>decide (c b≠0)).map c).sum:=by
  clear i h g;induction e with
  |nil=>rfl
  |cons n e d=>
   by_cases a:c n=0
   .rw[nI (by simp[a]),dA,iE,a,d];omega
   .rw[oC (by simp[a]),dA,dA,iE,iE,d]
 have m:((List.range f).map c).sum=(((List.range f).filter λb=>decide (c b≠0)).map c).sum:=by
  generalize List.range f=o;induction o with
  |nil=>rfl
  |cons n e d=>
   by_cases a:c n=0
   .rw[nI (by simp[a]),dA,iE,a,d];omega
   .rw[oC (by simp[a]),dA,dA,iE,iE,d]
 rw[l,m];refine List.Perm.sum_nat (List.Perm.map _ ((tH (i.filter _) (zb.filter _)).2 λb=>?_));simp only[kE,lE,fU];exact⟨λ⟨k,j⟩=>⟨h b k,j⟩,λ⟨k,j⟩=>⟨g b k j,j⟩⟩
def vG {e f:Nat->Nat}:∀(b:C Nat),(∀c∈b,e c<=f c)->(b.map e).sum<=(b.map f).sum
 |[],_=>dT _
 |g::b,a=>by have:=vG b λc d=>a c (dN _ d);have:=a g (dQ ..);simp only[dA,iE];omega
def TZ {c d i:Nat->Nat}{h:Nat}:∀(a:C Nat),(∀b∈a,c b<=d b/\h*(d b-c b)<=i b)->h*((a.map d).sum-(a.map c).sum)<=(a.map i).sum
 |[],_=>by simp
 |g::a,f=>by
  have k:=TZ a λb e=>f b (dN _ e);have l:=vG a λb e=>(f b (dN _ e)).1;obtain⟨m,n⟩:=f g (dQ ..);simp only[dA,iE];have j:d g+(a.map d).sum-(c g+(a.map c).sum)=(d g-c g)+((a.map d).sum-(a.map c).sum):=by omega
  rw[j,Nat.mul_add];omega
def T3 {h:Nat}{d:Nat->Nat}{c:C Nat}(g:c.Nodup)(f:∀a∈c,a<h):(c.map d).sum<=((List.range h).map d).sum:=by
 have e:(c.map d).sum=((List.range h).map λa=>if a∈c then d a else 0).sum:=by
  rw[<-MB (c:=λa=>if a∈c then d a else 0) g f (λa _ e=>by
   by_cases b:a∈c
   .exact b
   .rw[cJ b]at e;exact absurd rfl e)]
  congr 1;exact k5 λa b=>by rw[cM b]
 rw[e];refine vG _ λa _=>?_;split
 .exact dT _
 .exact gK _
def th (a:U):C U->C U
 |[]=>[a]
 |b::c=>if eI b a then b::th a c else if eI a b then a::b::c else b::c
def qH (a:C U):C U:=a.foldr th []
def LI {d f:U}:∀{e:C U},f∈th d e↔f=d\/f∈e
 |[]=>by simp[th]
 |h::e=>by
  rw[th];split
  .rw[dh,LI,dh];constructor
   .rintro(a|a|a)<;>simp[a]
   .rintro(a|a|a)<;>simp[a]
  .split
   .rw[dh]
   .rename_i b c;have g:h=d:=uk (by simpa using b) (by simpa using c);subst g;rw[dh];constructor
    .rintro(a|a)<;>simp[a]
    .rintro(a|a|a)<;>simp[a]
def QS {g:U}:∀{d:C U},gd d->gd (th g d)
 |[],_=>r4 _ _
 |h::d,f=>by
  have c:(∀e∈d,eI h e=true)/\gd d:=jD.1 f;rw[th];split
  .rename_i b;refine jD.2 ⟨λe a=>?_,QS c.2⟩;rcases LI.1 a with rfl|a
   .exact b
   .exact c.1 e a
  .split
   .rename_i b;refine jD.2 ⟨λe a=>?_,f⟩;rcases dh.1 a with rfl|a
    .exact b
    .exact sC b (c.1 e a)
   .exact f
def Ef:∀a:C U,gd (qH a)
 |[]=>List.Pairwise.nil
 |_::a=>QS (Ef a)
def Ed {c:U}:∀{a:C U},c∈qH a↔c∈a
 |[]=>Iff.rfl
 |b::a=>by rw[show qH (b::a)=th b (qH a)from rfl,LI,Ed,dh]
def Ia {b:C U}(a:gd b):b.Nodup:=a.imp λa=>pj a
def adI {b a:C U}(e:gd a)(c:∀d,d∈a↔d∈b):a=qH b:=Cx e (Ef b) ((tH (Ia e) (Ia (Ef b))).2 λd=>by rw[c,Ed])
def mF (a b:En):Bool:=decide (b.2.2<a.2.2)||(decide (a.2.2=b.2.2)&&eI a.1 b.1)
def Rn (a:En):mF a a=false:=by simp[mF,yr]
def Lu {e f g:En}(a:mF e f=true)(b:mF f g=true):mF e g=true:=by
 simp only[mF,jh,iu,fU]at a b|-;rcases a with a|⟨a,c⟩<;>rcases b with b|⟨b,d⟩
 .left;omega
 .left;omega
 .left;omega
 .exact .inr ⟨by omega,sC c d⟩
def Rp {c d:En}(e:c.1≠d.1)(h:mF c d=false):mF d c=true:=by
 simp only[mF,I1,I0,Bg]at h;simp only[mF,jh,iu,fU];obtain⟨f,b⟩:=h;rcases xI c.2.2 d.2.2 with a|a|a
 .exact .inl a
 .refine .inr ⟨a.symm,?_⟩;rcases b with b|b
  .exact absurd a b
  .cases g:eI d.1 c.1 with
   |true=>rfl
   |false=>exact absurd (uk b g) e
 .exact absurd a f
def uI (c:C En):Prop:=c.Pairwise λa b=>mF a b=true
def B7 (a:En):C En->C En
 |[]=>[a]
 |b::c=>if mF b a then b::B7 a c else a::b::c
def m9 (a:C En):C En:=a.foldr B7 []
def Li (b:En):∀a,(B7 b a).Perm (b::a)
 |[]=>cD _
 |c::a=>by
  rw[B7];split
  .exact((Li b a).cons c).trans (List.Perm.swap ..)
  .exact cD _
def z8:∀a,(m9 a).Perm a
 |[]=>cD _
 |b::a=>(Li b (m9 a)).trans ((z8 a).cons b)
def QY {h:En}:∀{e:C En},uI e->h.1∉cE e->uI (B7 h e)
 |[],_,_=>r4 _ _
 |k::e,j,f=>by
  have d:(∀g∈e,mF k g=true)/\uI e:=jD.1 j;rw[B7];split
  .rename_i b;refine jD.2 ⟨λg a=>?_,QY d.2 (λi=>f (dN _ i))⟩;rcases dh.1 ((Li h e).mem_iff.1 a)with rfl|a
   .exact b
   .exact d.1 g a
  .rename_i b;have c:mF h k=true:=Rp (λl=>f (by rw[<-l];exact dQ ..)) (by simpa using b);refine jD.2 ⟨λg a=>?_,j⟩;rcases dh.1 a with rfl|a
   .exact c
   .exact Lu c (d.1 g a)
def Mu:∀{a:C En},(cE a).Nodup->uI (m9 a)
 |[],_=>List.Pairwise.nil
 |e::a,d=>by have b:e.1∉cE a/\(cE a).Nodup:=iB.1 d;exact QY (Mu b.2) λc=>b.1 ((((z8 a).map Prod.fst).mem_iff).1 c)
structure jg where
 eP:Nat
 total:Nat
 lines:C En
 overflow:Nat
 ie:Nat
 rest:Nat
 pC:C Nat
def ot (b:PC)(d:Nat->PS)(a:U):En:=(a,((b.set a).map λc=>((d c).iC b a).1).sum,((b.set a).map λc=>((d c).iC b a).2).sum)
def kS (b:PC)(a:Nat->PS):C U:=qH ((List.range b.dm).flatMap λc=>cE (a c).E)
def lG (b:PC)(a:Nat->PS):C En:=m9 ((kS b a).map (ot b a))
def rG (b:PC)(a:Nat->PS):Nat:=((List.range b.dm).map λc=>(a c).total).sum
def oS (a:Nat)(b:C Nat):Nat:=b.foldl Nat.max a
def Eh (a:PC)(b:Nat->PS):Nat:=oS 0 ((List.range a.dm).map λc=>((List.range a.spread).map λd=>(b ((c+d) % a.dm)).iO).sum)
def rF (a:PC)(b:Nat->PS)(d:Nat)(c:C Nat):jg where
 eP:=d
 total:=rG a b
 lines:=(lG a b).take a.top
 overflow:=rG a b-fk ((lG a b).take a.top)
 ie:=(kS a b).length
 rest:=oS (Eh a b) (((lG a b).drop a.top).map λe=>e.2.2)
 pC:=c
def LA:∀(c:C Nat)(a:Nat),a<=oS a c/\∀f∈c,f<=oS a c
 |[],a=>⟨dT _,by simp⟩
 |g::c,a=>by
  obtain⟨d,e⟩:=LA c (Nat.max a g);have h:oS a (g::c)=oS (Nat.max a g) c:=rfl;rw[h];refine⟨gF (Nat.le_max_left ..) d,λf b=>?_⟩;rcases dh.1 b with rfl|b
  .exact gF (Nat.le_max_right ..) d
  .exact e f b
structure wx (e:PC)(b:jg)(c:U->Nat)(W:Nat):Prop where
 total:b.total=W
 bounds:∀a∈b.lines,a.2.1<=c a.1/\c a.1<=a.2.2/\e.n*(a.2.2-a.2.1)<=W/\a.2.2<=W
 RH:fk b.lines+b.overflow=W
 nD:uI b.lines
 rest:∀d,d∉cE b.lines->c d<=b.rest
 keys:∀a∈b.lines,c a.1≠0
def aty (a:U×Nat)(d:kO)(c:U):wt (a::d) c=(if a.1=c then a.2 else 0)+wt d c:=by
 unfold wt;by_cases b:a.1=c
 .rw[oC (by simp[b]),cM b];simp
 .rw[nI (by simp[b]),cJ b];simp
def Vp:∀(c:kO){a:C U},a.Nodup->(a.map (wt c)).sum<=eA c
 |[],a,_=>by
  have:a.map (wt [])=a.map λ_=>0:=k5 λ_ _=>rfl;rw[this];clear this;have:∀a:C U,(a.map λ_=>(0:Nat)).sum=0:=λa=>by
   induction a with
   |nil=>rfl
   |cons e a b=>simpa using b
  rw[this];exact gK _
 |d::c,a,g=>by
  have b:=Vp c g;have h:(a.map (wt (d::c))).sum=(a.map λe=>if d.1=e then d.2 else 0).sum+(a.map (wt c)).sum:=by
   clear b g;induction a with
   |nil=>rfl
   |cons e a b=>simp only[dA,iE,b,aty];omega
  have o:(a.map λe=>if d.1=e then d.2 else 0).sum<=d.2:=by
   clear h b;induction a with
   |nil=>exact gK _
   |cons e a b=>
    obtain⟨i,j⟩:=iB.1 g;simp only[dA,iE];by_cases f:d.1=e
    .have k:(a.map λe=>if d.1=e then d.2 else 0)=a.map λ_=>0:=k5 λp m=>cJ λn=>i (by rw[<-f,n];exact m);have l:∀c:C U,(c.map λ_=>(0:Nat)).sum=0:=λc=>by
      induction c with
      |nil=>rfl
      |cons _ c b=>simpa using b
     rw[k,l,cM f];omega
    .rw[cJ f];have:=b j;omega
  rw[h];have:eA (d::c)=d.2+eA c:=by simp[eA]
  omega
def aho (a:C U)(b:U->En):fk (a.map b)=(a.map λc=>(b c).2.1).sum:=by rw[fk,jj];rfl
def ahp {a b:C En}(c:a.Sublist b):fk a<=fk b:=xn (c.map _)
def akd {a:C U}{f g:U->Nat}(b:∀c∈a,f c<=g c):(a.map f).sum<=(a.map g).sum:=by
 induction a with
 |nil=>exact dT _
 |cons c a e=>have:=e λh d=>b h (dN _ d);have:=b c (dQ ..);simp only[dA,iE];omega
def T4 {a:C U}{d:Nat->U->Nat}:∀f:C Nat,(a.map λe=>(f.map λc=>d c e).sum).sum=(f.map λc=>(a.map (d c)).sum).sum
 |[]=>by
  have:(a.map λe=>(([]:C Nat).map λc=>d c e).sum)=a.map λ_=>0:=rfl;rw[this];induction a with
  |nil=>rfl
  |cons _ a b=>simpa using b rfl
 |c::f=>by
  have b:=T4 (a:=a) (d:=d) f;simp only[dA,iE];rw[<-b];clear b;induction a with
  |nil=>rfl
  |cons e a b=>simp only[dA,iE,b];omega
section
variable{a:PC}{b:Nat->PS}{c:Nat->kO}
def SN (j:a.Ok)(hS:∀d,d<a.dm->Bm a (b d) (c d))(S:∀d,d<a.dm->∀f,wt (c d) f≠0->d∈a.set f)(P:Nat)(H:C Nat):wx a (rF a b P H) (λf=>((List.range a.dm).map λd=>wt (c d) f).sum) (((List.range a.dm).map λd=>eA (c d)).sum):=by
 have o:=λf=>MB (c:=λd=>wt (c d) f) (a.Mm j f) (λd e=>PC.xj j e) (λd e X=>S d e f X);have t:rG a b=((List.range a.dm).map λd=>eA (c d)).sum:=by unfold rG;congr 1;exact k5 λd e=>(hS d (lE.1 e)).total
 have i:∀f,(ot a b f).2.1<=((List.range a.dm).map λd=>wt (c d) f).sum/\((List.range a.dm).map λd=>wt (c d) f).sum<=(ot a b f).2.2/\a.n*((ot a b f).2.2-(ot a b f).2.1)<=rG a b/\(ot a b f).2.2<=rG a b:=λf=>by
  rw[<-o f];have l:∀d∈a.set f,_:=λd e=>(hS d (PC.xj j e)).iC f;have p:=T3 (d:=λd=>(b d).total) (a.Mm j f) (λd e=>PC.xj j e);refine⟨vG _ λd e=>(l d e).1,vG _ λd e=>(l d e).2.1,?_,?_⟩
  .refine gF (TZ (i:=λd=>(b d).total) _ λd e=>⟨gF (l d e).1 (l d e).2.1,(l d e).2.2.1⟩) p
  .exact gF (vG _ λd e=>(l d e).2.2.2) p
 have s:(kS a b).Nodup:=Ia (Ef _);have A:cE ((kS a b).map (ot a b))=kS a b:=by rw[cE,jj];exact(k5 λf _=>rfl).trans (wc _)
 have y:uI (lG a b):=Mu (by rw[A];exact s);have k:∀{m},m∈lG a b↔∃f∈kS a b,ot a b f=m:=λ{m}=>by rw[lG,(z8 _).mem_iff,dz]
 have u:fk (lG a b)<=((List.range a.dm).map λd=>eA (c d)).sum:=by rw[lG,LU (z8 _),aho];refine gF (akd λf _=>(i f).1) ?_;rw[T4];exact vG _ λd _=>Vp (c d) s
 have K:fk ((lG a b).take a.top)<=((List.range a.dm).map λd=>eA (c d)).sum:=gF (ahp (wg ..)) u;refine⟨t,λm w=>?_,?_,y.sublist (wg ..),λf v=>?_,λz T=>?_⟩
 .obtain⟨f,_,rfl⟩:=k.1 (qq w);rw[<-t];exact i f
 .show fk ((lG a b).take a.top)+(rG a b-fk ((lG a b).take a.top))=_;rw[t];omega
 .show _<=oS (Eh a b) (((lG a b).drop a.top).map λm=>m.2.2);obtain⟨L,Q⟩:=LA (((lG a b).drop a.top).map λm=>m.2.2) (Eh a b);by_cases r:f∈kS a b
  .have h:ot a b f∈lG a b:=k.2 ⟨f,r,rfl⟩;rw[<-gJ a.top (lG a b)]at h;rcases dV.1 h with h|h
   .exact absurd (dz.2 ⟨_,h,rfl⟩) v
   .exact gF (i f).2.1 (Q _ (dz.2 ⟨_,h,rfl⟩))
  .refine gF ?_ L;have G:∀d,d<a.dm->f∉cE (b d).E:=λd e R=>r (Ed.2 (rZ.2 ⟨d,lE.2 e,R⟩));rw[<-o f];have h:((a.set f).map λd=>wt (c d) f).sum<=((a.set f).map λd=>(b d).iO).sum:=vG _ λd e=>(hS d (PC.xj j e)).out f (G d (PC.xj j e));have x:((a.set f).map λd=>(b d).iO)=(List.range a.spread).map λd=>(b ((a.home f+d) % a.dm)).iO:=by rw[PC.set,jj];rfl
   rw[x]at h;refine gF h ((LA _ 0).2 _ (dz.2 ⟨a.home f,lE.2 ?_,rfl⟩));exact zH _ _ j.dm.1 f
 .obtain⟨f,v,rfl⟩:=k.1 (qq T);obtain⟨d,e,D⟩:=rZ.1 (Ed.1 v);have e:=lE.1 e;obtain⟨m,w,rfl⟩:=dz.1 D;have h:=(hS d e).one m w;have x:wt (c d) m.1<=((List.range a.dm).map λd=>wt (c d) m.1).sum:=by obtain⟨ab,B,W⟩:=pJ (lE.2 e);rw[W];simp only[dE,dA,mV,iE];omega
  show((List.range a.dm).map λd=>wt (c d) m.1).sum≠0;omega
end
structure dg where
 sh:C e8
 dY:C (Int×Nat)
 acc:Nat
 fN:C Nat
 wm:Nat
def PC.low (b:PC)(a:Nat):Nat:=(a-b.late)/b.length
def PC.gx (a:PC)(b:Nat):Nat:=b/a.length
def PC.verdict (a:PC)(b c:Nat):Nat:=if a.gx c<a.low b then 3 else if a.low b+a.ga<=a.gx c then 4 else 0
structure gH where
 key:U
 time:Nat
 weight:Nat
def gH.ev (b:PC)(a:gH):Ev:=(b.gx a.time,a.key,a.weight)
def dg.total (a:dg)(b:Nat):Nat:=(ed a.dY (b:Int)).getD 0
def dg.iI (b:dg)(a:Nat):e8:=b.sh.getD a ⟨[],[]⟩
def dg.take (c:PC)(a:dg)(b:gH):dg:={a with sh:=a.sh.modify (c.oU b.key a.acc) (λd=>d.push (b.ev c)),dY:=nM a.dY (c.gx b.time:Int) (a.total (c.gx b.time)+b.weight),acc:=a.acc+1}
def dg.jn (a:PC)(b:dg)(c:gH):Nat:=if a.verdict b.wm c.time≠0 then a.verdict b.wm c.time else if 9223372036854775808<b.total (a.gx c.time)+c.weight then 5 else if(b.iI (a.oU c.key b.acc)).Q.length=a.queue then 6 else 0
abbrev kr:=gH⊕Nat
def dg.jb (a:PC)(b:dg):kr->Nat
 |.inl d=>b.jn a d
 |.inr c=>c
def dg.py (a:dg)(c:Nat):dg:={a with fN:=a.fN.modify c (λb=>min (b+1) 18446744073709551615)}
def dg.k9 (b:PC)(a:dg)(d:kr):dg:=match d with
 |.inl c=>if a.jn b c=0 then a.take b c else a.py (a.jn b c)
 |.inr e=>a.py e
def dg.feed (c:PC):dg->C kr->dg×C Nat
 |a,[]=>(a,[])
 |a,b::d=>((dg.feed c (a.k9 c b) d).1,a.jb c b::(dg.feed c (a.k9 c b) d).2)
def dg.close (c:PC)(b:dg)(a:Nat):dg×jg:=({b with sh:=b.sh.map λe=>(e.drain a).close a,dY:=ig b.dY (a:Int)},rF c (λd=>jU c (ez a ((b.iI d).drain a).D)) a b.fN)
def dg.jR (a:PC):dg->C Nat->dg×C jg
 |b,[]=>(b,[])
 |b,c::d=>((dg.jR a (b.close a c).1 d).1,(b.close a c).2::(dg.jR a (b.close a c).1 d).2)
def su (a:Nat):C Nat->C Nat
 |[]=>[a]
 |b::c=>if b<a then b::su a c else a::b::c
def vF (a:C Nat):C Nat:=a.foldr su []
def dg.due (b:PC)(c:dg)(a:Nat):C Nat:=(vF (c.dY.map λd=>d.1.toNat)).filter λe=>decide (e<b.low a)
def dg.tick (b:PC)(a:dg)(c:Nat):dg×C jg:=dg.jR b {a with wm:=max a.wm c} (a.due b (max a.wm c))
def dg.step (a:dg)(b:Nat):dg:={a with sh:=a.sh.modify b e8.step}
def dg.new (a:PC):dg:=⟨List.replicate a.dm ⟨[],[]⟩,[],0,List.replicate 7 0,0⟩
def LJ {d c:Nat}:∀{b:C Nat},c∈su d b↔c=d\/c∈b
 |[]=>by simp[su]
 |e::b=>by
  rw[su];split
  .rw[dh,LJ,dh];constructor
   .rintro(a|a|a)<;>simp[a]
   .rintro(a|a|a)<;>simp[a]
  .rw[dh]
def Hf {c:Nat}:∀{a:C Nat},c∈vF a↔c∈a
 |[]=>Iff.rfl
 |b::a=>by rw[show vF (b::a)=su b (vF a)from rfl,LJ,Hf,dh]
def QZ {h:Nat}:∀{e:C Nat},e.Pairwise (·<·)->h∉e->(su h e).Pairwise (·<·)
 |[],_,_=>r4 _ _
 |m::e,j,d=>by
  obtain⟨c,f⟩:=jD.1 j;rw[su];split
  .rename_i b;refine jD.2 ⟨λi a=>?_,QZ f λg=>d (dN _ g)⟩;rcases LJ.1 a with rfl|a
   .exact b
   .exact c i a
  .rename_i b;have k:h≠m:=λl=>d (by rw[l];exact dQ ..);refine jD.2 ⟨λi a=>?_,j⟩;rcases dh.1 a with rfl|a
   .omega
   .have:=c i a;omega
def Mv:∀{d:C Nat},d.Nodup->(vF d).Pairwise (·<·)
 |[],_=>List.Pairwise.nil
 |f::d,e=>by obtain⟨a,b⟩:=iB.1 e;exact QZ (Mv b) λc=>a (Hf.1 c)
structure gU (b a:dg):Prop where
 all:b.sh.map e8.all=a.sh.map e8.all
 dY:b.dY=a.dY
 acc:b.acc=a.acc
 fN:b.fN=a.fN
 wm:b.wm=a.wm
def Ha {a b:Type}(d:a->b)(g:a->a)(h:b->b)(e:∀i,d (g i)=h (d i)):∀(f:C a)(c:Nat),(f.modify c g).map d=(f.map d).modify c h
 |[],c=>by cases c<;>rfl
 |j::f,0=>by simp[e]
 |j::f,c+1=>by simp[Ha d g h e f c]
def gU.step (d:dg)(a:Nat):gU (d.step a) d:=by
 refine⟨?_,rfl,rfl,rfl,rfl⟩;show(d.sh.modify a e8.step).map e8.all=_;rw[Ha e8.all e8.step id (λe=>e8.aj7 e)];have:∀(b:C (C Ev))(a:Nat),b.modify a id=b:=λb=>by
  induction b with
  |nil=>intro a;cases a<;>rfl
  |cons f b c=>intro a;cases a with
   |zero=>rfl
   |succ a=>simp[c]
 exact this _ _
def gU.iI {e a:dg}(f:gU e a)(b:Nat):(e.iI b).all=(a.iI b).all:=by have:=dq (λg=>g.getD b []) f.all;unfold dg.iI;simp only[jM,eK]at this|-;cases c:e.sh[b]? <;>cases d:a.sh[b]? <;>simp[c,d,e8.all]at this|-<;>exact this
def e8.OE (d:e8)(a:Nat):((d.drain a).close a).all=d.all.filter λb=> !decide (b.1=a):=by rw[e8.YW,e8.OU];intro b c;have:=EN a d.Q b c;omega
abbrev gP:=C (Nat×Ev)
def ib (a:gP)(b:Nat):kO:=ez b (a.map Prod.snd)
def tP (a:gP)(b:Nat):C Ev:=(a.filter λc=>decide (c.1=b)).map Prod.snd
def nv (a:gP)(b c:Nat):kO:=ez c (tP a b)
def DS (c:gP)(a:Nat×Ev)(b:Nat):ib (c++[a]) b=ib c b++(if a.2.1=b then[a.2.2]else[]):=by
 unfold ib;rw[dE,B5];congr 1;by_cases d:a.2.1=b
 .simp[ez,d]
 .simp[ez,d]
def NW (c:gP)(b:Nat×Ev)(a:Nat):tP (c++[b]) a=tP c a++(if b.1=a then[b.2]else[]):=by
 unfold tP;rw[qT,dE];congr 1;by_cases d:b.1=a
 .simp[d]
 .simp[d]
def Vo (b c:kO)(a:U):wt (b++c) a=wt b a+wt c a:=by simp[wt]
def II (a b:kO):eA (a++b)=eA a+eA b:=by simp[eA]
def T0 {f c d:Nat}(h:c<f):((List.range f).map λb=>if c=b then d else 0).sum=d:=by
 rw[<-MB (c:=λb=>if c=b then d else 0) (e:=[c]) ((by simp)) (λb a=>by rw[fI.1 a];exact h) (λb _ a=>by
  by_cases e:c=b
  .rw[e];exact dQ ..
  .rw[cJ e]at a;exact absurd rfl a)]
 simp
def TY {c d:Nat->Nat}(a:C Nat):(a.map λe=>c e+d e).sum=(a.map c).sum+(a.map d).sum:=by
 induction a with
 |nil=>rfl
 |cons f a b=>simp only[dA,iE,b];omega
def PH {j:Nat}(e:Nat):∀(c:gP),(∀b∈c,b.1<j)->(∀g,((List.range j).map λa=>wt (nv c a e) g).sum=wt (ib c e) g)/\((List.range j).map λa=>eA (nv c a e)).sum=eA (ib c e):=by
 have n:∀(q:Nat)(c:gP),c.length=q->(∀b∈c,b.1<j)->(∀g,((List.range j).map λa=>wt (nv c a e) g).sum=wt (ib c e) g)/\((List.range j).map λa=>eA (nv c a e)).sum=eA (ib c e):=by
  intro q;induction q with
  |zero=>
   intro c f _;obtain rfl:=ll f;have v:∀p:C Nat,(p.map λ_=>(0:Nat)).sum=0:=λp=>by
    induction p with
    |nil=>rfl
    |cons _ p i=>simpa using i
   exact⟨λg=>v _,v _⟩
  |succ q i=>
   intro c f m;have l:c≠[]:=λo=>by rw[o]at f;cases f
   obtain⟨d,b,rfl⟩:∃d b,c=d++[b]:=⟨_,_,(CT l).symm⟩;obtain⟨s,t⟩:=i d (by simpa using f) λw u=>m w (gI _ u);have h:=m b (by simp);have o:∀a,nv (d++[b]) a e=nv d a e++(if b.1=a then(if b.2.1=e then[b.2.2]else[])else[]):=λa=>by
    unfold nv;rw[NW,B5];congr 1;by_cases r:b.1=a
    .by_cases k:b.2.1=e
     .simp[ez,r,k]
     .simp[ez,r,k]
    .simp[ez,r]
   refine⟨λg=>?_,?_⟩
   .rw[DS,Vo,<-s g];have:(λa=>wt (nv (d++[b]) a e) g)=λa=>wt (nv d a e) g+(if b.1=a then wt (if b.2.1=e then[b.2.2]else[]) g else 0):=by funext a;rw[o,Vo];split<;>rfl
    rw[this,TY,T0 h]
   .rw[DS,II,<-t];have:(λa=>eA (nv (d++[b]) a e))=λa=>eA (nv d a e)+(if b.1=a then eA (if b.2.1=e then[b.2.2]else[])else 0):=by funext a;rw[o,II];split<;>rfl
    rw[this,TY,T0 h]
 exact λc=>n c.length c rfl
structure jx (b:PC)(a:dg)(c:gP):Prop where
 vD:a.sh.length=b.dm
 all:∀f,f<b.dm->(a.iI f).all=(tP c f).filter λg=>decide (b.low a.wm<=g.1)
 uC:(a.dY.map Prod.fst).Nodup
 qM:∀d∈a.dY,0<=d.1
 dY:∀e:Nat,ed a.dY (e:Int)=if ib c e=[]\/e<b.low a.wm then none else some (eA (ib c e))
 acc:a.acc=c.length
 ok:∀d∈c,lQ d.2.2/\d.1∈b.set d.2.2.1
 BX:∀d∈c,d.2.1<b.low a.wm+b.ga
 cap:∀e,eA (ib c e)<=9223372036854775808
 q:∀h∈a.sh,h.Q.length<=b.queue
 fN:a.fN.length=7
def adE {d:gP}{g:Nat}{e:U×Nat}:e∈ib d g↔∃b∈d,b.2=(g,e):=by
 unfold ib ez;simp only[dz,kE,fU];constructor
 .rintro⟨h,⟨⟨b,a,rfl⟩,c⟩,rfl⟩;exact⟨b,a,by rw[<-c]⟩
 .rintro⟨b,a,f⟩;exact⟨b.2,⟨⟨b,a,rfl⟩,by rw[f]⟩,by rw[f]⟩
def Kx {e:gP}{f:Nat}:ib e f=[]↔∀b∈e,b.2.1≠f:=by
 unfold ib;rw[B6];constructor
 .exact λc b a=>c b.2 (dz.2 ⟨b,a,rfl⟩)
 .intro c g d;obtain⟨b,a,rfl⟩:=dz.1 d;exact c b a
def Kw {f:gP}{h i:Nat}{g:U×Nat}(b:g∈nv f h i):∃a∈f,a.1=h/\a.2=(i,g):=by unfold nv ez tP at b;simp only[dz,kE,fU]at b;obtain⟨j,⟨⟨a,⟨e,c⟩,rfl⟩,d⟩,rfl⟩:=b;exact⟨a,e,c,by rw[<-d]⟩
def jx.new (b:PC):jx b (dg.new b) []:=by
 refine⟨o3,λf e=>?_,xD,λd a=>(nomatch a),λg=>?_,rfl,λd a=>(nomatch a),λd a=>(nomatch a),λg=>gK _,λh c=>?_,rfl⟩
 .show((List.replicate b.dm (⟨[],[]⟩:e8)).getD f ⟨[],[]⟩).all=_;rw[jM,CZ];split<;>rfl
 .rw[cM (.inl rfl)];rfl
 .rw[uJ c];exact gK _
section
variable{b:PC}{a:dg}{c:gP}
def jx.total (f:jx b a c){e:Nat}(g:b.low a.wm<=e):a.total e=eA (ib c e):=by
 unfold dg.total;rw[f.dY];by_cases h0:ib c e=[]
 .rw[cM (.inl h0),h0];rfl
 .rw[cJ (by rintro(d|d);exact h0 d;omega)];rfl
def Q9 {f:gH}(e:a.jn b f=0):b.low a.wm<=b.gx f.time/\b.gx f.time<b.low a.wm+b.ga/\a.total (b.gx f.time)+f.weight<=9223372036854775808/\(a.iI (b.oU f.key a.acc)).Q.length≠b.queue:=by
 unfold dg.jn at e;split at e
 .rename_i d;exact absurd e d
 .rename_i d;split at e
  .cases e
  .split at e
   .cases e
   .rename_i h g;unfold PC.verdict at d;split at d
    .exact absurd (by decide) d
    .split at d
     .exact absurd (by decide) d
     .exact⟨by omega,by omega,by omega,g⟩
def ajl {g d:Nat}{f:e8->e8}(e:d<a.sh.length):({a with sh:=a.sh.modify g f}:dg).iI d=if g=d then f (a.iI d)else a.iI d:=by unfold dg.iI;simp only[jM,y9];rw[dr e];split<;>rfl
def dg.Bo (b:PC)(a:dg)(d:gH):Nat×Ev:=(b.oU d.key a.acc,d.ev b)
def jx.take (r:b.Ok)(j:jx b a c){f:gH}(H:a.jn b f=0)(S:lQ (f.key,f.weight)):jx b (a.take b f) (c++[a.Bo b f]):=by
 obtain⟨m,z,q,A⟩:=Q9 H;have i:=b.aiC r f.key a.acc;have T:=PC.xj r i;have u:=j.total m;rw[u]at q;have k:(a.Bo b f).2=(b.gx f.time,f.key,f.weight):=rfl;refine⟨by show(a.sh.modify _ _).length=_;rw[Fk];exact j.vD,λp s=>?_,?_,λn e=>?_,λw=>?_,?_,λn e=>?_,λn e=>?_,λw=>?_,λv R=>?_,j.fN⟩
 .show(({a with sh:=a.sh.modify (b.oU f.key a.acc) (λv=>v.push (f.ev b))}:dg).iI p).all=_;rw[ajl (by rw[j.vD];exact s),NW,qT];have d:=j.all p s;show _=(tP c p).filter (λg=>decide (b.low a.wm<=g.1))++_;rw[<-d];by_cases g:b.oU f.key a.acc=p
  .rw[cM g,cM (show(a.Bo b f).1=p from g)];rw[oC (by show decide (b.low a.wm<=b.gx f.time)=true;simpa using m),List.filter_nil];simp[e8.push,e8.all,dg.Bo]
  .rw[cJ g,cJ (show¬(a.Bo b f).1=p from g)];simp
 .show((nM a.dY _ _).map Prod.fst).Nodup;rw[NP];split
  .exact j.uC
  .rename_i K;have d:ed a.dY (b.gx f.time:Int)=none:=by simpa using K
   exact kR.2 ⟨j.uC,(by simp),λx E y G g=>by obtain rfl:=fI.1 G;subst g;exact Br.1 d E⟩
 .have d:n.1∈(nM a.dY (b.gx f.time:Int) (a.total (b.gx f.time)+f.weight)).map Prod.fst:=gu e;rw[NP]at d;have h:n.1∈a.dY.map Prod.fst->0<=n.1:=λh=>by obtain⟨X,L,g⟩:=dz.1 h;rw[<-g];exact j.qM X L
  split at d
  .exact h d
  .rcases dV.1 d with d|d
   .exact h d
   .obtain g:=fI.1 d;omega
 .show ed (nM a.dY _ _) _=_;rw[DS,k];by_cases g:b.gx f.time=w
  .subst g;rw[NI,cM rfl,cJ (by rintro(d|d);simp at d;exact absurd m (by have:b.gx f.time<b.low a.wm:=d;omega)),u,II];simp[eA]
  .rw[NH (by omega),cJ g,eN];exact j.dY w
 .show a.acc+1=_;rw[j.acc];simp
 .rcases dV.1 e with e|e
  .exact j.ok n e
  .obtain rfl:=fI.1 e;exact⟨S,i⟩
 .rcases dV.1 e with e|e
  .exact j.BX n e
  .obtain rfl:=fI.1 e;exact z
 .rw[DS,k,II];by_cases g:b.gx f.time=w
  .subst g;rw[cM rfl];simpa[eA]using q
  .rw[cJ g];have:=j.cap w;simpa[eA]using this
 .obtain⟨W,t⟩:=ka.1 R;have l:(a.sh.modify (b.oU f.key a.acc) (λv=>v.push (f.ev b)))[W]? =some v:=t;rw[y9]at l;obtain⟨o,d,h⟩:=nq.1 l;have B:=j.q o (eH d);by_cases g:b.oU f.key a.acc=W
  .rw[cM g]at h;subst g;have D:a.iI (b.oU f.key a.acc)=o:=by unfold dg.iI;rw[jM,d];rfl
   rw[D]at A;rw[<-h];show(o.Q++[_]).length<=_;rw[cX,lD];omega
  .rw[cJ g]at h;rw[<-h];exact B
def jx.py (d:jx b a c)(e:Nat):jx b (a.py e) c:=⟨d.vD,d.all,d.uC,d.qM,d.dY,d.acc,d.ok,d.BX,d.cap,d.q,by show(a.fN.modify _ _).length=7;rw[Fk];exact d.fN⟩
def jx.step (d:jx b a c)(j:Nat):jx b (a.step j) c:=by
 refine⟨by show(a.sh.modify _ _).length=_;rw[Fk];exact d.vD,λh g=>?_,d.uC,d.qM,d.dY,d.acc,d.ok,d.BX,d.cap,λq m=>?_,d.fN⟩
 .rw[(gU.step a j).iI h];exact d.all h g
 .obtain⟨h,g⟩:=ka.1 m;have e:(a.sh.modify j e8.step)[h]? =some q:=g;rw[y9]at e;obtain⟨i,k,l⟩:=nq.1 e;have f:=d.q i (eH k);rw[<-l];by_cases n:j=h
  .rw[cM n];obtain⟨s,p⟩:=i;cases p with
   |nil=>exact f
   |cons r o=>show o.length<=_;have:(r::o).length<=b.queue:=f;rw[eE]at this;omega
  .rw[cJ n];exact f
end
structure s3 (e:PC)(low:Nat)(c:gP)(b:C jg):Prop where
 od:(b.map jg.eP).Pairwise (·<·)
 ok:∀a∈b,a.eP<low/\ib c a.eP≠[]/\wx e a (wt (ib c a.eP)) (eA (ib c a.eP))
 each:∀d∈c,d.2.1<low->∃a∈b,a.eP=d.2.1
def s3.new (c:PC)(low:Nat):s3 c low [] []:=⟨List.Pairwise.nil,λe b=>(nomatch b),λd a=>(nomatch a)⟩
def s3.more {i:PC}{low:Nat}{e:gP}{d:C jg}(f:s3 i low e d){h:Nat×Ev}(k:low<=h.2.1):s3 i low (e++[h]) d:=by
 have j:∀c∈d,ib (e++[h]) c.eP=ib e c.eP:=λc b=>by have:=(f.ok c b).1;rw[DS,cJ (by omega),eN]
 refine⟨f.od,λc b=>by rw[j c b];exact f.ok c b,λl a g=>?_⟩;rcases dV.1 a with a|a
 .exact f.each l a g
 .obtain rfl:=fI.1 a;omega
structure tB (d:PC)(a:dg)(c:gP)(h low:Nat)(g:C Nat):Prop where
 vD:a.sh.length=d.dm
 all:∀e,e<d.dm->(a.iI e).all=(tP c e).filter λf=>decide (low<=f.1)||decide (f.1∈g)
 uC:(a.dY.map Prod.fst).Nodup
 qM:∀i∈a.dY,0<=i.1
 dY:∀b:Nat,ed a.dY (b:Int)=if ib c b≠[]/\(low<=b\/b∈g)then some (eA (ib c b))else none
 q:∀j∈a.sh,j.Q.length<=d.queue
def aiq {h:PC}(m:h.Ok){b:gP}(d:∀g∈b,lQ g.2.2/\g.1∈h.set g.2.2.1)(o:∀a,eA (ib b a)<=9223372036854775808)(a:Nat)(i:C Nat)(u:Nat->PS)(hS:∀f,f<h.dm->u f=jU h (nv b f a)):wx h (rF h u a i) (wt (ib b a)) (eA (ib b a)):=by
 have s:∀g∈b,g.1<h.dm:=λg e=>PC.xj m (d g e).2;obtain⟨v,q⟩:=PH (j:=h.dm) a b s;have l:=SN (a:=h) (b:=u) (c:=λf=>nv b f a) m (λf p=>by
  rw[hS f p];refine T5 m (λj c=>?_) ?_
  .obtain⟨g,e,_,k⟩:=Kw c;have:=(d g e).1;rw[k]at this;exact this
  .refine gF ?_ (o a);rw[<-q];obtain⟨y,z,j⟩:=pJ (lE.2 p);rw[j];simp only[dE,dA,mV,iE];omega) (λf p x w=>by
  have:∃j∈nv b f a,j.1=x:=by
   refine pI λt=>w ?_;unfold wt;rw[CV.2]
   .rfl
   .intro j c r;exact t ⟨j,c,by simpa using r⟩
  obtain⟨j,c,rfl⟩:=this;obtain⟨g,e,rfl,k⟩:=Kw c;have:=(d g e).2;rw[k]at this;exact this) a i
 rw[q]at l;have:(λx=>((List.range h.dm).map λf=>wt (nv b f a) x).sum)=wt (ib b a):=funext v;rw[this]at l;exact l
def abe {a:Type}(d e f:a->Bool)(b:C a)(g:∀c∈b,(e c&&d c)=f c):(b.filter d).filter e=b.filter f:=by rw[Jf];exact CU g
def Rg {l:PC}{r:gP}{j low a:Nat}{p:C Nat}{c:dg}(d:tB l c r j low (a::p))(s:a<low)(b:a∉p):tB l (c.close l a).1 r j low p:=by
 refine⟨by show(c.sh.map _).length=_;rw[dL];exact d.vD,λi g=>?_,?_,λv n=>d.qM v (kE.1 n).1,λt=>?_,λx o=>?_⟩
 .have m:((c.close l a).1.iI i)=((c.iI i).drain a).close a:=by show(c.sh.map _).getD i _=((c.sh.getD i _).drain a).close a;rw[jM,jM,eK,dr (by rw[d.vD];exact g)];rfl
  rw[m,e8.OE,d.all i g];refine abe _ _ _ _ λw _=>?_;by_cases e:w.1=a
  .simp[e,b];omega
  .simp[e]
 .exact d.uC.sublist (vZ.map _)
 .show ed (ig c.dY _) _=_;by_cases m:t=a
  .subst m;rw[NG,cJ (by rintro⟨_,f|f⟩;omega;exact b f)]
  .rw[FQ (by omega),d.dY t];simp[m]
 .obtain⟨k,h,rfl⟩:=dz.1 o;have u:=d.q k h;show(k.Q.drop _).length<=_;rw[iz];omega
def Rh {g:PC}{f:gP}{e low c:Nat}{j:C Nat}{h:dg}(i:tB g h f e low (c::j)):∀b,b<g.dm->ez c ((h.iI b).drain c).D=nv f b c:=λb d=>by
 rw[e8.J9,i.all b d];unfold nv ez;congr 1;rw[Jf];refine CU λk _=>?_;by_cases a:k.1=c
 .simp[a]
 .simp[a]
def Ot {c:PC}(A:c.Ok){l:gP}(q:∀p∈l,lQ p.2.2/\p.1∈c.set p.2.2.1)(m:∀h,eA (ib l h)<=9223372036854775808)(n low:Nat):∀(k:C Nat)(f:dg)(g:C jg),tB c f l n low k->
 k.Pairwise (·<·)->(∀h∈k,h<low/\ib l h≠[]/\∀j∈g,j.eP<h)->
 (g.map jg.eP).Pairwise (·<·)->(∀j∈g,j.eP<low/\ib l j.eP≠[]/\wx c j (wt (ib l j.eP)) (eA (ib l j.eP)))->
 tB c (f.jR c k).1 l n low []/\(f.jR c k).1.acc=f.acc/\(f.jR c k).1.wm=f.wm/\(f.jR c k).1.fN=f.fN/\((g++(f.jR c k).2).map jg.eP).Pairwise (·<·)/\(∀j∈g++(f.jR c k).2,j.eP<low/\ib l j.eP≠[]/\wx c j (wt (ib l j.eP)) (eA (ib l j.eP)))/\(f.jR c k).2.map jg.eP=k
 |[],f,g,L,_,_,s,t=>⟨L,rfl,rfl,rfl,by show((g++[]).map _).Pairwise _;rw[eN];exact s,by show∀j∈g++[],_;rw[eN];exact t,rfl⟩
 |h::k,f,g,L,h2,y,s,t=>by
  obtain⟨o,u⟩:=jD.1 h2;obtain⟨r,G,H⟩:=y h (dQ ..);have K:h∉k:=λhm=>Fx _ (o h hm);have D:tB c (f.close c h).1 l n low k:=Rg L r K;have B:=Rh L;have w:wx c (f.close c h).2 (wt (ib l h)) (eA (ib l h)):=aiq A q m h f.fN _ λi hi=>by rw[B i hi]
  have e:(f.close c h).2.eP=h:=rfl;obtain⟨W,X,P,ab,ad,ae,af⟩:=Ot A q m n low k (f.close c h).1 (g++[(f.close c h).2]) D u (λv E=>by
   obtain⟨Q,R,S⟩:=y v (dN _ E);refine⟨Q,R,λj d=>?_⟩;rcases dV.1 d with d|d
   .exact S j d
   .rw[fI.1 d,e];exact o v E) (by
   rw[dE];refine mU.2 ⟨s,r4 _ _,λa ha b z=>?_⟩;obtain⟨j,d,rfl⟩:=dz.1 ha;rw[dA,kD]at z;rw[fI.1 z,e];exact H j d) (λj d=>by
   rcases dV.1 d with d|d
   .exact t j d
   .rw[fI.1 d];exact⟨by rw[e];exact r,by rw[e];exact G,by rw[e];exact w⟩)
  have x:(f.jR c (h::k)).2=(f.close c h).2::((f.close c h).1.jR c k).2:=rfl;have T:g++(f.jR c (h::k)).2=(g++[(f.close c h).2])++((f.close c h).1.jR c k).2:=by rw[x];simp
  rw[T];refine⟨W,X,P,ab,ad,ae,?_⟩;rw[x,dA,af,e]
def PC.RA (c:PC){a b:Nat}(d:a<=b):c.low a<=c.low b:=Nat.div_le_div_right (by omega)
def UK {e:PC}{f:dg}{o:gP}(l:jx e f o){a:Nat}(s:f.wm<=a):tB e {f with wm:=a} o 0 (e.low a) (f.due e a)/\(f.due e a).Pairwise (·<·)/\∀d,d∈f.due e a↔ib o d≠[]/\e.low f.wm<=d/\d<e.low a:=by
 have x:e.low f.wm<=e.low a:=e.RA s;have k:∀d:Nat,(d:Int)∈f.dY.map Prod.fst↔ib o d≠[]/\e.low f.wm<=d:=λd=>by
  have g:=l.dY d;constructor
  .intro y;by_cases c:ib o d=[]\/d<e.low f.wm
   .rw[cM c]at g;exact absurd y (Br.1 g)
   .exact⟨λp=>c (.inl p),by
     rcases np d (e.low f.wm)with b|b
     .exact absurd (.inr b) c
     .exact b⟩
  .rintro⟨c,b⟩;rw[cJ (by rintro(i|i);exact c i;omega)]at g;exact dz.2 ⟨_,wC g,rfl⟩
 have j:∀d,d∈f.due e a↔ib o d≠[]/\e.low f.wm<=d/\d<e.low a:=λd=>by
  unfold dg.due;rw[kE,Hf,dz];simp only[fU];constructor
  .rintro⟨⟨n,h,rfl⟩,c⟩;have b:=l.qM n h;have i:=(k n.1.toNat).1 (by rw[rY b];exact gu h);exact⟨i.1,i.2,c⟩
  .rintro⟨c,b,i⟩;obtain⟨n,h,p⟩:=dz.1 ((k d).2 ⟨c,b⟩);exact⟨⟨n,h,by omega⟩,i⟩
 have q:(f.due e a).Pairwise (·<·):=by
  refine List.Pairwise.filter _ (Mv ?_);have:(f.dY.map λn=>n.1.toNat)=(f.dY.map Prod.fst).map Int.toNat:=by rw[jj];rfl
  rw[this];refine oE.2 (l.uC.imp_of_mem λ{D E} u v m p=>m ?_);obtain⟨n,h,rfl⟩:=dz.1 u;obtain⟨B,z,rfl⟩:=dz.1 v;have:=l.qM n h;have:=l.qM B z;omega
 have t:tB e {f with wm:=a} o 0 (e.low a) (f.due e a):=by
  refine⟨l.vD,λA w=>?_,l.uC,l.qM,λd=>?_,l.q⟩
  .refine(l.all A w).trans (CU λp r=>?_);have m:ib o p.1≠[]:=λh0=>by unfold tP at r;obtain⟨n,h,rfl⟩:=dz.1 r;exact Kx.1 h0 n (kE.1 h).1 rfl
   have g:=j p.1;rw[CQ];simp only[jh,fU,g];constructor
   .intro c;rcases np p.1 (e.low a)with b|b
    .exact .inr ⟨m,c,b⟩
    .exact .inl b
   .rintro(c|c)
    .omega
    .exact c.2.1
  .refine(l.dY d).trans ?_;have g:=j d;by_cases h0:ib o d=[]
   .rw[cM (.inl h0),cJ (by rintro⟨c,_⟩;exact c h0)]
   .by_cases c:d<e.low f.wm
    .rw[cM (.inr c),cJ (by
      rintro⟨_,b|b⟩
      .omega
      .have:=(g.1 b).2.1;omega)]
    .rw[cJ (by rintro(b|b);exact h0 b;exact c b),cM];refine⟨h0,?_⟩;rcases np d (e.low a)with b|b
     .exact .inr (g.2 ⟨h0,by omega,b⟩)
     .exact .inl b
 exact⟨t,q,j⟩
def MM {b:PC}(S:b.Ok){f:dg}{w:gP}{u:C jg}(o:jx b f w)(n:s3 b (b.low f.wm) w u)(D:Nat):jx b (f.tick b D).1 w/\s3 b (b.low (f.tick b D).1.wm) w (u++(f.tick b D).2):=by
 obtain⟨a,A⟩:∃a,max f.wm D=a:=⟨_,rfl⟩;have W:b.low f.wm<=b.low a:=b.RA (by omega);unfold dg.tick;rw[A];obtain⟨R,s,h⟩:=UK (a:=a) o (by omega);obtain⟨c,E,G,H,K,L,Q⟩:=Ot S o.ok o.cap 0 (b.low a) (f.due b a) {f with wm:=a} u R s
  (λB X=>by obtain⟨x,y,p⟩:=(h B).1 X;exact⟨p,x,λt i=>by have:=(n.ok t i).1;omega⟩) n.od
  (λt i=>by obtain⟨x,y,p⟩:=n.ok t i;exact⟨by omega,y,p⟩)
 have l:((({f with wm:=a}:dg)).jR b (f.due b a)).1.wm=a:=G;refine⟨⟨c.vD,λP T=>?_,c.uC,c.qM,λB=>?_,E.trans o.acc,o.ok,λv m=>?_,o.cap,c.q,?_⟩,?_⟩
 .rw[c.all P T,l];refine CU λe _=>?_;simp
 .rw[c.dY B,l];by_cases h0:ib w B=[]
  .simp[h0]
  .by_cases g:B<b.low a
   .rw[cJ (by rintro⟨_,d|d⟩;omega;cases d),cM (.inr g)]
   .rw[cM ⟨h0,.inl (by omega)⟩,cJ (by rintro(d|d);exact h0 d;exact g d)]
 .rw[l];have:=o.BX v m;omega
 .rw[H];exact o.fN
 .rw[l];refine⟨K,L,λv m z=>?_⟩;rcases np v.2.1 (b.low f.wm)with r|r
  .obtain⟨t,j,k⟩:=n.each v m r;exact⟨t,gI _ j,k⟩
  .have g:v.2.1∈f.due b a:=(h _).2 ⟨λh0=>Kx.1 h0 v m rfl,r,z⟩;rw[<-Q]at g;obtain⟨t,j,k⟩:=dz.1 g;exact⟨t,iA _ j,k⟩
def dg.kept (a:PC):dg->C kr->C gH
 |_,[]=>[]
 |c,b::e=>(match b with
  |.inl d=>if c.jn a d=0 then[d]else[]
  |.inr _=>[])++dg.kept a (c.k9 a b) e
def dg.qE (b:PC)(d:dg)(c:kr):C gH:=match c with
 |.inl a=>if d.jn b a=0 then[a]else[]
 |.inr _=>[]
structure jL (b:PC)(e:dg)(d:C jg)(a:C gH)(c:gP):Prop where
 inv:jx b e c
 rep:s3 b (b.low e.wm) c d
 it:c.map Prod.snd=a.map (gH.ev b)
def jL.new (a:PC):jL a (dg.new a) [] [] []:=⟨jx.new a,s3.new a _,rfl⟩
def jL.feed {c:PC}(k:c.Ok):∀(l:C kr){e:dg}{f:C jg}{a:C gH}{i:gP},jL c e f a i->(∀h,Sum.inl h∈l->lQ (h.key,h.weight))->
 ∃g,jL c (e.feed c l).1 f (a++e.kept c l) g
 |[],e,f,a,i,d,_=>⟨i,by rw[dg.kept,eN];exact d⟩
 |j::l,e,f,a,i,d,n=>by
  have step:∃g,jL c (e.k9 c j) f (a++e.qE c j) g:=by
   cases j with
   |inr x=>exact⟨i,⟨d.inv.py x,d.rep,by show _=(a++[]).map _;rw[eN];exact d.it⟩⟩
   |inl h=>
    have m:=n h (dQ ..);unfold dg.k9 dg.qE;dsimp only;by_cases b:e.jn c h=0
    .rw[cM b,cM b];obtain⟨q,u,v,w⟩:=Q9 b;refine⟨_,⟨d.inv.take k b m,d.rep.more q,?_⟩⟩;rw[dE,dE,d.it];rfl
    .rw[cJ b,cJ b];exact⟨i,⟨d.inv.py _,d.rep,by rw[eN];exact d.it⟩⟩
  obtain⟨g,r⟩:=step;obtain⟨p,s⟩:=jL.feed k l r λh o=>n h (dN _ o);refine⟨p,?_⟩;have t:e.kept c (j::l)=e.qE c j++(e.k9 c j).kept c l:=rfl;rw[t,<-dJ];exact s
def jL.step {e:PC}{g:dg}{b:C jg}{a:C gH}{d:gP}(c:jL e g b a d)(f:Nat):jL e (g.step f) b a d:=⟨c.inv.step f,c.rep,c.it⟩
def jL.tick {b:PC}(d:b.Ok){g:dg}{e:C jg}{a:C gH}{h:gP}(c:jL b g e a h)(f:Nat):jL b (g.tick b f).1 (e++(g.tick b f).2) a h:=⟨(MM d c.inv c.rep f).1,(MM d c.inv c.rep f).2,c.it⟩
def seen (b:PC)(a:C gH)(c:Nat):kO:=ez c (a.map (gH.ev b))
def jL.seen {d:PC}{g:dg}{b:C jg}{a:C gH}{c:gP}(f:jL d g b a c)(e:Nat):Go.Proofs.YtdlpoonfcdoiiaaGreat.seen d a e=ib c e:=by unfold Go.Proofs.YtdlpoonfcdoiiaaGreat.seen ib;rw[f.it]
def atw:∀{a:kO},a≠[]->(∀b∈a,1<=b.2)->eA a≠0
 |[],c,_=>absurd rfl c
 |b::a,_,c=>by have:=c b (dQ ..);show(b.2::a.map Prod.snd).sum≠0;rw[iE];omega
def jL.pos {i:PC}{k:dg}{b:C jg}{a:C gH}{j:gP}(d:jL i k b a j){h:jg}(g:h∈b):eA (Go.Proofs.YtdlpoonfcdoiiaaGreat.seen i a h.eP)≠0:=by rw[d.seen];refine atw (d.rep.ok h g).2.1 λm e=>?_;obtain⟨l,f,c⟩:=adE.1 e;have:=(d.inv.ok l f).1;rw[c]at this;exact this.2.2
end Go.Proofs.YtdlpoonfcdoiiaaGreat
