/- What the code does, step by step, and plain facts: part 11. They have no conditions. -/
import Derived.Test.YtdlpoonfcdoiiaaGreatMB10
namespace Go.Proofs.YtdlpoonfcdoiiaaGreat
open Go.RowKit Go.Proofs.Tryz
set_option maxHeartbeats 40000000
set_option linter.all false
structure MC where
 K:C (Nat×Nat)
 sz:Nat->Nat
 cap:Nat->Nat
 lr:Nat
 gW:Nat
abbrev jO:=C (Nat×Hd)
def gz (a:jO)(b:Nat):Nat:=a.countP λc=>decide (c.1=b)
def om (b c:jO)(a:Nat):gz (b++c) a=gz b a+gz c a:=List.countP_append
def vq (c:Nat×Hd)(b:jO)(a:Nat):gz (c::b) a=gz b a+if c.1=a then 1 else 0:=by unfold gz;rw[List.countP_cons];simp
def Ri {a b:jO}(d:a.Perm b)(c:Nat):gz a c=gz b c:=d.countP_eq _
open Classical in
structure MC.Ok (a:MC):Prop where
 one:∀d,d<3->1<=a.sz d/\ff a.K (a.sz d)<a.K.length
 key:∀c,c<=a.lr->ff a.K c<a.K.length
 jZ:∀b f c,a.K[b]? =some (f,c)->(if ff a.K (a.sz 0)=b then a.cap 0 else 0)+(if ff a.K (a.sz 1)=b then a.cap 1 else 0)+(if ff a.K (a.sz 2)=b then a.cap 2 else 0)+(if∃e,1<=e/\e<=a.lr/\ff a.K e=b then a.gW else 0)<=c
def use (a:jO)(b:C (Hd×Nat))(c:pH):mZ:=a.map (λd=>(d.2,[]))++uv b c
structure MI (b:MC)(c:jO)(d:jX)(h:C Cl)(i:C Int)(e:C (Hd×Nat))(f:pH):Prop where
 ai:AI b.K h i (use c e f)
 po:mR e f d
 hc:∀a∈c,a.1<3/\a.2.1=ff b.K (b.sz a.1)
 mc:∀a∈f,(fV e a).1=ff b.K a.1.size/\1<=a.1.size/\a.1.size<=b.lr
 ru:∀g,g<3->gz c g<=b.cap g
 gW:d.length<=b.gW
def ace (a:Nat)(b c:mZ):lW a (b++c)=lW a b+lW a c:=by simp[lW]
def mR.len {l:C (Hd×Nat)}{j:pH}{a:jX}(d:mR l j a):j.length<=a.length:=by
 have e:=Ht d.nd (b:=a.map Prod.snd) λr f=>by
  obtain⟨⟨i,s⟩,g,rfl⟩:=dz.1 f;obtain⟨q,p,m,n,o,c⟩:=d.num _ _ (s5 d.nd g);obtain⟨k,h,b⟩:=Fc.1 (zc Nat.zero_lt_one c);have b:k=(q,i):=by simpa using b
  exact dz.2 ⟨k,h,by rw[b]⟩
 simpa using e
section
variable{b:MC}{a:jO}{e:jX}{f:C Cl}{g:C Int}{c:C (Hd×Nat)}{d:pH}
def MI.perm {h:jO}{i:jX}(k:MI b a e f g c d)(j:a.Perm h)(l:e.Perm i):MI b h i f g c d:=⟨k.ai.perm ((j.map _).append_right _),k.po.perm l,λp n=>k.hc p (j.mem_iff.2 n),k.mc,λo m=>by rw[<-Ri j];exact k.ru o m,by rw[<-l.length_eq];exact k.gW⟩
def K8 {j:Nat}:∀{a:jO},(∀i∈a,i.1<3/\i.2.1=ff b.K (b.sz i.1))->lW j (a.map λi=>(i.2,([]:C Nat)))=
 (if ff b.K (b.sz 0)=j then gz a 0 else 0)+(if ff b.K (b.sz 1)=j then gz a 1 else 0)+(if ff b.K (b.sz 2)=j then gz a 2 else 0)
 |[],_=>by simp[lW,gz]
 |i::a,r=>by
  have q:=K8 (j:=j) (a:=a) λt p=>r t (dN _ p);obtain⟨s,o⟩:=r i (dQ ..);have h:lW j ((i::a).map λi=>(i.2,([]:C Nat)))=lW j (a.map λi=>(i.2,([]:C Nat)))+if i.2.1=j then 1 else 0:=by
   unfold lW;rw[dA];by_cases k:i.2.1=j
   .rw[oC (by simpa using k),cM k];rfl
   .rw[nI (by simpa using k),cJ k];rfl
  rw[h,q,vq,vq,vq,o];generalize gz a 0=u,gz a 1=v,gz a 2=w;rcases(by omega:i.1=0\/i.1=1\/i.1=2)with h|h|h<;>rw[h]<;>by_cases l:ff b.K (b.sz 0)=j<;>by_cases m:ff b.K (b.sz 1)=j<;>by_cases n:ff b.K (b.sz 2)=j<;>simp[l,m,n]<;>omega
def SA {l:Nat}:∀{d:pH},(∀i∈d,(fV c i).1=ff b.K i.1.size/\1<=i.1.size/\i.1.size<=b.lr)->lW l (uv c d)<=(open Classical in if∃k,1<=k/\k<=b.lr/\ff b.K k=l then d.length else 0):=λ{d} r=>by
 classical
 by_cases j:∃k,1<=k/\k<=b.lr/\ff b.K k=l
 .rw[cM j];unfold lW uv;exact gF (AV ..) (by rw[dL];exact dT _)
 .rw[cJ j];unfold lW;rw[CV.2 λs q h=>?_]
  .exact dT _
  .obtain⟨i,p,rfl⟩:=dz.1 q;obtain⟨m,n,o⟩:=r i p;have h:(fV c i).1=l:=by simpa using h
   exact j ⟨i.1.size,n,o,by rw[<-m];exact h⟩
def UZ (h:Nat):lW h (use a c d)=lW h (a.map λi=>(i.2,([]:C Nat)))+lW h (uv c d):=ace ..
def MI.room (A:b.Ok)(k:MI b a e f g c d){j H B:Nat}(D:j<3)(G:gz a j<b.cap j)(s:b.K[ff b.K (b.sz j)]? =some (H,B)):lW (ff b.K (b.sz j)) (use a c d)<B:=by
 classical
 have n:=A.jZ _ H B s
 have o:=K8 (j:=ff b.K (b.sz j)) k.hc
 have p:=SA (l:=ff b.K (b.sz j)) (c:=c) k.mc
 have w:=k.po.len
 have z:=k.gW
 have L:=k.ru 0 (by omega)
 have Q:=k.ru 1 (by omega)
 have R:=k.ru 2 (by omega)
 rw[UZ]
 generalize lW (ff b.K (b.sz j)) (a.map λX=>(X.2,([]:C Nat)))=x at*
 generalize lW (ff b.K (b.sz j)) (uv c d)=y at*
 have S:y<=(if∃l,1<=l/\l<=b.lr/\ff b.K l=ff b.K (b.sz j)then b.gW else 0):=by refine gF p ?_;split<;>omega
 generalize(if∃l,1<=l/\l<=b.lr/\ff b.K l=ff b.K (b.sz j)then b.gW else 0)=q at*
 clear p w z s
 obtain⟨m,r⟩:∃m,ff b.K (b.sz j)=m:=⟨_,rfl⟩
 rw[r]at n o
 rcases(by omega:j=0\/j=1\/j=2)with h|h|h<;>subst h<;>generalize b.cap 0=k0,b.cap 1=T,b.cap 2=W,gz a 0=P,gz a 1=ab,gz a 2=ad at* <;>by_cases t:ff b.K (b.sz 0)=m<;>by_cases u:ff b.K (b.sz 1)=m<;>by_cases v:ff b.K (b.sz 2)=m<;>simp only[t,u,v,pO,r7]at n o r<;>omega
def MI.aiz (u:b.Ok)(k:MI b a e f g c d){h x v:Nat}(n:1<=h/\h<=b.lr)(w:e.length<b.gW)(m:b.K[ff b.K h]? =some (x,v)):lW (ff b.K h) (use a c d)<v:=by
 classical
 have l:=u.jZ _ x v m
 have s:=K8 (j:=ff b.K h) k.hc
 have t:=SA (l:=ff b.K h) (c:=c) k.mc
 have B:=k.po.len
 have y:=k.ru 0 (by omega)
 have z:=k.ru 1 (by omega)
 have A:=k.ru 2 (by omega)
 have o:∃j,1<=j/\j<=b.lr/\ff b.K j=ff b.K h:=⟨h,n.1,n.2,rfl⟩
 rw[cM o]at l t
 rw[UZ]
 generalize lW (ff b.K h) (a.map λD=>(D.2,([]:C Nat)))=G at*
 generalize lW (ff b.K h) (uv c d)=H at*
 clear m
 by_cases p:ff b.K (b.sz 0)=ff b.K h<;>by_cases q:ff b.K (b.sz 1)=ff b.K h<;>by_cases r:ff b.K (b.sz 2)=ff b.K h<;>simp only[p,q,r,pO,r7]at l s<;>omega
def MI.alloc {k:Nat}{i:Hd}{l:C Cl}{m:C Int}(n:MI b a e f g c d)(p:k<3)(t:gz a k<b.cap k)(o:i.1=ff b.K (b.sz k))(q:AI b.K l m ((i,[])::use a c d)):MI b ((k,i)::a) e l m c d:=by
 refine⟨q,n.po,λu j=>?_,n.mc,λs r=>?_,n.gW⟩
 .rcases dh.1 j with rfl|j
  .exact⟨p,o⟩
  .exact n.hc u j
 .rw[vq];have:=n.ru s r;show gz a s+(if k=s then 1 else 0)<=_;split
  .rename_i h;subst h;omega
  .omega
def MI.free {p:Nat}{l:Hd}{h:C Cl}{i:C Int}(j:MI b ((p,l)::a) e f g c d)(k:AI b.K h i (use a c d)):MI b a e h i c d:=⟨k,j.po,λq n=>j.hc q (dN _ n),j.mc,λo m=>by have:=j.ru o m;rw[vq]at this;omega,j.gW⟩
def ahR {k:Nat}{i:Hd}{o l:Nat}(j:c[k]? =some (i,o)):uv (c.set k (i,l)) d=uv c d:=by
 have m:k<c.length:=(da.1 j).1;refine k5 λn _=>?_;have:fV (c.set k (i,l)) n=fV c n:=by
  by_cases h:n.2.toNat=k
  .unfold fV;rw[jM,jM,h,gm m,j];rfl
  .exact GP h
 rw[this]
def QJ {k:Nat}{i:Hd}{o n:Nat}(j:c[k]? =some (i,o))(m:U×Int):fV (c.set k (i,n)) m=fV c m:=by
 have l:k<c.length:=(da.1 j).1;by_cases h:m.2.toNat=k
 .unfold fV;rw[jM,jM,h,gm l,j];rfl
 .exact GP h
def U0 {k:Nat}{h:Hd}{l j:Nat}(i:c[k]? =some (h,l)):use a (c.set k (h,j)) d=use a c d:=by unfold use;rw[ahR i]
def MI.more {l:Nat}{h:U}{k:Hd}{p:Nat}(j:MI b a e f g c d)(m:ed d h=some (l:Int))(i:c[l]? =some (k,p))(o:e.length<b.gW):MI b a ((l,h)::e) f g (c.set l (k,p+1)) d:=⟨by rw[U0 i];exact j.ai,j.po.more m i,j.hc,λq n=>by rw[QJ i];exact j.mc q n,j.ru,by rw[eE];omega⟩
def MI.less {n:Nat}{k:U}{j:Hd}{o:Nat}(i:MI b a ((n,k)::e) f g c d)(h:c[n]? =some (j,o))(m:o≠1):MI b a e f g (c.set n (j,o-1)) d:=⟨by rw[U0 h];exact i.ai,i.po.less h m,i.hc,λp l=>by rw[QJ h];exact i.mc p l,i.ru,by have:=i.gW;rw[eE]at this;omega⟩
def HI {h:C (Hd×Nat)}(k:∀i∈d,fV h i=fV c i):uv h d=uv c d:=k5 λi j=>by rw[k i j]
def MI.add {l:Nat}{h:U}{i:Hd}{q:C Cl}{r:C Int}(x:MI b a e f g c d)(v:ed d h=none)(A:1<=l)(t:∃o,c[l]? =some (o,0))(B:e.length<b.gW)(w:1<=h.size/\h.size<=b.lr)(s:i.1=ff b.K h.size)(z:AI b.K q r ((i,vb h)::use a c d)):MI b a ((l,h)::e) q r (c.set l (i,1)) (nM d h (l:Int)):=by
 rw[zm v];obtain⟨o,y⟩:=x.po.add (h0:=i) v A t;have u:l<c.length:=(da.1 t.choose_spec).1;have k:fV (c.set l (i,1)) (h,(l:Int))=i:=QI (gm u);have m:∀p∈d,fV (c.set l (i,1)) p=fV c p:=λp j=>GP (y p j);refine⟨?_,o,x.hc,λp j=>?_,x.ru,by rw[eE];omega⟩
 .have n:use a (c.set l (i,1)) (d++[(h,(l:Int))])=use a c d++[(i,vb h)]:=by unfold use;rw[dJ];congr 1;show(d++[(h,(l:Int))]).map _=_;rw[dE,dA,kD,k];congr 1;exact HI m
  rw[n];exact z.perm (pK ..).symm
 .rcases dV.1 j with j|j
  .rw[m p j];exact x.mc p j
  .rw[fI.1 j,k];exact⟨s,w⟩
def MI.grow (i:MI b a e f g c d)(m:Hd):MI b a e f g (c++[(m,0)]) d:=by
 have t:∀k∈d,k.2.toNat<c.length:=λk h=>by obtain⟨v,m,p,q,l,r⟩:=i.po.num _ _ (s5 i.po.nd h);have:=(da.1 l).1;omega
 have j:∀k∈d,fV (c++[(m,0)]) k=fV c k:=λk h=>QH (t k h);refine⟨?_,⟨?_,i.po.nd,λw x u=>?_,i.po.ks,i.po.inj⟩,i.hc,λk h=>by rw[j k h];exact i.mc k h,i.ru,i.gW⟩
 .have n:use a (c++[(m,0)]) d=use a c d:=by unfold use;rw[HI j]
  rw[n];exact i.ai
 .obtain⟨h0,o⟩:=i.po.e0;exact⟨h0,by rw[nk (da.1 o).1];exact o⟩
 .obtain⟨v,s,p,q,l,r⟩:=i.po.num w x u;exact⟨v,s,p,q,by rw[nk (da.1 l).1];exact l,r⟩
def MI.key {o:Nat}{h:U}{i:Hd}{p:Nat}(n:MI b a e f g c d)(m:ed d h=some (o:Int))(l:c[o]? =some (i,p)):AI b.K f g ((i,vb h)::use a c (ig d h)):=by
 obtain⟨q,r,j,k⟩:=WS n.po.nd m;refine n.ai.perm ?_;rw[k];unfold use uv
 conv=>lhs;rw[j]
 rw[dE,dE,dA,QI l];rw[<-dJ,<-dJ];exact eg
def MI.last {p:Nat}{h:U}{k:Hd}{m:C Cl}{n:C Int}(o:MI b a ((p,h)::e) f g c d)(t:c[p]? =some (k,1))(s:AI b.K m n (use a c (ig d h))):MI b a e m n (c.set p (k,0)) (ig d h):=by obtain⟨q,r⟩:=o.po.last t;have i:∀l∈ig d h,fV (c.set p (k,0)) l=fV c l:=λl j=>GP (r l j);refine⟨?_,q,o.hc,λl j=>by rw[i l j];exact o.mc l (kE.1 j).1,o.ru,by have:=o.gW;rw[eE]at this;omega⟩;unfold use;rw[HI i];exact s
end
def lU (a:C Nat):Prop:=a=[8,24,32,80,256]\/a=[256]
def fC (a:C Nat)(b:Nat):Nat:=a.findIdx λc=>decide (b<=c)
def PC.ie (a:PC):Nat:=a.dm*a.ga*(a.et+a.exact)
def PC.ix (a:PC):Nat:=a.dm*a.queue
def PC.lu (a:PC):Nat:=a.dm*a.ga*a.depth
def lY (c:PC)(b:C Nat)(a:Nat):Bool:=match a with
 |0=>true
 |a+1=>decide (b.getD a 0<c.key)
def BC (a:PC)(b:C Nat)(c:Nat):Nat:=(if fC b (8*a.width)=c then a.lu else 0)+(if fC b 32=c then a.ie else 0)+(if fC b 24=c then a.ix else 0)+(if lY a b c then a.ie+a.ix else 0)
def jZ (b:PC)(a:C Nat):C Nat:=(List.range a.length).map (BC b a)
def fM (b:PC)(a:C Nat):C (Nat×Nat):=a.zip (jZ b a)
def nz (a:PC)(c:C Nat):MC where
 K:=fM a c
 sz:=λb=>match b with
  |0=>8*a.width
  |1=>32
  |_=>24
 cap:=λb=>match b with
  |0=>a.lu
  |1=>a.ie
  |_=>a.ix
 lr:=a.key
 gW:=a.ie+a.ix
section
variable{b:PC}{a:C Nat}
def x3:(jZ b a).length=a.length:=by simp[jZ]
def xW:(fM b a).length=a.length:=by simp[fM,x3]
def Dx {g i h:Nat}(e:(fM b a)[g]? =some (i,h)):a[g]? =some i/\h=BC b a g:=by unfold fM at e;rw[AU]at e;obtain⟨d,c⟩:=e;refine⟨d,?_⟩;have f:=(da.1 d).1;unfold jZ at c;rw[eK,AS f]at c;injection c with c;exact c.symm
def Qa {d i:Type}(h:d->Bool):∀(c:C d)(e:C i),c.length=e.length->(c.zip e).findIdx (λk=>h k.1)=c.findIdx h
 |[],[],_=>rfl
 |f::c,g::e,j=>by rw[Jn,sX,sX,Qa h c e (by simpa using j)]
def BV (c:Nat):ff (fM b a) c=fC a c:=Qa (λd:Nat=>decide (c<=d)) a (jZ b a) x3.symm
def lU.fit (d:lU a){n:Nat}(c:n<=256):fC a n<a.length:=by unfold fC;rw[List.findIdx_lt_length];exact⟨256,by rcases d with rfl|rfl<;>simp,by simpa using c⟩
def lU.lY (hS:lU a){g:Nat}(j:1<=g)(i:g<=b.key):Go.Proofs.YtdlpoonfcdoiiaaGreat.lY b a (fC a g)=true:=by
 rcases hS with rfl|rfl
 .unfold fC;by_cases c:g<=8
  .simp[sX,c,Go.Proofs.YtdlpoonfcdoiiaaGreat.lY]
  .by_cases d:g<=24
   .simp[sX,c,d,Go.Proofs.YtdlpoonfcdoiiaaGreat.lY];omega
   .by_cases f:g<=32
    .simp[sX,c,d,f,Go.Proofs.YtdlpoonfcdoiiaaGreat.lY];omega
    .by_cases h:g<=80
     .simp[sX,c,d,f,h,Go.Proofs.YtdlpoonfcdoiiaaGreat.lY];omega
     .by_cases e:g<=256
      .simp[sX,c,d,f,h,e,Go.Proofs.YtdlpoonfcdoiiaaGreat.lY];omega
      .simp[sX,c,d,f,h,e,Go.Proofs.YtdlpoonfcdoiiaaGreat.lY];omega
 .by_cases e:g<=256
  .simp[fC,sX,e,Go.Proofs.YtdlpoonfcdoiiaaGreat.lY]
  .simp[fC,sX,e,Go.Proofs.YtdlpoonfcdoiiaaGreat.lY];omega
def adD (d:b.Ok)(hS:lU a):(nz b a).Ok:=by
 have p:=d.width;have o:=d.key;refine⟨λg k=>?_,λl j=>?_,λh r l m=>?_⟩
 .show 1<=(nz b a).sz g/\ff (fM b a) ((nz b a).sz g)<(fM b a).length;rw[BV,xW];rcases(by omega:g=0\/g=1\/g=2)with rfl|rfl|rfl
  .exact⟨by show 1<=8*b.width;omega,hS.fit (by show 8*b.width<=256;omega)⟩
  .exact⟨by show 1<=32;omega,hS.fit (by show 32<=256;omega)⟩
  .exact⟨by show 1<=24;omega,hS.fit (by show 24<=256;omega)⟩
 .show ff (fM b a) l<(fM b a).length;rw[BV,xW];exact hS.fit (gF j (by show b.key<=256;omega))
 .obtain⟨n,rfl⟩:=Dx m;show(if ff (fM b a) (8*b.width)=h then b.lu else 0)+(if ff (fM b a) 32=h then b.ie else 0)+(if ff (fM b a) 24=h then b.ix else 0)+_<=_;rw[BV,BV,BV];unfold BC;refine Nat.add_le_add_left ?_ _;split
  .rename_i i;obtain⟨q,e,f,c⟩:=i;have c:ff (fM b a) q=h:=c;rw[BV]at c;rw[<-c,hS.lY e f,cM rfl];exact dT _
  .exact gK _
end
def fz.frame {k:dX}{l:fR}{args:C M}{d:O}{j:Nat->Prop}{Hc b:C V}{c:M->C V->Prop}(h:cI d j (Hc++b) d)(n:fz k l args d (gO Hc) c):fz k l args d j λi m=>∃a,c i a/\m=a++b:=nY n λ_ _ ⟨i,a,e,f,g⟩=>⟨i,a++b,e,h.call f,a,g,rfl⟩
def fz.QO {o:dX}{p:fR}{args:C M}{c:O}{g:Nat->Prop}{h:V}{b:C V}{f:M->C V->Prop}(l:cI c g [cz (h::b)] c)(r:Hl c h->fz o p args c h.fq f):fz o p args c g λm n=>∃a,f m a/\n=[cz (a++b)]:=by
 have d:cI c g ([h]++b) c:=by have:=cI.cz.2 l;simpa using this
 have e:=r (by have:=B2 d;rwa [ud]at this);rw[<-ud]at e;refine nY (fz.frame d e) λ_ _ ⟨m,n,i,j,a,k,q⟩=>⟨m,_,i,?_,a,k,rfl⟩;subst q;have:=cI.cz.1 (show cI c g ((a++b)++[]) _ by simpa using j);exact this
def jz (a:Hd):C M:=[F a.1,F a.2.1,F a.2.2]
def zG (a:Hd):M:=.agg (jz a).toArray
def yL (b:C Nat):C M:=b.map λa:Nat=>Value.int .u8 (a:Int)
def nT (a:Sl):C M:=[F a.kg,.bool a.used,F a.next,a.dv]
def m4 (a:Cl):C M:=[F a.size,F a.count,a.sv,F a.live]
def xZ (a:Sl):V:=row a.dv 5 1 a.data.length (yL a.data)
def wH (a:Cl):C V:=[row a.sv 339 4 a.sl.length (a.sl.flatMap nT),cz (a.sl.map xZ)]
def o8 (a:Cl):V:=cz (wH a)
def pR (a:M)(b:C Int):C M:=a::(b.map (Value.int .i64)++[F 0])
def lH (d:Nat)(a:M)(b:C Cl)(c:C Int):C V:=[cF d (pR a c) 168,row a 171 4 b.length (b.flatMap m4),cz (b.map o8)]
def xu (f:Nat)(d:C (Nat×Nat))(e:mZ)(g:V):Prop:=∃a b c,g=cz (lH f a b c)/\AI d b c e
def F7 (a:Cl):(m4 a).length=4:=rfl
def Mr (a:Sl):(nT a).length=4:=rfl
def abf (a:Cl)(d f:Nat)(g:O)(c:g.cell? ⟨f,0,.none⟩=some (F d)):Sn 255 [.agg (m4 a).toArray,Z f] g λi h=>i=.bool (decide (d<=a.size))/\h=[]:=by refine enter (g:=9) func255 rfl rfl [(0,.agg (m4 a).toArray),(1,_)] rfl ⟨rfl,rfl,trivial⟩ hS ?_;refine Mf (f:=m4 a) λb e=>?_;refine cB ?_;refine I (jd (hc:=c)) ?_;refine I (cU (z:=.bool (decide (d<=a.size))) (m6 rfl rfl) (dq Value.bool (uU.2 (by omega)))) ?_;refine N [3] ?_;refine gT results255 ?_;exact⟨rfl,rfl⟩
def abg (d:C Cl)(k:M)(j o:Nat)(n:O)(s:n.cell? ⟨o,0,.none⟩=some (F j))(m:Rd n cW 4 k d.length (d.flatMap m4))(u:d.findIdx (λb=>decide (j<=b.size))<d.length)(B:d.length<=1000000):Sn 254 [k,.func (.func 255) #[] #[Z o]] n λH q=>H=F (d.findIdx (λb=>decide (j<=b.size)):Int)/\q=[]:=by
 obtain⟨z,r,rfl,-⟩:=id m;obtain⟨a,c⟩:∃a,d.findIdx (λb=>decide (j<=b.size))=a:=⟨_,rfl⟩;rw[c]at u|-;refine dR func254 hS ?_;refine K4 [0,1,7,8] ?_;refine dB (λw E q K=>∃h:Nat,E=[(0,.slice z d.length r),(1,.func (.func 255) #[] #[Z o]),(7,F d.length),(8,F h)]/\q=[]/\w+h=a) a ⟨0,rfl,rfl,rfl⟩ ?_;rintro w _ _ L ⟨h,rfl,rfl,D⟩;have g:h<d.length:=by omega
 refine N [0,1,7,8,9] ?_;refine N [0,1,5,7,8] ?_;refine Y ?_;obtain⟨b,i⟩:∃b,d[h]? =some b:=⟨_,dr g⟩;obtain⟨A,G,rfl,x,d1⟩:=m.at_ g;refine df ?_;refine I (kY (b:=m4 b) (hc:=λR S v=>by rw[ma];exact d1 _ _ (qC F7 i v))) ?_;refine dw (q7 [] _ rfl rfl func255 (by kernel_rfl) (cD _) (λn t y=>by rw[so];exact abf b j o n (t.rJ s id))) ?_;rintro _ _ Q ⟨_,rfl,rfl,rfl⟩;refine fP (λf=>?_) λf=>?_
 .have:h=a:=by
   rcases o4 (show h<=a by omega)with l|l
   .have e:=Fp (p:=λb:Cl=>decide (j<=b.size)) (xs:=d) (by rw[c];exact l);rw[(da.1 i).2]at e;exact absurd f (by simpa using e)
   .exact l
  subst this;refine N [4] ?_;refine gT results254 ?_;exact⟨rfl,rfl⟩
 .have:h≠a:=λl=>by subst l;have e:=CW (p:=λb:Cl=>decide (j<=b.size)) (xs:=d) (w:=by rw[c];exact g);simp only[c]at e;rw[(da.1 i).2]at e;exact absurd e f
  refine N [0,1,7,8] ?_;exact⟨w-1,by omega,h+1,rfl,rfl,by omega⟩
section
variable{c:C (Nat×Nat)}{b:C Cl}{d:C Int}{g:mZ}{f:Nat}{a:M}{e:O}
def AI.fit (i:AI c b d g)(n:Nat):b.findIdx (λh=>decide (n<=h.size))=ff c n:=by unfold ff;rw[<-i.k,List.findIdx_map];rfl
def abk (n:AI c b d g)(p:Hl e (cz (lH f a b d)))(l:Nat)(u:1<=l)(o:ff c l<c.length):Sr 203 [Z f,F l] e (cz (lH f a b d)) λw t=>w=PF [F (ff c l:Int),F 0]/\t=[cz (lH f a b d)]:=by have fV:=n.dl;have s:=n.kl;have k:=n.fit l;refine dR func203 p ?_;refine Mf λh q=>?_;refine NX 1 0 (v:=a) ?_;refine I (wQ rfl rfl) ?_;refine dd func254 (λe m=>abg b a l h e (by have:=m.ok (i:=0) (r:=cF h [F l] 3) rfl;exact tL e h 0 _ _ (0,0) this) (Rd.qD m (n:=1) (o:=1) rfl rfl) (by rw[k,fV];exact o) (by omega)) ?_;rintro _ _ x ⟨rfl,rfl⟩;rw[k];refine N [3,6] ?_;refine N [6,20] ?_;refine N [4,5] ?_;refine cK [1] ?_;refine dP results203 ?_;exact⟨rfl,rfl⟩
end
def tS {b:C Cl}{d e:Nat}{c:Cl}{f:M}(g:b[d]? =some c)(a:(m4 c)[e]? =some f):(b.flatMap m4)[0+d*4+e]? =some f:=by rw[dU];exact qC F7 g a
def Cv {b:C Sl}{c d:Nat}{e:Sl}{f:M}(g:b[c]? =some e)(a:(nT e)[d]? =some f):(b.flatMap nT)[0+c*4+d]? =some f:=by rw[dU];exact qC Mr g a
def z6 {b:C Sl}{c d:Nat}{g a:Sl}{f:M}(i:b[c]? =some g)(e:d<4)(h:nT a=(nT g).set d f):(b.flatMap nT).take (0+c*4+d)++[f]++(b.flatMap nT).drop (0+c*4+d+[f].length)=(b.set c a).flatMap nT:=by rw[dU];exact DZ Mr i e h
def JY {b:C Cl}{c d:Nat}{g a:Cl}{f:M}(i:b[c]? =some g)(e:d<4)(h:m4 a=(m4 g).set d f):(b.flatMap m4).take (0+c*4+d)++[f]++(b.flatMap m4).drop (0+c*4+d+[f].length)=(b.set c a).flatMap m4:=by rw[dU];exact DZ F7 i e h
def z1 (a:C Sl):(a.flatMap nT).length=a.length*4:=zB Mr a
def JX (a:C Cl):(a.flatMap m4).length=a.length*4:=zB F7 a
def NQ {b:M}{c:C Int}{a:Nat}{d:Int}(e:c[a]? =some d):(pR b c)[0+1+a*1]? =some (F d):=by rw[show 0+1+a*1=a+1 by omega];unfold pR;rw[y0,nk (by rw[dL];exact(da.1 e).1),eK,e];rfl
def FX (a:M)(b:C Int):(pR a b).length=b.length+2:=by simp[pR]
def JH {a:M}{c:C Int}{b:Nat}{d:Int}(e:b<c.length):(pR a c).take (0+1+b*1)++[F d]++(pR a c).drop (0+1+b*1+[Value.int .i64 d].length)=pR a (c.set b d):=by refine(H7 (by rw[FX];omega)).trans ?_;rw[show 0+1+b*1=b+1 by omega];unfold pR;rw[Fu,List.set_append_left _ _ (by rw[dL];exact e),<-xB]
section
variable{o:C (Nat×Nat)}{b:C Cl}{k:C Int}{p:mZ}{i:Nat}{a:M}{m:O}{h j:Nat}{c:Cl}{l:Sl}{e:O}{d:Nat->Prop}{f:C V}{q:Nat}{n:M}
def xT (g:f[q]? =some (cz (lH i a b k))):In e d f (row a 171 4 b.length (b.flatMap m4)):=(In.here g).cz (j:=1) rfl
def Dn (t:f[q]? =some (cz (lH i a b k)))(s:b[h]? =some c)(g:c.sv=n):In e d f (row n 339 4 c.sl.length (c.sl.flatMap nT)):=by subst g;exact(((In.here t).cz (j:=2) rfl).cz (j:=h) (L:=b.map o8) (r:=cz (wH c)) (by rw[eK,s];rfl)).cz (j:=0) rfl
def NR (s:f[q]? =some (cz (lH i a b k)))(g:b[h]? =some c)(t:c.sl[j]? =some l):In e d f (xZ l):=((((In.here s).cz (j:=2) rfl).cz (j:=h) (L:=b.map o8) (r:=cz (wH c)) (by rw[eK,g];rfl)).cz (j:=1) (r:=cz (c.sl.map xZ)) rfl).cz (j:=j) (by rw[eK,t];rfl)
structure At (a:M)(b:C Cl)(c:Cl)(s cap r g:Nat):Prop where
 cls:a=vS s b.length cap
 EC:c.sv=vS r c.sl.length g
def At.of (u:cI e d f m)(t:f[q]? =some (cz (lH i a b k)))(s:b[h]? =some c)(y:j<c.sl.length):∃v cap r g,At a b c v cap r g:=by obtain⟨v,cap,w⟩:=pD (xT (e:=e) (d:=d) t m u) (by have:=(da.1 s).1;omega);obtain⟨r,g,x⟩:=pD (Dn (e:=e) (d:=d) t s rfl m u);exact⟨v,cap,r,g,w,x⟩
def KK {u:Int}(A:Hl m (cz (lH i a b k)))(t:b[h]? =some c)(x:c.sl[j]? =some l)(G:l.used=true)(E:l.kg=u)(W:b.length<=8):Sr 206 [Z i,zG (h,j,u)] m (cz (lH i a b k)) λX f=>f=[cz (lH i a b k)]/\∃y cap s g,At a b c y cap s g/\X=PF [.pointer (some ⟨y,0+h*4,.none⟩),.pointer (some ⟨s,0+j*4,.none⟩),F 0]:=by have K:=(da.1 t).1;have B:=(da.1 x).1;obtain⟨y,cap,s,g,w⟩:=At.of A (q:=0) rfl t B;have r:=w.EC;have z:=w.cls;subst z;refine enter (g:=73) func206 rfl rfl [(0,_),(1,.agg #[F h,F j,F u])] rfl ⟨rfl,rfl,trivial⟩ A ?_;refine Mf (f:=[F h,F j,F u]) λD H=>?_;refine N [0,3] ?_;refine N [0,3,10] ?_;refine cL ?_;refine eO 13 [] [_,_] [] (ik _) λL=>?_;refine fh ?_;refine fX rfl rfl rfl (eZ 1 0 (n:=vS y b.length cap)) ?_;refine N [0,3,23] ?_;refine cC ?_;refine eO 8 [] [_,_] [] (ik _) λQ=>?_;refine cQ ?_;refine cN rfl (eZ 1 0 (n:=vS y b.length cap)) ?_;refine N [0,3,7] ?_;refine Y ?_;refine eO 13 [] [_,_] [] (ik _) λR=>?_;refine fh ?_;refine fX rfl rfl rfl (td (d:=vS s c.sl.length g) (xT (q:=1) rfl) rfl underlying169 rfl (tS t (by rw[<-r];rfl))) ?_;refine N [0,3,7,43] ?_;refine cC ?_;refine eO 8 [] [_,_] [] (ik _) λS=>?_;refine cQ ?_;refine cN rfl (td (d:=vS s c.sl.length g) (xT (q:=1) rfl) rfl underlying169 rfl (tS t (by rw[<-r];rfl))) ?_;refine N [0,3,7,8] ?_;refine Y ?_;refine eO 13 [] [_,_] [] (ik _) λT=>?_;refine cQ ?_;refine cN rfl (td (d:=.bool true) (Dn (q:=1) rfl t r) rfl underlying4 rfl (Cv x (by rw[<-G];rfl))) ?_;refine cL ?_;refine fX rfl rfl rfl (td (d:=F u) (Dn (q:=1) rfl t r) rfl underlying3 rfl (Cv x (by rw[<-E];rfl))) ?_;refine N [0,7,8,63] ?_;refine N [4,5,6] ?_;refine cK [1] ?_;refine dP results206 ?_;exact⟨rfl,y,cap,s,g,w,rfl⟩
end
def F8 {b:Cl}{c a:Nat}(d:b.sv=vS c b.sl.length a):o8 b=cz [row (vS c b.sl.length a) 339 4 b.sl.length (b.sl.flatMap nT),cz (b.sl.map xZ)]:=by unfold o8 wH;rw[d]
def wW {a b:Type}{e:a->b}{g:C a}{f:Nat}{c:a}{d:b}(i:g[f]? =some c)(h:e c=d):(g.map e)[f]? =some d:=by rw[eK,i,<-h];rfl
def RG {a b:Type}{c:a->b}{g:C a}{f:Nat}{e:b}(d:a)(h:c d=e):(g.map c).set f e=(g.set f d).map c:=by rw[<-h,xB]
def abr {a f:Type}{c:a->C f}{e:C a}{i:Nat}{g b:a}(h:e[i]? =some g)(j:c b=c g):(e.set i b).flatMap c=e.flatMap c:=by
 have d:=(da.1 h).1
 conv=>rhs;rw[KN h]
 rw[qU,cM d,j9,j9,ji,ji,j]
def CJ {m:dX}{q:Nat}{e:O}{b:Nat->Prop}{l n:fJ}{o:Nat->fJ}{p:dD}{k:C V}{r:O}{c:Code}{a:Type}{g:a->V}{j:C a}{i:Nat}{d:V}(f:a)(h:i<j.length)(s:g f=d)(t:W m q e b c l n o p (cz ((j.set i f).map g)::k) r):W m q e b c l n o p (d::cz ((j.map g).eraseIdx i)::k) r:=by refine Vd (by rw[dL];exact h) ?_;rw[RG f s];exact t
section
variable{l:C (Nat×Nat)}{i:C Cl}{k:C Int}{m:mZ}{h:Nat}{j:M}{g:O}{f b:Nat}{e:Cl}{a:Sl}{c:Int}{d:C Nat}
def free_spec {r:V}(P:xu h l (((f,b,c),d)::m) r)(ab:Hl g r):Sr 159 [Z h,zG (f,b,c)] g r λu H=>∃K,u=F 0/\H=[K]/\xu h l m K:=by
 obtain⟨j,i,k,rfl,o⟩:=P;obtain⟨e,a,q,t,ad,X,hb⟩:=o.u.get;obtain⟨p,D,A⟩:=o.fi q;have E:=(da.1 q).1;have w:=(da.1 t).1;have fV:=o.dl;have ak:=o.kl;have aj:=o.fl;obtain⟨W,L⟩:=o.free q D t;have al:e.live<=e.sl.length:=by rw[A.live];exact I7
 have ai:=A.len;have s:=o.ep _ (eH (o.kc q));have s:e.count<=1000000:=s;refine enter (g:=49) func159 rfl rfl [(0,_),(1,.agg #[F f,F b,F c])] rfl ⟨rfl,rfl,trivial⟩ ab ?_;refine Mf (f:=[F f,F b,F c]) λT ae=>?_;refine K3 0 (f:=[F f,F b,F c]) ?_;refine cY (_) [_] func206 (c8 1 rfl) (λg hh G=>KK G q t ad X (by omega)) ?_;rintro _ _ w1 ⟨rfl,x,cap,gs,ah,y,rfl⟩;have z:=y.EC;have B:=y.cls;subst B;refine N [0,3,5,6,7] ?_;refine N [0,3,5,6,7,16] ?_;refine cQ ?_;refine eu (lH h _ i k) ?_;refine cK [2,0,0,0] ?_;refine Ai f (wW q (F8 z)) ?_;refine eu [_,_] ?_;refine cK [3,4,0,0,0,0] ?_;refine eO 19 [12,15,18] [_,_] [_,_,_,_] (cD _) λam=>?_;refine fh ?_;refine cN rfl (dH 0 (n:=F p) (hv:=NQ D)) ?_;refine cC ?_;refine jW rfl (fK 2 (y:=(e.sl.set b ⟨a.kg,false,a.next,a.dv,a.data⟩).flatMap nT) (hl:=by rw[z1];show 0+b*4+1+1<=_;omega) (ae:=z6 (d:=1) t (by omega) rfl)) ?_;rintro _ _ Q rfl;refine⟨_,cD _,?_⟩;refine cC ?_;refine jW rfl (fK 2 (y:=((e.sl.set b ⟨a.kg,false,a.next,a.dv,a.data⟩).set b ⟨a.kg,false,a.next,vN,a.data⟩).flatMap nT) (hl:=by rw[z1,fy];show 0+b*4+3+1<=_;omega) (ae:=z6 (d:=3) (gm w) (by omega) rfl)) ?_;rintro _ _ R rfl;refine⟨_,cD _,?_⟩;refine cC ?_;refine jW rfl (fK 2 (y:=(((e.sl.set b ⟨a.kg,false,a.next,a.dv,a.data⟩).set b ⟨a.kg,false,a.next,vN,a.data⟩).set b ⟨a.kg,false,p,vN,[]⟩).flatMap nT) (hl:=by rw[z1,fy,fy];show 0+b*4+2+1<=_;omega) (ae:=z6 (d:=2) (gm (by rw[fy];exact w)) (by omega) rfl)) ?_;rintro _ _ S rfl;refine⟨_,cD _,?_⟩;refine iK [0,3,5] ?_;refine Y ?_;rw[we,we];refine eO 9 [8] [_] [_,_,_,_,_] (de [1] _ rfl) λan=>?_;refine iq ?_;refine jW rfl (gD 1 (y:=pR _ (k.set f (b:Int))) (hl:=by rw[FX];exact Bb (by show 0+1+f*1+1<=_;omega)) (ae:=JH (by omega))) ?_;rintro _ _ af rfl;refine⟨_,cD _,?_⟩;refine cB ?_;refine I (gj 5 (n:=F e.live) (hv:=tS q rfl)) ?_;refine I (cU (z:=F ((e.live-1:Nat):Int)) (Px rfl rfl) (by congr 1;omega)) ?_;refine cC ?_;refine iQ (fK 5 (y:=(i.set f {e with sl:=e.sl.set b ⟨a.kg,false,p,vN,[]⟩,live:=e.live-1}).flatMap m4) (hl:=by rw[JX];show 0+f*4+3+1<=_;omega) (ae:=JY (d:=3) q (by omega) rfl)) ?_;rintro _ _ ag rfl;refine cH [] ?_;refine N [4] ?_;refine cK [3,2,2,1,1] ?_;refine Ai b (wW t rfl) ?_;refine cK [1,1,1,1,1] ?_;refine gh 5 1 ?_;refine CJ (g:=xZ) ⟨a.kg,false,p,vN,[]⟩ w rfl ?_;refine cK [1,0,0,0,0] ?_;refine dG [_,_] ?_;refine CJ (g:=o8) {e with sl:=e.sl.set b ⟨a.kg,false,p,vN,[]⟩,live:=e.live-1} E (by unfold o8 wH;dsimp only;rw[z,fy]) ?_;refine cK [1,1,0] ?_;refine dG [_,_,_] ?_;refine dP results159 ?_;refine⟨_,rfl,rfl,vS x i.length cap,_,_,?_,W⟩;unfold lH;rw[fy]
def ats {X:V}(v:M)(n:Nat)(o:C Nat)(af:n=o.length)(ag:xu h l (((f,b,c),d)::m) X)(ah:Hl g X)(L:Rd g X.fq 1 v n (yL o))(y:∀p,l[f]? =some p->o.length<=p.1)(h9:o.length<=1000000):Sr 204 [Z h,zG (f,b,c),v] g X λu H=>∃W,u=F 0/\H=[W]/\xu h l (((f,b,c),o)::m) W:=by
 obtain⟨j,i,k,rfl,r⟩:=ag;obtain⟨e,a,s,x,G,ad,hb⟩:=r.u.get;have R:=(da.1 s).1;have T:=(da.1 x).1;have fV:=r.dl;have am:=r.kl;have y:=y _ (r.kc s);have y:o.length<=e.size:=y;subst af;obtain⟨A,cp,rfl,-⟩:=id L;have ae:(yL o).length=o.length:=by simp[yL]
 refine enter (g:=34) func204 rfl rfl [(0,_),(1,.agg #[F f,F b,F c]),(2,_)] rfl ⟨rfl,rfl,rfl,trivial⟩ ah ?_;refine Mf (f:=[F f,F b,F c]) λP ai=>?_;refine K3 0 (f:=[F f,F b,F c]) ?_;refine cY (_) [_] func206 (c8 1 rfl) (λg Q S=>KK S s x G ad (by omega)) ?_;rintro _ _ w1 ⟨rfl,B,cap,gs,al,D,rfl⟩;have E:=D.EC;have K:=D.cls;subst K;refine cB ?_;refine I (td (d:=F e.size) (xT (q:=0) rfl) rfl underlying3 rfl (tS (e:=0) s rfl)) ?_;refine cB ?_;refine dw (tX jV) ?_;rintro _ _ aj ⟨ab,rfl,rfl⟩;refine Y ?_;refine dw (jo 0 jV (hr:=λg Q=>L.dx Q) (h1:=by intro u G;obtain⟨z,_,rfl⟩:=dz.1 G;rfl)) ?_;rintro _ _ w6 ⟨⟨t,w,rfl⟩,rfl⟩;rw[dU o.length,kF];refine cC ?_;refine fu [1,0] ?_;refine CK (lH h _ i k) ?_;refine fu [2,0,0,0] ?_;refine ati f (wW s (F8 E)) ?_;refine CK [_,_] ?_;refine iQ (fK 0 (y:=(e.sl.set b ⟨a.kg,a.used,a.next,.slice t o.length w,o⟩).flatMap nT) (hl:=by rw[z1];show 0+b*4+3+1<=_;omega) (ae:=z6 (d:=3) x (by omega) rfl)) ?_;rintro _ _ ak rfl;refine cH [] ?_;refine N [6] ?_;refine cK [1,0,0,0,0,0] ?_;refine Ai b (wW x rfl) ?_;refine cK [6,1,1,1,1,1] ?_;refine CJ (g:=xZ) ⟨a.kg,a.used,a.next,.slice t o.length w,o⟩ T rfl ?_;refine cK [1,0,0,0,0] ?_;refine dG [_,_] ?_;refine CJ (g:=o8) {e with sl:=e.sl.set b ⟨a.kg,a.used,a.next,.slice t o.length w,o⟩} R (by unfold o8 wH;dsimp only;rw[E,fy]) ?_;refine cK [1,1,0] ?_;refine dG [_,_,_] ?_;refine dP results204 ?_;refine⟨_,rfl,rfl,vS B i.length cap,_,_,?_,r.write s x (.slice t o.length w)⟩;unfold lH;rw[fy,abr (c:=m4) (b:={e with sl:=e.sl.set b ⟨a.kg,a.used,a.next,.slice t o.length w,o⟩}) s rfl]
def Cs {E:V}(S:xu h l (((f,b,c),d)::m) E)(T:Hl g E)(h9:d.length<=1000000):Sr 256 [Z h,zG (f,b,c)] g E λu H=>∃ab n,u=PF [.slice ab d.length n,F 0]/\H=[row (.slice ab d.length n) 5 1 d.length (yL d),E]:=by
 obtain⟨j,i,k,rfl,o⟩:=S;obtain⟨e,a,p,s,x,Q,y⟩:=o.u.get;have ae:=(da.1 p).1;have ag:=(da.1 s).1;have fV:=o.dl;have af:=o.kl;have R:(yL d).length=d.length:=by simp[yL]
 refine enter (g:=25) func256 rfl rfl [(0,_),(1,.agg #[F f,F b,F c])] rfl ⟨rfl,rfl,trivial⟩ T ?_;refine Mf (f:=[F f,F b,F c]) λL X=>?_;refine K3 0 (f:=[F f,F b,F c]) ?_;refine cY (_) [_] func206 (c8 1 rfl) (λg r B=>KK B p s x Q (by omega)) ?_;rintro _ _ w1 ⟨rfl,G,cap,gs,ad,t,rfl⟩;have D:=t.EC;have A:=t.cls;subst A;refine cB ?_;refine dw (tX jV) ?_;rintro _ _ P ⟨b4,rfl,rfl⟩;refine kq λr=>?_;obtain⟨K,W,w⟩:=Ew (NR (q:=1) rfl p s P r);clear r;refine cQ ?_;refine I (td (d:=.slice K d.length W) (Dn (q:=1) rfl p D) rfl underlying74 rfl (Cv s (by rw[<-y,<-w];rfl))) ?_;refine dw (BF (r:=d.length) (t:=yL d) 0 jV rfl rfl rfl (λg r=>by have:=(NR (q:=1) rfl p s).rd r;rw[w,y]at this;exact this) (by intro u x;obtain⟨z,_,rfl⟩:=dz.1 x;rfl) (by omega) (by omega)) ?_;rintro _ _ w5 ⟨⟨A6,c6,rfl⟩,rfl⟩;rw[dU d.length,kF];refine N [4,5] ?_;refine cK [0,0] ?_;refine dP results256 ?_;exact⟨_,_,rfl,rfl⟩
end
def Uh:fB prog 169 339 4 48 (.agg #[F 0,.bool false,F 0,vN]):=.mk' underlying169 (by kernel_rfl) rfl (by decide)
def Ug:fB prog 165 171 4 48 (.agg #[F 0,F 0,vN,F 0]):=.mk' underlying165 (by kernel_rfl) rfl (by decide)
def Yt (a:O):(Instr.build 339 [].toArray).run prog a=.ok (PE [F 0,.bool false,F 0,vN]) a:=by kernel_rfl
def X0 (a b c:Int)(d:O):(Instr.build 280 [(0,F a),(1,F b),(2,F c)].toArray).run prog d=.ok (PE [F a,F b,F c]) d:=by kernel_rfl
def atp {n:dX}{p:Nat}{f:O}{c:Nat->Prop}{m:fJ}{o:dD}{l:C V}{q:O}{a:Array Oper}{d:C Oper}{b:Type}{h:b->V}{k:C b}{j:Nat}{e:V}(g:b)(i:j<k.length)(r:h g=e)(s:WL n p f c a m d o (cz ((k.set j g).map h)::l) q):WL n p f c a m d o (e::cz ((k.map h).eraseIdx j)::l) q:=by refine ato (by rw[dL];exact i) ?_;rw[RG g r];exact s
def Ol {a:Cl}{b:M}(c:a.sv=b):o8 a=cz [row b 339 4 a.sl.length (a.sl.flatMap nT),cz (a.sl.map xZ)]:=by unfold o8 wH;rw[c]
section
variable{g:C (Nat×Nat)}{c:C Cl}{h:C Int}{l:mZ}{f:Nat}{k:M}{j:O}{b e:Nat}{a:Cl}{i:Sl}{d:Int}{m:C Nat}
def AI.sv {s:Cl}(o:AI g (c.set b s) h l)(K:M):AI g (c.set b {s with sv:=K}) h l:=by
 have y:∀(n:Nat)(a:Cl),(c.set b {s with sv:=K})[n]? =some a->∃r:Cl,(c.set b s)[n]? =some r/\r.size=a.size/\r.count=a.count/\r.sl=a.sl/\r.live=a.live:=λn a p=>by
  rw[oD]at p|-;split at p
  .rename_i q;subst q;split at p
   .rename_i H;injection p with p;subst p;exact⟨s,by simp[H],rfl,rfl,rfl,rfl⟩
   .cases p
  .rename_i q;exact⟨a,by rw[cJ q];exact p,rfl,rfl,rfl,rfl⟩
 have mD:∀n z,kV (c.set b {s with sv:=K}) n z=kV (c.set b s) n z:=λn z=>by
  unfold kV;rw[oD,oD];split
  .split<;>rfl
  .rfl
 refine⟨?_,o.kl,o.fl,o.ep,λn a v p G=>?_,⟨o.u.nd,λn z t A=>by rw[mD];exact o.u.mem n z t A⟩⟩
 .have:=o.k;rw[xB]at this|-;exact this
 .obtain⟨r,B,L,D,w,E⟩:=y n a p;have x:=o.cl n r v B G;exact⟨by rw[<-D,<-w];exact x.len,by rw[<-E,<-w];exact x.live,by rw[<-w];exact x.chain⟩
def Tf {q:Type}{n:C q}{b:Nat}{f:q}(o:n[b]? =some f):n.set b f=n:=by
 refine qo λr=>?_;rw[oD];split
 .rename_i p;subst p;rw[cM (da.1 o).1,o]
 .rfl
def NO {r:V}(n:Nat)(hn:1<=n)(hf:ff g n<g.length)(x:∀i A,g[ff g n]? =some (i,A)->lW (ff g n) l<A)(hr:xu f g l r)(hs:Hl j r):Sr 157 [Z f,F n] j r λu H=>∃e d r',u=PF [zG (ff g n,e,d),F 0]/\H=[r']/\xu f g (((ff g n,e,d),[])::l) r':=by
 obtain⟨k,c,h,rfl,p⟩:=hr;have fV:=p.dl;have aD:=p.kl;have aC:=p.fl;have aj:=λ{w1:O} (ak:Hl w1 (cz (lH f k c h)))=>abk p ak n hn hf;obtain⟨b,hi⟩:∃b,ff g n=b:=⟨_,rfl⟩;rw[hi]at hf x aj|-;have W:b<c.length:=by omega
 obtain⟨a,s⟩:∃a,c[b]? =some a:=⟨_,dr W⟩;obtain⟨z,ag,hI⟩:=p.fi s;have x:=x _ _ (p.kc s);obtain⟨t,cap,an⟩:=pD (xT (e:=j) (d:=(cz (lH f k c h)).fq) (q:=0) rfl j hs);subst an;obtain⟨As,af,B⟩:=Ew (Dn (e:=j) (d:=(cz (lH f _ c h)).fq) (q:=0) rfl s rfl j hs);have aE:a.live<=a.sl.length:=by rw[hI.live];exact I7
 have aB:=hI.len;have ai:=p.ep _ (eH (p.kc s));have ai:a.count<=1000000:=ai;refine dR func157 hs ?_;refine NV [F 0,F 0,F 0] λad aA=>?_;refine Pw 1 func203 (λj R ak=>aj ak) ?_;rintro _ _ w1 ⟨rfl,rfl⟩;refine NX 0 0 (v:=vS t c.length cap) ?_;refine NX 0 0 (v:=F z) (hv:=NQ ag) ?_;refine N [0,4,6,8,9] ?_;refine Y ?_;refine eS (λA H w'=>∃(e:Nat)(D:C Sl)(sv:M)(F':C Int)(o:Sl),A=[(4,Z ad),(6,F b),(8,.pointer (some ⟨t,0+b*4,.none⟩)),(9,F e)]/\H=[row (vS t c.length cap) 171 4 c.length ((c.set b {a with sl:=D,sv:=sv}).flatMap m4),cz ((c.set b {a with sl:=D,sv:=sv}).map o8),cF f (pR (vS t c.length cap) F') 168,cF ad [F 0,F 0,F 0] 280]/\D[e]? =some o/\∀P,AI g (c.set b {a with sl:=D.set e ⟨P,true,o.next,vN,[]⟩,sv:=sv,live:=a.live+1}) F' (((b,e,P),[])::l)) ?_ ?_
 .refine cZ (λah=>?_) λah=>?_
  .obtain⟨L,hL,-⟩:=hI.chain;obtain⟨y,i,rfl,G⟩:∃y i,z=((y:Nat):Int)/\a.sl[y]? =some i:=by
    cases L with
    |nil=>exact absurd hL ah
    |cons y L=>obtain⟨h1,_,i,h2,_⟩:=hL;exact⟨y,i,h1,h2⟩
   have E:=(da.1 G).1;refine eQ λR=>?_;obtain⟨_,_,S,w,al⟩:=At.of R (q:=0) rfl s E;have B:=al.EC;clear al R;refine eu (lH f _ c h) ?_;refine eO 14 [13] [_,_] [_,_] (de [1,1] _ rfl) λaI=>?_;refine df ?_;refine cN rfl (gj 0 (n:=vS S a.sl.length w) (hv:=tS s (by rw[<-B];rfl))) ?_;refine cQ ?_;refine cN rfl (td (d:=F i.next) (((In.here (i:=1) rfl).cz (j:=b) (wW s (F8 B))).cz (j:=0) rfl) rfl underlying3 rfl (Cv G rfl)) ?_;refine cQ ?_;refine jW rfl (gD 2 (y:=pR _ (h.set b i.next)) (hl:=by rw[FX];exact Bb (by show 0+1+b*1+1<=_;omega)) (ae:=JH (by omega))) ?_;rintro _ _ az rfl;refine⟨_,cD _,?_⟩;refine iK [4,6,8,9] ?_;refine⟨y,a.sl,a.sv,_,i,rfl,?_,G,λP=>p.WW s ag G P⟩;rw[Tf (n:=c) (f:={a with sl:=a.sl,sv:=a.sv}) s];rfl
  .have ao:z= -1:=by
    rcases Int.decEq z (-1)with K|K
    .exact absurd K ah
    .exact K
   subst ao;have ap:=p.room s ag x;refine Y ?_;refine eO 12 [] [_,_] [] (ik _) λaJ=>?_;refine cQ ?_;refine cN rfl (td (d:=.slice As a.sl.length af) (xT (q:=0) rfl) rfl underlying169 rfl (tS s (by rw[<-B];rfl))) ?_;refine df ?_;refine cN rfl (td (d:=F a.count) (xT (q:=0) rfl) rfl underlying3 rfl (tS (e:=1) s rfl)) ?_;refine cB ?_;refine I (td (d:=.slice As a.sl.length af) (xT (q:=0) rfl) rfl underlying169 rfl (tS s (by rw[<-B];rfl))) ?_;refine N [4,6,8,9] ?_;refine eu (lH f _ c h) ?_;refine cK [2,0,0,0] ?_;refine Ai b (wW s (Ol B)) ?_;refine eu [_,_] ?_;refine df ?_;refine I (gj 4 (n:=.slice As a.sl.length af) (hv:=tS s (by rw[<-B];rfl))) ?_;refine I (ee Yt) ?_;refine gZ Uh λaq ar=>?_;refine dw (jo 1 Uh) ?_;rintro aF _ aG ⟨⟨ab,ae,rfl⟩,rfl⟩;refine cC ?_;refine iQ (fK 5 (y:=(c.set b {a with sl:=a.sl++[⟨0,false,0,vN,[]⟩],sv:=.slice ab (a.sl.length+1) ae}).flatMap m4) (hl:=by rw[JX];show 0+b*4+2+1<=_;omega) (ae:=JY (d:=2) s (by omega) rfl)) ?_;rintro _ _ aH rfl;refine fu [2,1,1,1,1,1] ?_;refine M6 5 1 ?_;refine fu [1,0,0,0,0,0,0] ?_;refine Vk ?_;refine fu [1,0,0,0,0,0] ?_;refine qh [_,_] ?_;refine atp (h:=o8) {a with sl:=a.sl++[⟨0,false,0,vN,[]⟩],sv:=.slice ab (a.sl.length+1) ae} W (by unfold o8 wH;simp only[cX,lD,j9,dE];rfl) ?_;refine fu [2,0,0,0] ?_;refine cH [4,6,8,9] ?_;refine⟨a.sl.length,_,_,h,⟨0,false,0,vN,[]⟩,rfl,rfl,by rw[nm (dT _),nK];rfl,λP=>?_⟩;have h1:=(p.WY s ag ap P 0).sv (.slice ab (a.sl.length+1) ae);rw[Tf ag]at h1;rw[C4 _ _ (dT _),nK];exact h1
 .rintro _ _ w7 ⟨e,D,sv,F',o,rfl,rfl,G,am⟩;refine Y ?_;have E:=(da.1 G).1;have Q:(c.set b {a with sl:=D,sv:=sv})[b]? =some {a with sl:=D,sv:=sv}:=gm W;have X:(c.set b {a with sl:=D,sv:=sv}).length=c.length:=fy;refine eQ λR=>?_;obtain⟨S,w,T⟩:=pD ((((In.here (w0:=j) (F0:=(cz (lH f (vS t c.length cap) c h)).fq) (i:=1) rfl).cz (j:=b) (wW Q (Ol rfl))).cz (j:=0) rfl) w7 R) (by show 0<D.length;omega);have T:sv=vS S D.length w:=T;subst T;clear R;refine cL ?_;refine I (gj 0 (n:=vS S D.length w) (hv:=tS Q rfl)) ?_;refine N [4,6,8,9,10] ?_;refine Y ?_;refine cK [1,0,0,0] ?_;refine Ai b (wW Q (F8 rfl)) ?_;refine eu [_,_] ?_;refine cL ?_;refine I (gj 0 (n:=F o.kg) (hv:=Cv (d:=0) G rfl)) ?_;refine I (BM rfl rfl) ?_;refine cC ?_;refine iQ (fK 0 (y:=(D.set e ⟨IntKind.i64.wrap (o.kg+1),o.used,o.next,o.dv,o.data⟩).flatMap nT) (hl:=by rw[z1];show 0+e*4+0+1<=D.length*4;omega) (ae:=z6 (d:=0) G (by omega) rfl)) ?_;rintro _ _ au rfl;refine cB ?_;refine iQ (fK 0 (y:=((D.set e ⟨IntKind.i64.wrap (o.kg+1),o.used,o.next,o.dv,o.data⟩).set e ⟨IntKind.i64.wrap (o.kg+1),true,o.next,o.dv,o.data⟩).flatMap nT) (hl:=by rw[z1,fy];show 0+e*4+1+1<=_;omega) (ae:=z6 (d:=1) (gm E) (by omega) rfl)) ?_;rintro _ _ av rfl;refine cB ?_;refine iQ (fK 0 (y:=(((D.set e ⟨IntKind.i64.wrap (o.kg+1),o.used,o.next,o.dv,o.data⟩).set e ⟨IntKind.i64.wrap (o.kg+1),true,o.next,o.dv,o.data⟩).set e ⟨IntKind.i64.wrap (o.kg+1),true,o.next,vN,[]⟩).flatMap nT) (hl:=by rw[z1,fy,fy];show 0+e*4+3+1<=_;omega) (ae:=z6 (d:=3) (gm (by rw[fy];exact E)) (by omega) rfl)) ?_;rintro _ _ aw rfl;refine cH [4,6,8,9,10] ?_;refine Y ?_;rw[we,we];generalize IntKind.i64.wrap (o.kg+1)=d;refine cL ?_;refine I (gj 3 (n:=F a.live) (hv:=tS (e:=3) Q rfl)) ?_;refine I (cU (z:=F ((a.live+1:Nat):Int)) (kH rfl rfl) (by rw[gR];rfl)) ?_;refine cC ?_;refine iQ (fK 3 (y:=((c.set b {a with sl:=D,sv:=vS S D.length w}).set b {a with sl:=D.set e ⟨d,true,o.next,vN,[]⟩,sv:=vS S D.length w,live:=a.live+1}).flatMap m4) (hl:=by rw[JX,X];show 0+b*4+3+1<=_;omega) (ae:=JY (d:=3) Q (by omega) rfl)) ?_;rintro _ _ ax rfl;refine cB ?_;refine I (gj 0 (n:=F d) (hv:=Cv (d:=0) (gm E) rfl)) ?_;refine I (ee (X0 _ _ _)) ?_;refine cO 5 (H:=jz (b,e,d)) λay=>?_;refine N [4,5] ?_;refine cK [1,0,0,0,0,0] ?_;refine Ai e (wW G rfl) ?_;refine cK [1,1,1,1,1,1] ?_;refine gh 5 1 ?_;refine CJ (g:=xZ) ⟨d,true,o.next,vN,[]⟩ E rfl ?_;refine cK [1,0,0,0,0,0] ?_;refine dG [_,_] ?_;refine CJ (g:=o8) {a with sl:=D.set e ⟨d,true,o.next,vN,[]⟩,sv:=vS S D.length w,live:=a.live+1} (by rw[X];exact W) (by unfold o8 wH;dsimp only;rw[fy]) ?_;refine cK [2,1,0,0] ?_;refine dG [_,_,_] ?_;refine eM ?_;refine⟨_,_,λf ha R=>eW results157 (eX (e4 1 rfl underlying280 rfl (by kernel_rfl) rfl) (gg rfl eY)) f ha _ R,(iw _).cons_cons _,?_⟩;refine⟨e,d,_,rfl,rfl,vS t c.length cap,_,F',?_,am d⟩;unfold lH;rw[we,fy]
end
def E3 (c:C (Hd×Nat))(d:pH):Prop:=∀(a:Nat)(e:Hd)(b:Nat),c[a]? =some (e,b)->b≠0->∃f,ed d f=some (a:Int)
structure jY (a:MC)(c:jO)(d:jX)(f:C Cl)(g:C Int)(b:C (Hd×Nat))(e:pH):Prop where
 mi:MI a c d f g b e
 px:E3 b e
 el:b.length<=a.gW+1
 kc:a.gW<=8192
 km:a.lr<=255
 ok:a.Ok
section
variable{g:MC}{b:jO}{c:jX}{i:C Cl}{j:C Int}{d:C (Hd×Nat)}{f:pH}{h:Nat}{a:U}{e:Hd}{l:Nat}
def jY.perm {m:jO}{n:jX}(k:jY g b c i j d f)(o:b.Perm m)(p:c.Perm n):jY g m n i j d f:=⟨k.mi.perm o p,k.px,k.el,k.kc,k.km,k.ok⟩
def jY.e1 (k:jY g b c i j d f):1<=d.length:=by obtain⟨h0,m⟩:=k.mi.po.e0;have:=(da.1 m).1;omega
def E3.set (n:E3 d f)(q:ed f a=some (h:Int))(s:Nat):E3 (d.set h (e,s)) f:=λm p t o r=>by
 by_cases k:h=m
 .subst k;exact⟨a,q⟩
 .rw[fE k]at o;exact n m p t o r
def jY.more (k:jY g b c i j d f)(m:ed f a=some (h:Int))(o:d[h]? =some (e,l))(n:c.length<g.gW):jY g b ((h,a)::c) i j (d.set h (e,l+1)) f:=⟨k.mi.more m o n,k.px.set m _,by rw[fy];exact k.el,k.kc,k.km,k.ok⟩
def jY.less (k:jY g b ((h,a)::c) i j d f)(m:d[h]? =some (e,l))(n:l≠1):jY g b c i j (d.set h (e,l-1)) f:=⟨k.mi.less m n,k.px.set (k.mi.po.ks _ (dQ ..)) _,by rw[fy];exact k.el,k.kc,k.km,k.ok⟩
def jY.alloc {r:Nat}{m:C Cl}{n:C Int}(k:jY g b c i j d f)(p:r<3)(q:gz b r<g.cap r)(o:e.1=ff g.K (g.sz r))(s:AI g.K m n ((e,[])::use b d f)):jY g ((r,e)::b) c m n d f:=⟨k.mi.alloc p q o s,k.px,k.el,k.kc,k.km,k.ok⟩
def jY.free {p:Nat}{m:C Cl}{n:C Int}(k:jY g ((p,e)::b) c i j d f)(o:AI g.K m n (use b d f)):jY g b c m n d f:=⟨k.mi.free o,k.px,k.el,k.kc,k.km,k.ok⟩
def jY.add {q:C Cl}{r:C Int}(k:jY g b c i j d f)(u:ed f a=none)(A:1<=h)(z:∃o,d[h]? =some (o,0))(v:c.length<g.gW)(w:1<=a.size/\a.size<=g.lr)(s:e.1=ff g.K a.size)(y:AI g.K q r ((e,vb a)::use b d f)):jY g b ((h,a)::c) q r (d.set h (e,1)) (nM f a (h:Int)):=by
 refine⟨k.mi.add u A z v w s y,λn o E t B=>?_,by rw[fy];exact k.el,k.kc,k.km,k.ok⟩;by_cases m:h=n
 .subst m;exact⟨a,NI⟩
 .rw[fE m]at t;obtain⟨D,p⟩:=k.px n o E t B;refine⟨D,?_⟩;rw[NH]
  .exact p
  .intro x;subst x;rw[u]at p;cases p
def jY.last {r:C Cl}{s:C Int}(k:jY g b ((h,a)::c) i j d f)(t:d[h]? =some (e,1))(x:AI g.K r s (use b d (ig f a))):jY g b c r s (d.set h (e,0)) (ig f a):=by
 have q:=k.mi.po.ks (h,a) (dQ ..);have q:ed f a=some (h:Int):=q;refine⟨k.mi.last t x,λo w z m u=>?_,by rw[fy];exact k.el,k.kc,k.km,k.ok⟩;by_cases n:h=o
 .subst n;rw[gm (da.1 t).1]at m;injection m with m;injection m with _ m;exact absurd m.symm u
 .rw[fE n]at m;obtain⟨y,p⟩:=k.px o w z m u;refine⟨y,?_⟩;rw[FQ]
  .exact p
  .intro v;subst v;rw[q]at p;injection p with p;omega
def jY.full (n:jY g b c i j d f)(p:∀(k:Nat)(m:Hd)(q:Nat),1<=k->d[k]? =some (m,q)->q≠0):d.length<=c.length+1:=by
 have m:=n.mi.po.len;have u:=Ht (a:=(List.range (d.length-1)).map λk=>((k+1:Nat):Int)) (b:=f.map Prod.snd) (oE.2 (zb.imp λs t=>s (by omega))) λy w=>by obtain⟨k,r,rfl⟩:=dz.1 w;have r:=lE.1 r;have o:∃(m:Hd)(q:Nat),d[k+1]? =some (m,q):=⟨(d[k+1]'(by omega)).1,(d[k+1]'(by omega)).2,dr (by omega)⟩;obtain⟨m,q,o⟩:=o;obtain⟨x,v⟩:=n.px (k+1) m q o (p (k+1) m q (by omega) o);exact dz.2 ⟨_,wC v,rfl⟩
 rw[dL,sZ,dL]at u;omega
def MI.asQ (k:MI g b c i j d f)(e:Hd):use b (d++[(e,0)]) f=use b d f:=by unfold use;rw[HI λs o=>QH (by obtain⟨m,e,p,q,n,r⟩:=k.po.num _ _ (s5 k.po.nd o);have:=(da.1 n).1;omega)]
def jY.grow (k:jY g b c i j d f)(e:Hd)(u:c.length<g.gW)(q:∀(o:Nat)(p:Hd)(t:Nat),1<=o->d[o]? =some (p,t)->t≠0):jY g b c i j (d++[(e,0)]) f:=by
 have:=k.full q;refine⟨k.mi.grow e,λh p t m s=>?_,by rw[cX,lD];omega,k.kc,k.km,k.ok⟩;rcases np h d.length with n|n
 .rw[nk n]at m;exact k.px h p t m s
 .rw[nm n]at m;cases r:h-d.length with
  |zero=>rw[r]at m;injection m with m;injection m with _ m;exact absurd m.symm s
  |succ v=>rw[r]at m;cases m
end
def o9 (a:Hd×Nat):C M:=jz a.1++[F a.2]
def DN (a:Hd×Nat):(o9 a).length=4:=rfl
def Kj (a:C (Hd×Nat)):(a.flatMap o9).length=a.length*4:=zB DN a
def mI (e c d:Nat)(ev:M)(a:C (Hd×Nat))(nb:Nat)(b:pH):C V:=[cF e [Z c,F d,ev,.map (some nb)] 175,row ev 342 4 a.length (a.flatMap o9),mp .string Value.string (Value.int .i64) nb b]
def pZ (b h g:Nat)(a:M)(c:C Cl)(e:C Int)(ev:M)(d:C (Hd×Nat))(nb:Nat)(f:pH):C V:=[cz (lH b a c e),cz (mI h b g ev d nb f)]
def fQ (i j:Nat)(d:MC)(b:jO)(c:jX)(k:V):Prop:=∃a e g ev f nb h,k=cz (pZ i j d.gW a e g ev f nb h)/\jY d b c e g f h
def LO:sT prog 173 9 3 .string (F 0):=⟨underlying173,underlying9,λa=>by kernel_rfl⟩
def MG:fB prog 172 342 4 32 (.agg #[F 0,F 0,F 0,F 0]):=.mk' underlying172 (by kernel_rfl) rfl (by decide)
def DO {b:C (Hd×Nat)}{d e:Nat}{c:Hd×Nat}{f:M}(g:b[d]? =some c)(a:(o9 c)[e]? =some f):(b.flatMap o9)[0+d*4+e]? =some f:=by rw[dU];exact qC DN g a
def Pe {a:C (Hd×Nat)}{b:Nat}{e:Hd×Nat}(f:a[b]? =some e):((a.flatMap o9).drop (0+b*4+0)).take 3=jz e.1:=by
 have c:=oQ DN f;rw[dU,tJ];have d:((a.flatMap o9).drop (b*4)).take 3=(((a.flatMap o9).drop (b*4)).take 4).take 3:=by rw[xF];rfl
 rw[d,c];rfl
def Pd {b:C (Hd×Nat)}{c d:Nat}{h a:Hd×Nat}{g:M}(i:b[c]? =some h)(f:d<4)(e:o9 a=(o9 h).set d g):(b.flatMap o9).take (0+c*4+d)++[g]++(b.flatMap o9).drop (0+c*4+d+[g].length)=(b.set c a).flatMap o9:=by rw[dU];exact DZ DN i f e
section
variable{g:MC}{h:jO}{b:jX}{d e id:Nat}{a:U}{c:O}{f:V}
def Sy (H:fQ d e g h b f)(s:(id,a)∈b)(h0:Hl c f):Sr 207 [Z e,F id] c f λE X=>E=PF [.string a,.bool true]/\X=[f]:=by obtain⟨l,t,u,ev,n,nb,w,rfl,i⟩:=H;obtain⟨z,E,k,-,S,o,m⟩:=i.mi.po.mem s;have k:n[id]? =some (z,E):=k;have o:1<=id:=o;have m:ed w a=some (id:Int):=m;have L:=(da.1 k).1;have K:=i.el;have Q:=i.kc;have R:=i.km;obtain⟨P,x,G⟩:=z;have p:=i.mi.mc _ (wC m);have y:=i.mi.key m k;obtain⟨ge,q,A⟩:=pD (((In.here (w0:=c) (F0:=(cz (pZ d e g.gW l t u ev n nb w)).fq) (H:=[cz (pZ d e g.gW l t u ev n nb w)]) (i:=0) rfl).cz (j:=1) (r:=cz (mI e d g.gW ev n nb w)) rfl).cz (j:=1) rfl c h0);subst A;refine dR func207 h0 ?_;refine eu (pZ d e g.gW l t u _ n nb w) ?_;refine cB ?_;refine dZ rfl rfl (eZ 1 0 (n:=vS ge n.length q)) ?_;refine fw ?_;refine dZ rfl rfl (eZ 1 0 (n:=vS ge n.length q)) ?_;refine cQ ?_;refine dZ rfl rfl (sO 1 1 (n:=F E) (hv:=DO (e:=3) k rfl)) ?_;refine N [0,1,33] ?_;refine cQ ?_;refine eO 18 [12] [_] [_] (List.Perm.swap _ _ _) λT=>?_;refine cQ ?_;refine cN rfl (eZ 0 0 (n:=Z d)) ?_;refine cQ ?_;refine cN rfl (eZ 0 0 (n:=vS ge n.length q)) ?_;refine cQ ?_;refine cN rfl (qN 0 1 (b:=jz (P,x,G)) (hv:=Pe k)) ?_;refine eh rfl (ft ((cz (lH d l t u))) [_] func256 (c8 1 rfl) (λc B D=>Cs ⟨l,t,u,rfl,y⟩ D (by rw[F3];have:=p.2.2;have:=p.2.2;dsimp only at this;omega))) ?_;rintro _ _ w3 ⟨_,rfl,W,n3,rfl,rfl⟩;refine⟨_,de [2] _ rfl,?_⟩;refine N [6,7] ?_;refine cQ ?_;refine I (cU (z:=.string a) (yd rfl underlying74 underlying5 underlying9 (λc B=>Rd.dM B (l:=1) rfl)) (by rw[akb])) ?_;refine N [4,5] ?_;refine cK [2,0] ?_;refine dG (d:=[]) [_,_] ?_;refine dP results207 ?_;exact⟨rfl,rfl⟩
def ahu (k:fQ d e g h b f)(i:(id,a)∈b)(h0:Hl c f):Sr 160 [Z e,F id] c f λo m=>o=PF [.string a,F 0]/\m=[f]:=by refine dR func160 h0 ?_;refine Pw 0 func207 (λc n j=>Sy k i j) ?_;rintro _ _ l ⟨rfl,rfl⟩;refine db results160 ?_;exact⟨rfl,rfl⟩
end
def Rd.aiA {q v:O}{i:Nat->Prop}{r a:C V}{h:V}{f t:Nat}{u:M}{g:C M}(m:cI q i r v)(n:r.Perm (h::a))(e:Proofs.YtdlpoonfcdoiiaaGreat.xi u f t g∈a):Rd v h.fq f u t g:=by
 have b:=m.2.perm n;have d:=(b.mem _ (dN _ e)).1;obtain⟨j,s,z,w,A,fr,rfl,l,c,k⟩:=d;refine⟨_,_,rfl,j,l,.inr ⟨s,0,rfl,λp=>?_,(mS.1 c).1,λx y o=>?_⟩⟩
 .exact(Hs.append (m:=[h]).1 b).2.2 h (dQ ..) _ e s p (by simp[Proofs.YtdlpoonfcdoiiaaGreat.xi,Value.ownBlock])
 .simp[World.cell?,c,k x y o]
def Yj (a:O):(Instr.build 342 [].toArray).run prog a=.ok (PE [F 0,F 0,F 0,F 0]) a:=by kernel_rfl
def Yi (a b c d:Int)(e:O):(Instr.build 342 [(0,PE [F a,F b,F c]),(1,F d)].toArray).run prog e=.ok (PE [F a,F b,F c,F d]) e:=by kernel_rfl
def ads (b:pH)(a:U):∃(d:Int)(e:Bool),Value.tuple [((ed b a).map (Value.int .i64)).getD (F 0),.bool (ed b a).isSome].toArray=PF [F d,.bool e]/\(e=true->ed b a=some d)/\(e=false->ed b a=none):=by
 cases c:ed b a with
 |none=>exact⟨0,false,rfl,λc=>(by cases c),λ_=>rfl⟩
 |some d=>exact⟨d,true,rfl,λ_=>rfl,λc=>(by cases c)⟩
def abh {a:C (Nat×Nat)}{c:Nat}{g:Nat×Nat}(h:a[ff a c]? =some g):c<=g.1:=by obtain⟨f,e⟩:=da.1 h;have d:=CW (p:=λi:Nat×Nat=>decide (c<=i.1)) (xs:=a) (w:=f);have b:decide (c<=(a[ff a c]).1)=true:=d;rw[e]at b;simpa using b
def U1 (b:jX)(c:Nat)(a:U):mN b c a<=b.length:=I7
section
variable{e:MC}{i:jO}{h:jX}{f d id j nb:Nat}{a:U}{g:O}{k:V}{b:C (Hd×Nat)}{c:pH}{ev:M}
def ahF (o:1<=b.length)(q:b.length<=10000)(h0:Hl g (cz (mI d f j ev b nb c))):Sr 205 [Z d] g (cz (mI d f j ev b nb c)) λQ S=>
 ∃(n:Nat)(t:C (Hd×Nat))(D:M),Q=F n/\S=[cz (mI d f j D t nb c)]/\1<=n/\(∃y,t[n]? =some (y,0))/\(t=b\/(t=b++[((0,0,0),0)]/\∀(l:Nat)(o:Hd)(g:Nat),1<=l->b[l]? =some (o,g)->g≠0)):=by
 obtain⟨ge,u,H⟩:=pD ((In.here (w0:=g) (F0:=(cz (mI d f j ev b nb c)).fq) (H:=[cz (mI d f j ev b nb c)]) (i:=0) rfl).cz (j:=1) rfl g h0)
 subst H
 refine dS func205 h0 ?_
 refine K4 [0,3] ?_
 refine dB (λX m S x=>∃l:Nat,m=[(0,Z d),(3,F l)]/\S=[cz (mI d f j (vS ge b.length u) b nb c)]/\X+l=b.length/\1<=l/\∀(n:Nat)(o:Hd)(g:Nat),1<=n->n<l->b[n]? =some (o,g)->g≠0) (b.length-1) ⟨1,rfl,rfl,by omega,by omega,λn o g q w=>absurd q (by omega)⟩ ?_
 rintro X _ _ w1 ⟨l,rfl,rfl,hq,K,s⟩
 refine NX 0 0 (v:=vS ge b.length u) ?_
 refine cZ (λE=>?_) λE=>?_
 .have L:l<b.length:=by omega
  obtain⟨⟨W,Q⟩,B⟩:∃p,b[l]? =some p:=⟨_,dr L⟩;refine NX 0 0 (v:=vS ge b.length u) ?_;refine cQ ?_;refine I (sO 0 1 (n:=F Q) (hv:=DO (e:=3) B rfl)) ?_;refine cZ (λG=>?_) λG=>?_
  .obtain rfl:Q=0:=by omega
   refine db results205 ?_;exact⟨l,b,_,rfl,rfl,K,⟨W,B⟩,.inl rfl⟩
  .refine N [0,3] ?_;refine⟨X-1,by omega,l+1,rfl,rfl,by omega,by omega,λn o x q w r=>?_⟩;by_cases p:n=l
   .subst p;rw[B]at r;injection r with r;injection r with _ r;omega
   .exact s n o x q (by omega) r
 .obtain rfl:l=b.length:=by omega
  refine eu (mI d f j _ b nb c) ?_;refine dI ?_;refine eL ?_;refine I (dH 0 (n:=vS ge b.length u)) ?_;refine I (ee Yj) ?_;refine gZ MG λT P=>?_;refine dw (jo 2 MG) ?_;rintro v6 _ w6 ⟨⟨z,A,rfl⟩,rfl⟩;refine KW 1 (G:=[Z f,F j,.slice z (b.length+1) A,.map (some nb)]) λR=>?_;refine cH [0] ?_;refine df ?_;refine I (dH 1 (n:=.slice z (b.length+1) A)) ?_;refine Y ?_;refine I (cU (z:=F b.length) (Px rfl rfl) (by congr 1;omega)) ?_;refine N [2] ?_;refine cK [1,1,1] ?_;refine dG (d:=[]) [_,_,_] ?_;refine dP results205 ?_;refine⟨b.length,b++[((0,0,0),0)],.slice z (b.length+1) A,rfl,?_,o,⟨(0,0,0),by rw[nm (dT _),nK];rfl⟩,.inr ⟨rfl,λl o x q w=>?_⟩⟩
  .unfold mI;rw[j9,cX];rfl
  .exact s l o x q (da.1 w).1 w
def Sv (hr:fQ f d e i h k)(h0:Hl g k)(p:1<=a.size)(G:a.size<=e.lr)(o:h.length<e.gW):Sr 158 [Z d,.string a] g k λaf H=>
 ∃(l:Nat)(r':V),af=PF [F l,F 0]/\H=[r']/\fQ f d e i ((l,a)::h) r':=by
 obtain⟨A,ad,ae,ev,b,nb,c,rfl,n⟩:=hr
 have aH:=n.el
 have ar:=n.e1
 have aI:=n.kc
 have aJ:=n.km
 have aK:=n.mi.po.len
 obtain⟨ge,ce,E⟩:=pD (((In.here (w0:=g) (F0:=(cz (pZ f d e.gW A ad ae ev b nb c)).fq) (H:=[cz (pZ f d e.gW A ad ae ev b nb c)]) (i:=0) rfl).cz (j:=1) (r:=cz (mI d f e.gW ev b nb c)) rfl).cz (j:=1) rfl g h0)
 subst E
 obtain⟨z,aC,av,ao,ap⟩:=ads c a
 have au:a≠ByteArray.empty:=λR=>by rw[R]at p;exact absurd p (by decide)
 have P:ff e.K a.size<e.K.length:=n.ok.key _ G
 refine dR func158 h0 ?_
 refine eu (pZ f d e.gW A ad ae _ b nb c) ?_
 refine cK [1,0] ?_
 refine eu (mI d f e.gW _ b nb c) ?_
 refine N [0,1] ?_
 refine N [0,1,12] ?_
 refine cL ?_
 refine I (cU (oO rfl rfl) (z:=.bool false) (dq Value.bool (fL au))) ?_
 refine N [0,1,15] ?_
 refine N [0,1,18] ?_
 refine fh ?_
 refine Y ?_
 refine I (cU (KB 2 LO vp rfl rfl rfl) av) ?_
 refine N [0,1,6,7] ?_
 refine N [0,1,6,31] ?_
 refine kL rfl (λD=>?_) (λD=>?_)
 .have Q:=ao D;obtain⟨l,hd,rfl,W,L,hu⟩:=n.mi.po.num _ _ Q;have X:=(da.1 L).1;have aL:=U1 h l a;generalize mN h l a=af at*;refine fh ?_;refine I (gj 1 (n:=F af) (hv:=DO (e:=3) L rfl)) ?_;refine I (cU (z:=F ((af+1:Nat):Int)) (kH rfl rfl) (by rw[gR];rfl)) ?_;refine cC ?_;refine iQ (fK 1 (q:=[_]) (y:=(b.set l (hd,af+1)).flatMap o9) (hl:=by rw[Kj];show 0+l*4+3+1<=_;omega) (ae:=Pd (d:=3) L (by omega) rfl)) ?_;rintro _ _ aB rfl;refine cH [6] ?_;refine N [4,5] ?_;refine dG [_,_,_] ?_;refine cK [1,0] ?_;refine dG (d:=[]) [_,_] ?_;refine dP results158 ?_;refine⟨l,_,rfl,rfl,A,ad,ae,vS ge b.length ce,b.set l (hd,af+1),nb,c,?_,n.more Q L o⟩;unfold pZ mI;rw[fy]
 .have Q:=ap (by simpa using D);refine cQ ?_;refine eO 10 [] [_,_,_,_] [] (ik _) λaD=>?_;refine cL ?_;refine cN rfl (PR 2 underlying173 rfl rfl) ?_;refine N [0,1,53] ?_;refine fh ?_;refine Pw 3 func157 (λg w t=>NO a.size p P (λs m hm=>n.mi.aiz n.ok ⟨p,G⟩ o hm) ⟨A,ad,ae,rfl,n.mi.ai⟩ t) ?_;rintro _ _ w2 ⟨x,y,r1,rfl,rfl,aw⟩;refine NV [F 0,F 0,F 0] λah ay=>?_;refine cO 0 (u:=[_,_,_]) λaz=>?_;refine N [0,1,8,9] ?_;refine N [0,1,8,9,65] ?_;refine cL ?_;refine eO 9 [6,7] [_,_] [_,_,_] (de [0,1] _ rfl) λaE=>?_;refine cL ?_;refine cN rfl (di 0 (b:=jz (ff e.K a.size,x,y))) ?_;refine Y ?_;refine eh rfl (aal rfl underlying9 underlying74 underlying5) ?_;rintro _ _ w3 ⟨⟨g6,c6,rfl⟩,rfl⟩;refine⟨_,eg.symm,?_⟩;refine eh rfl (ft (r1) [_,_,_,_,_] func204 (c8 3 rfl) (λg w t=>ats _ _ (vb a) (F3 a).symm aw t (Rd.aiA w (c8 3 rfl) (.tail _ (.tail _ (.head _)))) (λq hq=>by rw[F3];exact abh hq) (by rw[F3];omega))) ?_;rintro _ _ w4 ⟨_,rfl,r2,rfl,rfl,ax⟩;refine⟨_,de [1,1] _ rfl,?_⟩;refine N [0,1,8,10] ?_;refine N [0,1,8,10,76] ?_;refine cQ ?_;refine cK [1,3,3,0,0] ?_;refine dG (mI d f e.gW _ b nb c) ?_;refine cC ?_;refine cY (_) [_,_] func205 (cD _) (λg w t=>ahF ar (by omega) t) ?_;rintro _ _ w5 ⟨l,u,aG,rfl,rfl,W,⟨aq,T⟩,S⟩;have an:jY e i h ad ae u c:=by
   rcases S with rfl|⟨rfl,B⟩
   .exact n
   .exact n.grow _ o B
  have ab:use i u c=use i b c:=by
   rcases S with rfl|⟨rfl,B⟩
   .rfl
   .exact n.mi.asQ _
  have X:=(da.1 T).1;refine kq λw=>?_;obtain⟨al,aj,E⟩:=pD (((In.here (i:=0) rfl).cz (j:=1) rfl) w5 w);subst E;clear w;refine N [0,1,8,11] ?_;refine Y ?_;refine eu (mI d f e.gW _ u nb c) ?_;refine eO 9 [8] [_,_] [_,_,_] (de [0,2] _ rfl) λaF=>?_;refine df ?_;refine cN rfl (di 1 (b:=jz (ff e.K a.size,x,y))) ?_;refine cN rfl (ee (Yi _ _ _ _)) ?_;refine Y ?_;refine jW rfl (fK 2 (q:=[_,_,_,_]) (y:=(u.set l ((ff e.K a.size,x,y),1)).flatMap o9) (hl:=by rw[Kj];show 0+l*4+4<=_;omega) (ae:=by rw[dU];exact Qj DN ((ff e.K a.size,x,y),1) X)) ?_;rintro _ _ aA rfl;refine⟨_,cD _,?_⟩;refine iK [0,1,11] ?_;refine iq ?_;refine iQ (DI 3 LO vp rfl rfl rfl rfl) ?_;rintro _ _ w6 rfl;refine cH [11] ?_;refine N [4,5] ?_;refine cK [0,1,1,1] ?_;refine dG [_,_,_] ?_;refine cK [1,0] ?_;refine dG (d:=[]) [_,_] ?_;refine dP results158 ?_;obtain⟨ak,D2,F2,rfl,am⟩:=ax;refine⟨l,_,rfl,rfl,ak,D2,F2,vS al u.length aj,u.set l ((ff e.K a.size,x,y),1),nb,nM c a (l:Int),?_,an.add Q W ⟨aq,T⟩ o ⟨p,G⟩ rfl (by rw[ab];exact am)⟩;unfold pZ mI;rw[fy]
def L5 (S:fQ f d e i ((id,a)::h) k)(h0:Hl g k):Sr 161 [Z d,F id] g k λs H=>
 ∃P:V,s=F 0/\H=[P]/\fQ f d e i h P:=by
 have T:=S
 have E:=h0
 obtain⟨o,y,z,ev,b,nb,c,rfl,m⟩:=S
 have af:=m.el
 have ah:=m.kc
 obtain⟨Q,s,l,q,aj,t,w⟩:=m.mi.po.mem (dQ ..)
 have l:b[id]? =some (Q,s):=l
 have t:1<=id:=t
 have w:ed c a=some (id:Int):=w
 have q:s=mN ((id,a)::h) id a:=q
 have u:=(da.1 l).1
 have X:=U1 ((id,a)::h) id a
 have ai:=m.mi.gW
 rw[<-q]at X
 obtain⟨n,x,A⟩:=Q
 have K:=m.mi.key w l
 obtain⟨ge,B,R⟩:=pD (((In.here (w0:=g) (F0:=(cz (pZ f d e.gW o y z ev b nb c)).fq) (H:=[cz (pZ f d e.gW o y z ev b nb c)]) (i:=0) rfl).cz (j:=1) (r:=cz (mI d f e.gW ev b nb c)) rfl).cz (j:=1) rfl g h0)
 subst R
 refine dR func161 E ?_
 refine cB ?_
 refine dw (nu (_) [] rfl func207 (by kernel_rfl) (cD _) (λg hh p=>Sy T (dQ ..) p)) ?_
 rintro _ _ ad ⟨_,rfl,rfl,rfl⟩
 refine N [0,1,5,6] ?_
 refine N [0,1,5,15] ?_
 refine cQ ?_
 refine eu (pZ f d e.gW o y z _ b nb c) ?_
 refine cK [1,0] ?_
 refine eu (mI d f e.gW _ b nb c) ?_
 refine cB ?_
 refine I (DU (k:=F s) 1 rfl underlying3 rfl rfl (DO (e:=3) l rfl)) ?_
 refine I (cU (z:=F ((s-1:Nat):Int)) (Px rfl rfl) (by congr 1;omega)) ?_
 refine cC ?_
 refine iQ (Ki 1 (v:=[_]) (x:=(b.set id ((n,x,A),s-1)).flatMap o9) rfl rfl rfl rfl (by kernel_rfl) (by simp[Value.oneCell']) (by rw[Kj];show 0+id*4+3+1<=_;omega) (Pd (d:=3) l (by omega) rfl)) ?_
 rintro _ _ ae rfl
 refine cB ?_
 refine I (DU (k:=F ((s-1:Nat):Int)) 1 rfl underlying3 rfl rfl (DO (e:=3) (gm u) rfl)) ?_
 refine cZ (λL=>?_) λL=>?_
 .have hu:s≠1:=by omega
  refine N [4] ?_;refine dG [_,_,_] ?_;refine cK [1,0] ?_;refine dG (d:=[]) [_,_] ?_;refine dP results161 ?_;refine⟨_,rfl,rfl,o,y,z,vS ge b.length B,_,nb,c,?_,m.less l hu⟩;unfold pZ mI;rw[fy]
 .obtain rfl:s=1:=by omega
  refine iq ?_;refine iQ (Gi 2 LO vp rfl rfl rfl) ?_;rintro _ _ w8 rfl;refine cH [0,7] ?_;refine Y ?_;refine eO 10 [8] [_,_] [_,_] (cD _) λak=>?_;refine fw ?_;refine cN rfl (Gu (D:=jz (n,x,A)) 1 rfl underlying280 rfl (by kernel_rfl) rfl (Pe (gm u))) ?_;refine eh rfl (nu ((cz (lH f o y z))) [_,_,_] rfl func159 (by kernel_rfl) (c8 3 rfl) (λg hh p=>free_spec ⟨o,y,z,rfl,K⟩ p)) ?_;rintro _ _ w9 ⟨_,rfl,r9,rfl,rfl,W⟩;refine⟨_,de [1,1] _ rfl,?_⟩;refine N [4] ?_;refine cK [0,0,1,0] ?_;refine dG [_,_,_] ?_;refine cK [1,0] ?_;refine dG (d:=[]) [_,_] ?_;refine dP results161 ?_;obtain⟨D,ab,F2,rfl,G⟩:=W;refine⟨_,rfl,rfl,D,ab,F2,vS ge b.length B,_,nb,ig c a,?_,m.last l G⟩;unfold pZ mI;rw[fy]
end
def oK (a:Nat×Nat):C M:=[F a.1,F a.2]
def lI (a:C (Nat×Nat)):C M:=a.flatMap oK
def JU (a:Nat×Nat):(oK a).length=2:=rfl
structure tC (b:C (Nat×Nat)):Prop where
 len:1<=b.length/\b.length<=8
 kI:∀a∈b,1<=a.1/\a.1<=4096/\a.2<=65536
 od:∀(c:Nat)(a d:Nat×Nat),b[c]? =some a->b[c+1]? =some d->a.1<d.1
def tT {d:C (Nat×Nat)}{i:O}{e g f:Nat}{h:Nat×Nat}(d1:∀(a:Nat)(b:M),(lI d)[a]? =some b->i.cell? ⟨e,g+a,.none⟩=some b)(j:d[f]? =some h)(a:Nat)(b:M)(c:(oK h)[a]? =some b):i.cell? ⟨e,g+f*2+a,.none⟩=some b:=by rw[ma];exact d1 _ _ (qC JU j c)
def NA (a:C (Nat×Nat))(A:M)(B:O)(i:tC a)(o:Rd B cW 2 A a.length (lI a)):Sn 73 [A] B λL k=>L=F 0/\k=[]:=by
 have H:=i.len;obtain⟨x,e,rfl,-⟩:=id o;refine dS func73 hS ?_;refine K4 [0,13,14,15] ?_;refine dB (λt s k u=>∃d:Nat,s=[(0,.slice x a.length e),(13,.slice x a.length e),(14,F a.length),(15,F d)]/\k=[]/\t+d=a.length) a.length ⟨0,rfl,rfl,rfl⟩ ?_;rintro t _ _ Q ⟨d,rfl,rfl,K⟩;refine cZ (λm=>?_) λm=>?_
 .have n:d<a.length:=by omega
  obtain⟨c,j⟩:∃c,a[d]? =some c:=⟨_,dr n⟩;obtain⟨D,E,G⟩:=i.kI c (eH j);obtain⟨l,p,rfl,y,d1⟩:=o.at_ n;refine fw ?_;refine I (kY (b:=oK c) (hc:=tT d1 j)) ?_;refine dj [F 0,F 0] λh v=>?_;refine KW 0 (t:=[_,_]) (G:=[F c.1,F c.2]) λw=>?_;refine cH [0,3,4,13,14,15] ?_;refine N [0,3,4,13,14,15,37] ?_;refine cQ ?_;refine eS (λs k u=>s=[(0,.slice (some ⟨l,p,.none⟩) a.length e),(13,.slice (some ⟨l,p,.none⟩) a.length e),(14,F a.length),(15,F d),(50,.bool false)]/\k=[cF h [F c.1,F c.2] 68]) ?_ ?_
  .by_cases f:(0:Int)<(d:Int)
   .obtain⟨b,rfl⟩:∃b,d=b+1:=⟨d-1,by omega⟩;obtain⟨q,g⟩:∃c,a[b]? =some c:=⟨_,dr (by omega)⟩;have z:=i.od b q c g j;refine eO 13 [] [_] [] (ik _) λr=>?_;refine Y ?_;refine cN rfl (gA rfl rfl) ?_;refine cN rfl (cU (rh rfl) (dq Value.bool (gb f))) ?_;refine df ?_;refine fX rfl rfl rfl (cR (ab:=b) (hi:=by omega)) ?_;refine Y ?_;refine fX rfl rfl rfl (jd (n:=F q.1) (hc:=tT d1 g 0 _ rfl)) ?_;refine fX rfl rfl rfl (FZ rfl rfl (by omega)) ?_;refine N [0,13,14,15,50] ?_;exact⟨rfl,rfl⟩
   .refine eO 13 [] [_] [] (ik _) λr=>?_;refine Y ?_;refine cN rfl (gA rfl rfl) ?_;refine cN rfl (cU (rh rfl) (dq Value.bool (fL f))) ?_;refine N [0,13,14,15,50] ?_;exact⟨rfl,rfl⟩
  rintro _ _ R ⟨rfl,rfl⟩;refine cC ?_;refine cK [] ?_;refine N [0,13,14,15] ?_;exact⟨t-1,by omega,d+1,rfl,rfl,by omega⟩
 .refine dI ?_;refine N [2] ?_;refine gT results73 ?_;exact⟨rfl,rfl⟩
def sx (b:C (Nat×Nat)):C Cl:=b.map λa=>⟨a.1,a.2,[],vN,0⟩
def sy (a:Nat):C Int:=List.replicate a (-1)++List.replicate (8-a) 0
def LP {a:Nat}(b:a<=8):(sy a).length=8:=by simp[sy];omega
def adX {a:Nat}(d:a<8):(sy a).set a (-1)=sy (a+1):=by unfold sy;rw[C4 _ _ (by simp),o3,nK,AY,dJ];congr 1;obtain⟨c,b⟩:∃c,8-a=c+1:=⟨8-a-1,by omega⟩;rw[b,show 8-(a+1)=c by omega];rfl
def AI.new {h:C (Nat×Nat)}(i:tC h):AI h (sx h) (sy h.length) []:=by
 have k:=i.len;have c:∀(g:Nat)(d:Cl),(sx h)[g]? =some d->d.sl=[]/\d.live=0/\g<h.length:=λg d a=>by unfold sx at a;rw[eK]at a;obtain⟨p,f,rfl⟩:=nq.1 a;exact⟨rfl,rfl,(da.1 f).1⟩
 refine⟨?_,k.2,LP k.2,λp f=>?_,λg d r a e=>?_,⟨List.Pairwise.nil,λg u v q=>?_⟩⟩
 .unfold sx;rw[jj];exact(k5 λp _=>rfl).trans (wc _)
 .have:=(i.kI p f).2.2;omega
 .obtain⟨b,n,o⟩:=c g d a;have j:r= -1:=by unfold sy at e;rw[nk (by simpa using o)]at e;exact uJ (eH e)
  refine⟨by rw[b];exact gK _,by rw[b,n];rfl,[],j,λu t m=>?_⟩;rw[b]at m;simp at m
 .constructor
  .intro s;cases s
  .rintro⟨t,b,_⟩;unfold kV at b;obtain⟨d,a,l⟩:=Option.bind_eq_some_iff.1 b;rw[(c g d a).1]at l;simp at l
def XK (a:O):(Instr.build 168 [].toArray).run prog a=.ok (PE [vN,F 0,F 0,F 0,F 0,F 0,F 0,F 0,F 0,F 0]) a:=by kernel_rfl
def XS (a b:Int)(c:O):(Instr.build 171 [(0,PE [F a,F b])].toArray).run prog c=.ok (PE [F a,F b,vN,F 0]) c:=by kernel_rfl
def W1 (b:C (Nat×Nat))(G:M)(o:O)(h:tC b)(j:Rd o cW 2 G b.length (lI b)):Sn 44 [G] o λX q=>∃B E,X=PF [Z B,F 0]/\q=[E]/\xu B b [] E:=by
 have R:=h.len;obtain⟨p,t,rfl,-⟩:=id j;refine dS func44 hS ?_;refine Ku func73 (λo i=>NA b _ o h (j.dx i)) ?_;rintro _ _ v ⟨rfl,rfl⟩;refine cB ?_;refine I (ee XK) ?_;refine dK (l:=pR vN (sy 0)) λc w=>?_;refine N [0,5] ?_;refine N [5,15,16,17] ?_;refine Y ?_;refine gh 171 4 ?_;refine sL ?_;refine cK [2,1,0] ?_;refine dB (λu T q w'=>∃(a:Nat)(d:M),T=[(5,Z c),(15,.slice p b.length t),(16,F b.length),(17,F a)]/\q=[cF c (pR d (sy a)) 168,row d 171 4 a ((sx (b.take a)).flatMap m4),cz ((sx (b.take a)).map o8)]/\u+a=b.length/\∃p L,d=.slice p a L) b.length ⟨0,_,rfl,rfl,rfl,_,_,rfl⟩ ?_;rintro u _ _ w1 ⟨a,_,rfl,rfl,S,k,d,rfl⟩;refine cZ (λl=>?_) λl=>?_
 .have m:a<b.length:=by omega
  obtain⟨e,n⟩:∃e,b[a]? =some e:=⟨_,dr m⟩;obtain⟨K,W,rfl,D,d1⟩:=j.at_ m;refine fw ?_;refine I (kY (b:=oK e) (hc:=tT d1 n)) ?_;refine dj [F 0,F 0] λr x=>?_;refine KW 0 (t:=[_,_]) (G:=[F e.1,F e.2]) λy=>?_;refine cH [5,6,7,15,16,17] ?_;refine Y ?_;refine mm 12 [7,8,11] [(_,some 11),(_,none)] [_,_] (de [1,0] _ rfl) λH=>?_;refine cL ?_;refine ew rfl (dH 0 (n:=.slice k a d)) ?_;refine ew rfl (di 1 (b:=[F e.1,F e.2])) ?_;refine ew rfl (ee (XS _ _)) ?_;refine gY rfl (qi Ug) ?_;rintro _ _ z ⟨s,rfl,rfl⟩;refine⟨_,eg.symm,?_⟩;refine gY rfl (jo 3 Ug (hr:=λo i=>Rd.dM i (l:=2) rfl)) ?_;rintro v8 _ w8 ⟨⟨f,g,rfl⟩,rfl⟩;refine⟨_,cD _,?_⟩;refine cC ?_;refine jC rfl (gD 0 (q:=[_]) (y:=pR (.slice f (a+1) g) (sy a))) ?_;rintro _ _ w9 rfl;refine⟨_,de [1] _ rfl,?_⟩;refine KW 1 (t:=[_]) (G:=pR (.slice f (a+1) g) ((sy a).set a (-1))) (hl:=by rw[FX,LP (by omega)];exact Bb (by show 0+1+a*1+1<=_;omega)) (ah:=JH (by rw[LP (by omega)];omega)) λA=>?_;refine cH [5,15,16,17] ?_;refine cK [1,2,2] ?_;refine sL ?_;refine gh 339 4 ?_;refine dG [_,_] ?_;refine cK [3,0,0,0] ?_;refine Al ?_;refine cK [1,1,0] ?_;refine N [5,15,16,17] ?_;refine⟨u-1,by omega,a+1,.slice f (a+1) g,rfl,?_,by omega,_,_,rfl⟩;have Q:sx (b.take (a+1))=sx (b.take a)++[⟨e.1,e.2,[],vN,0⟩]:=by unfold sx;rw[ia,n,dE];rfl
  rw[Q,j9,dE,adX (by omega)];rfl
 .obtain rfl:a=b.length:=by omega
  refine dI ?_;refine N [2,3] ?_;refine dG (d:=[]) [_,_,_] ?_;refine dP results44 ?_;refine⟨c,_,rfl,rfl,.slice k b.length d,sx b,sy b.length,?_,AI.new h⟩;rw[j6];unfold lH;rw[show(sx b).length=b.length by simp[sx]]
section
variable{d:MC}{a:jO}{c:jX}{e f:Nat}{b:Hd}{h:O}{g:V}
def LC (m:Nat)(j:m<3)(l:gz a m<d.cap m)(w:fQ e f d a c g)(h0:Hl h g):Sr 157 [Z e,F (d.sz m:Int)] h g λA y=>∃b n,A=PF [zG b,F 0]/\y=[n]/\fQ e f d ((m,b)::a) c n:=by obtain⟨r,B,D,ev,x,nb,z,rfl,i⟩:=w;obtain⟨s,t⟩:=i.ok.one m j;refine(fz.QO (b:=[cz (mI f e d.gW ev x nb z)]) h0 λk=>NO (d.sz m) s t (λK H v=>i.mi.room i.ok j l v) ⟨r,B,D,rfl,i.mi.ai⟩ k).mono ?_;rintro A y ⟨E,⟨L,G,n,rfl,rfl,o,p,q,rfl,u⟩,rfl⟩;exact⟨_,_,rfl,rfl,o,p,q,ev,x,nb,z,rfl,i.alloc j l rfl u⟩
def Hh {z:Nat}(s:fQ e f d ((z,b)::a) c g)(h0:Hl h g):Sr 159 [Z e,zG b] h g λu t=>∃j,u=F 0/\t=[j]/\fQ e f d a c j:=by obtain⟨q,v,w,ev,n,nb,p,rfl,l⟩:=s;obtain⟨A,B,y⟩:=b;refine(fz.QO (b:=[cz (mI f e d.gW ev n nb p)]) h0 λi=>free_spec (m:=use a n p) ⟨q,v,w,rfl,l.mi.ai⟩ i).mono ?_;rintro u t ⟨x,⟨j,rfl,rfl,k,m,o,rfl,r⟩,rfl⟩;exact⟨_,rfl,rfl,k,m,o,ev,n,nb,p,rfl,l.free r⟩
def fQ.perm {j:jO}{k:jX}(i:fQ e f d a c g)(m:a.Perm j)(n:c.Perm k):fQ e f d j k g:=by obtain⟨l,p,r,ev,q,nb,s,rfl,o⟩:=i;exact⟨l,p,r,ev,q,nb,s,rfl,o.perm m n⟩
end
def Ym (f:Int)(a:cG Addr)(b:cG Addr)(e d c:Nat)(g:O):(Instr.build 175 [(0,.pointer a),(1,F f),(2,.slice b e d),(3,.map (some c))].toArray).run prog g=.ok (PE [.pointer a,F f,.slice b e d,.map (some c)]) g:=by kernel_rfl
def ahI (g a:Nat)(m:1<=a)(h:a<=8192)(o:O):Sn 45 [Z g,F a] o λn j=>∃i ev nb,n=PF [Z i,F 0]/\j=[cz (mI i g a ev [((0,0,0),0)] nb [])]:=by refine dR func45 hS ?_;refine cB ?_;refine dw (qy (y:=1) (B:=o9 ((0,0,0),0)) rfl rfl MG (by omega) (by omega) (by kernel_rfl)) ?_;rintro _ _ e ⟨b,rfl,rfl⟩;refine dw (DJ (g:=.string) (a:=Value.string) (d:=Value.int .i64)) ?_;rintro _ _ p ⟨k,rfl,rfl⟩;refine I (ee (Ym _ _ _ _ _ _)) ?_;refine dK λc f=>?_;refine N [4,5] ?_;refine cK [0,1,0] ?_;refine dG (d:=[]) [_,_,_] ?_;refine dP results45 ?_;exact⟨_,_,_,rfl,rfl⟩
structure PQ where
 eP:Nat
 time:Nat
 weight:Nat
 hd:Hd
 id:Nat
 key:U
def lB (a:PQ):C M:=F a.eP::F a.time::J a.weight::(jz a.hd++[F a.id])
def CL (a:PQ):(lB a).length=7:=rfl
def PQ.ev (a:PQ):Ev:=(a.eP,a.key,a.weight)
def nA (a:C PQ):jO:=a.map λb=>(2,b.hd)
def pw (b:C PQ):jX:=b.map λa=>(a.id,a.key)
def tt (g d f:Nat)(b:M)(c:C PQ)(a:C M)(e:Nat):C V:=[cF g [Z d,Z f,b,F c.length] 240,row b 286 7 e (c.flatMap lB++a)]
def vT (g e f b:Nat)(c:C PQ)(h:V):Prop:=∃d a,h=cz (tt g e f d c a b)/\a.length=(b-c.length)*7/\c.length<=b/\1<=b/\b<=64
def zS (a:C PQ):(a.flatMap lB).length=a.length*7:=zB CL a
def ahX {d:C PQ}{a:C M}{e f:Nat}{h:PQ}{g:M}(i:d[e]? =some h)(c:(lB h)[f]? =some g):(d.flatMap lB++a)[0+e*7+f]? =some g:=by have b:=qC CL i c;rw[dU,nk (da.1 b).1];exact b
def akA:fB prog 238 286 7 56 (.agg #[F 0,F 0,J 0,F 0,F 0,F 0,F 0]):=.mk' underlying238 (by kernel_rfl) rfl (by decide)
def Yn (a b:cG Addr)(c:cG Addr)(e d:Nat)(f:O):(Instr.build 240 [(0,.pointer a),(1,.pointer b),(2,.slice c e d)].toArray).run prog f=.ok (PE [.pointer a,.pointer b,.slice c e d,F 0]) f:=by kernel_rfl
def ahT (h i b:Nat)(e:1<=b)(a:b<=64)(o:O):Sn 75 [Z h,Z i,F b] o λn m=>∃j k,n=PF [Z j,F 0]/\m=[k]/\vT j h i b [] k:=by refine hJ func75 hS ?_;refine cB ?_;refine dw (qy (y:=b) rfl rfl akA (by omega) (by omega) rfl) ?_;rintro _ _ f ⟨c,rfl,rfl⟩;refine I (ee (Yn _ _ _ _ _)) ?_;refine dK λd g=>?_;refine N [6,7] ?_;refine dG (d:=[]) [_,_] ?_;refine dP results75 ?_;refine⟨_,_,rfl,rfl,_,_,rfl,?_,gK _,e,a⟩;rw[tF,size_madeCells];rfl
def ahS {e h o n:Nat}{d:C PQ}{a:V}{f:O}(b:vT e h o n d a)(h0:Hl f a):Sr 123 [Z e] f a λp g=>p=F d.length/\g=[a]:=by obtain⟨m,c,rfl,i,j,k,l⟩:=b;refine dS func123 h0 ?_;refine NX 0 0 ?_;refine db results123 ?_;exact⟨rfl,rfl⟩
def MU {e:Nat}:∀{c:C Ev},(∀a∈c,e<a.1)->kK e c=0
 |[],_=>rfl
 |a::c,d=>by rw[kK,MU λf b=>d f (dN _ b),cM rfl,cJ];have:=d a (dQ ..);omega
def UX {k:Nat}:∀{h:C Ev}{g:Nat}{i:Ev},h[g]? =some i->i.1<=k->(∀(e:Nat)(j:Ev),g<e->h[e]? =some j->k<j.1)->kK k h=g+1
 |[],_,_,a,_,_=>by simp at a
 |j::h,0,i,a,b,c=>by injection a with a;subst a;rw[kK,MU λl d=>?_,cM rfl,cM b];obtain⟨e,f⟩:=ka.1 d;exact c (e+1) l (by omega) f
 |j::h,g+1,i,a,b,c=>by rw[kK,UX (g:=g) a b λe l f d=>c (e+1) l (by omega) d,cJ (by omega)]
def ah0 {m w x l:Nat}{e:C PQ}{y:V}{z:O}(t:Nat)(D:vT m w x l e y)(h0:Hl z y):Sr 132 [Z m,F t] z y λT A=>T=F (kK t (e.map PQ.ev):Int)/\A=[y]:=by
 obtain⟨s,c,rfl,H,K,L,Q⟩:=D;obtain⟨G,E,r⟩:=pD ((In.here (w0:=z) (F0:=(cz (tt m w x s e c l)).fq) (H:=[cz (tt m w x s e c l)]) (i:=0) rfl).cz (j:=1) rfl z h0);subst r;refine dR func132 h0 ?_;refine NX 0 0 (v:=F e.length) ?_;refine K4 [0,1,5] ?_;refine dB (λd S A W=>S=[(0,Z m),(1,F t),(5,F ((d:Int)-1))]/\A=[cz (tt m w x (vS G l E) e c l)]/\d<=e.length/\∀(g:Nat)(k:PQ),d<=g->e[g]? =some k->t<k.eP) e.length ⟨rfl,rfl,dT _,λg k j f=>absurd (da.1 f).1 (by omega)⟩ ?_;rintro d _ _ X ⟨rfl,rfl,R,b⟩;refine cZ (λn=>?_) λn=>?_
 .have p:d-1<e.length:=by omega
  obtain⟨k,f⟩:∃k,e[d-1]? =some k:=⟨_,dr p⟩;refine NX 0 0 (v:=vS G l E) ?_;refine Y ?_;refine I (cR (ab:=d-1) (hi:=by omega)) ?_;refine Y ?_;refine I (sO 0 1 (n:=F k.eP) (hv:=ahX (f:=0) f rfl)) ?_;refine cZ (λo=>?_) λo=>?_
  .have q:k.eP<=t:=by omega
   refine db results132 ?_;refine⟨?_,rfl⟩;rw[UX (g:=d-1) (i:=k.ev) (by rw[eK,f];rfl) q λg B j h=>?_]
   .show Value.int .i64 _=_;congr 1;omega
   .rw[eK]at h;obtain⟨u,a,rfl⟩:=nq.1 h;exact b g u (by omega) a
  .refine N [0,1,5] ?_;refine⟨d-1,by omega,?_,rfl,by omega,λg u j a=>?_⟩
   .rw[show((d-1:Nat):Int)=(d:Int)-1 by omega]
   .by_cases B:g=d-1
    .subst B;rw[f]at a;injection a with a;subst a;omega
    .exact b g u (by omega) a
 .obtain rfl:d=0:=by omega
  refine dI ?_;refine db results132 ?_;refine⟨?_,rfl⟩;rw[MU λB h=>?_]
  .rfl
  .obtain⟨u,a,rfl⟩:=dz.1 h;obtain⟨g,j⟩:=ka.1 a;exact b g u (gK _) j
def oR (a:U)(b c:Nat):C M:=[.string a,F b,J c]
def B8 (a:U)(b c:Nat):M:=.agg (oR a b c).toArray
def YE (a b:Int)(c:Int)(f g h:Int)(d:Int)(e:O):(Instr.build 286 [(0,F a),(1,F b),(2,J c),(3,PE [F f,F g,F h]),(4,F d)].toArray).run prog e=.ok (PE [F a,F b,J c,F f,F g,F h,F d]) e:=by kernel_rfl
def X7 (c:U)(a b:Int)(d:O):(Instr.build 57 [(0,.string c),(1,F a),(2,J b)].toArray).run prog d=.ok (PE [.string c,F a,J b]) d:=by kernel_rfl
section
variable{l:MC}{h:jO}{i:jX}{k e f d:Nat}{a:C PQ}{g:O}{c j:V}{b:U}
def ahZ {m:C M}(p:PQ)(o:m.length=(d-a.length)*7)(q:a.length<d):(a.flatMap lB++m).take (0+a.length*7)++lB p++(a.flatMap lB++m).drop (0+a.length*7+(lB p).length)=(a++[p]).flatMap lB++m.drop 7:=by have n:(a.flatMap lB).length=a.length*7:=zS a;rw[dU,C7 n,List.drop_append,AR (by omega),j9];simp[n,CL]
def ahW (o p m:Nat)(hm:fQ e f l h i c)(hq:vT k e f d a j)(h0:atV g [c,j])(G:l.sz 2=24)(y:gz h 2<l.cap 2)(Q:i.length<l.gW)(x:1<=b.size)(L:b.size<=l.lr)(am:l.lr<=255)(hl:a.length<d):aAg 124 [Z k,F o,B8 b p m] g [c,j] λu H=>∃r id B D,u=F 0/\H=[B,D]/\fQ e f l ((2,r)::h) ((id,b)::i) B/\vT k e f d (a++[⟨o,p,m,r,id,b⟩]) D:=by
 obtain⟨X,q,rfl,E,h2,h3,h4⟩:=hq;obtain⟨w,t,R⟩:=pD ((In.here (w0:=g) (F0:=gO [c,cz (tt k e f X a q d)]) (H:=[c,cz (tt k e f X a q d)]) (i:=1) rfl).cz (j:=1) rfl g h0);subst R;have K:b≠ByteArray.empty:=λz=>by rw[z]at x;exact absurd x (by decide)
 have A:=λ(w1:O) (s:Hl w1 c)=>LC 2 (by omega) y hm s;rw[G]at A;refine enter (g:=87) func124 rfl rfl [(0,_),(1,_),(2,.agg (oR b p m).toArray)] rfl ⟨rfl,rfl,rfl,trivial⟩ h0 ?_;refine Mf (f:=[.string b,F p,J m]) λaf ah=>?_;refine N [0,1,5] ?_;refine N [0,1,5,10] ?_;refine cC ?_;refine eO 11 [] [_,_,_] [] (ik _) λan=>?_;refine cQ ?_;refine cN rfl (eZ 2 0 (n:=F a.length)) ?_;refine cQ ?_;refine cN rfl (eZ 2 0 (n:=vS w d t)) ?_;refine N [0,1,5,13] ?_;refine df ?_;refine I (cU (oO rfl rfl) (z:=.bool false) (dq Value.bool (fL K))) ?_;refine NX 2 0 (v:=Z e) ?_;refine cY (c) [_,_] func157 (c8 1 rfl) (λg hh s=>A g s) ?_;rintro _ _ w1 ⟨r,P,rfl,rfl,S⟩;refine NV [F 0,F 0,F 0] λag ak=>?_;refine cO 0 (u:=[_,_,_]) (H:=jz r) λal=>?_;refine N [0,1,5,7,8] ?_;refine N [0,1,5,7,8,42] ?_;refine cQ ?_;refine eO 12 [6] [_,_,_] [_] (de [0,1,1] _ rfl) λai=>?_;refine cQ ?_;refine cN rfl (eZ 2 0 (n:=Z f)) ?_;refine cC ?_;refine eh rfl (ft (P) [_,_,_] func158 (c8 3 rfl) (λg hh s=>Sv S s x L Q)) ?_;rintro _ _ w2 ⟨_,rfl,id,ab,rfl,rfl,T⟩;refine⟨_,de [1,1,1] _ rfl,?_⟩;refine N [0,1,5,7,8,9] ?_;refine N [0,1,5,7,8,9,55] ?_;refine cQ ?_;refine cK [2,0,0,0] ?_;refine eu (tt k e f _ a q d) ?_;refine eO 18 [17] [_,_,_] [_,_] (de [0,1,1] _ rfl) λaj=>?_;refine fh ?_;refine cL ?_;refine cN rfl (di 1 (b:=jz r)) ?_;refine Y ?_;refine cN rfl (ee (YE _ _ _ _ _ _ _)) ?_;refine Y ?_;refine jW rfl (fK 3 (q:=lB ⟨o,p,m,r,id,b⟩) (y:=(a++[PQ.mk o p m r id b]).flatMap lB++q.drop 7) (h1:=by intro u W;simp[lB,jz]at W;rcases W with rfl|rfl|rfl|rfl|rfl|rfl|rfl<;>rfl) (hl:=by rw[cX,zS,E,CL,<-mu];show 0+a.length*7+7<=_;omega) (ae:=ahZ _ E hl)) ?_;rintro _ _ ad rfl;refine⟨_,cD _,?_⟩;refine iK [0] ?_;refine eL ?_;refine I (cU (z:=F ((a.length+1:Nat):Int)) (kH rfl rfl) (by rw[gR];rfl)) ?_;refine KW 0 (t:=[_]) λae=>?_;refine cH [] ?_;refine N [6] ?_;refine cK [0,2,2] ?_;refine dG [_,_] ?_;refine cK [1,0] ?_;refine dP results124 ?_;refine⟨r,id,ab,_,rfl,rfl,T,vS w d t,q.drop 7,?_,?_,?_,h3,h4⟩
 .unfold tt;rw[cX];rfl
 .rw[iz,E,cX,lD,Nat.sub_add_eq,Nat.sub_mul (d-a.length) 1 7]
 .rw[cX,lD];omega
def ahY {a:C PQ}{n:C M}{m:Nat}(u:a.length+1<=d)(s:d<=m)(q:n.length=m*7):((n.take 0++a.flatMap lB++n.drop (0+(a.flatMap lB).length)).length=m*7)/\∃o,o.length=(d-a.length)*7/\(n.take 0++a.flatMap lB++n.drop (0+(a.flatMap lB).length)).take (d*7)=a.flatMap lB++o:=by
 have p:(a.flatMap lB).length=a.length*7:=zS a;have r:a.length*7+(d-a.length)*7=d*7:=by rw[<-mu];congr 1;omega
 have t:d*7<=m*7:=j7 7 s;rw[A8,kF,dU,p];refine⟨by rw[cX,iz,p,q];omega,(n.drop (a.length*7)).take ((d-a.length)*7),?_,?_⟩
 .rw[eD,iz,q];omega
 .rw[xE,p,gS (by omega)];congr 2;omega
def ahV (n:PQ)(W:fQ e f l ((2,n.hd)::h) ((n.id,n.key)::i) c)(hq:vT k e f d (n::a) j)(h0:atV g [c,j]):aAg 126 [Z k] g [c,j] λK H=>∃B D,K=PF [F n.eP,B8 n.key n.time n.weight,.bool true]/\H=[B,D]/\fQ e f l h i B/\vT k e f d a D:=by
 obtain⟨lv,o,rfl,h1,E,h3,h4⟩:=hq;have E:a.length+1<=d:=E;have an:(n::a).length=a.length+1:=rfl;obtain⟨s,m,T⟩:=pD ((In.here (w0:=g) (F0:=gO [c,cz (tt k e f lv (n::a) o d)]) (H:=[c,cz (tt k e f lv (n::a) o d)]) (i:=1) rfl).cz (j:=1) rfl g h0);subst T;have X:fQ e f l ((2,n.hd)::h) ((n.id,n.key)::i) c:=W;refine dS func126 h0 ?_;refine NV [vE,F 0,J 0] λag ai=>?_;refine cB ?_;refine dZ rfl rfl (eZ 2 0 (n:=F ((a.length+1:Nat):Int))) ?_;refine NX 2 0 (v:=vS s d m) ?_;refine I (cR (ab:=0)) ?_;refine I (qN 2 1 (b:=lB n)) ?_;refine dj [F 0,F 0,J 0,F 0,F 0,F 0,F 0] λah aj=>?_;refine cO 0 (u:=lB n) (H:=lB n) (h1:=by intro K r;simp[lB,jz]at r;rcases r with rfl|rfl|rfl|rfl|rfl|rfl|rfl<;>rfl) λak=>?_;refine cH [0,3,5] ?_;refine Y ?_;refine eO 12 [6] [_,_] [_,_] (de [0,2] _ rfl) λao=>?_;refine cQ ?_;refine cN rfl (eZ 1 0 (n:=Z f)) ?_;refine Y ?_;refine cN rfl (dH 0 (n:=F n.id)) ?_;refine eh rfl (ft (c) [_,_,_] func160 (c8 3 rfl) (λg u q=>ahu X (dQ ..) q)) ?_;rintro _ _ w1 ⟨_,rfl,rfl,rfl⟩;refine⟨_,de [1,1] _ rfl,?_⟩;refine N [0,3,5,6] ?_;refine Y ?_;refine eO 7 [6] [_,_] [_,_] (cD _) λap=>?_;refine cQ ?_;refine cN rfl (eZ 1 0 (n:=Z e)) ?_;refine Y ?_;refine cN rfl (di 0 (b:=jz n.hd)) ?_;refine eh rfl (ft (c) [_,_,_] func159 (c8 2 rfl) (λg u q=>Hh W q)) ?_;rintro _ _ w2 ⟨_,rfl,ae,rfl,rfl,P⟩;refine⟨_,de [1,1] _ rfl,?_⟩;refine iK [0,3,5,6] ?_;refine Y ?_;refine eO 7 [6] [_,_] [_,_] (cD _) λaq=>?_;refine cQ ?_;refine cN rfl (eZ 1 0 (n:=Z f)) ?_;refine Y ?_;refine cN rfl (dH 0 (n:=F n.id)) ?_;refine eh rfl (ft (ae) [_,_,_] func161 (c8 2 rfl) (λg u q=>L5 P q)) ?_;rintro _ _ w3 ⟨_,rfl,af,rfl,rfl,ab⟩;refine⟨_,de [1,1] _ rfl,?_⟩;refine iK [0,3,5,6] ?_;refine Y ?_;refine cK [1,0,0,0] ?_;refine eu (tt k e f _ (n::a) o d) ?_;refine cK [1,0,0,0,0] ?_;refine EV λL w R A ad=>?_;obtain⟨d1,z,d2,d3⟩:=ahY (a:=a) E w A;obtain⟨G,x⟩:∃G,(if m=1 then 0 else 0+1*7)=G:=⟨_,rfl⟩;refine eO 14 [13] [_] [_,_,_,_] (de [1] _ rfl) λar=>?_;refine fh ?_;refine cC ?_;refine cN rfl (dH 0 (n:=F ((a.length+1:Nat):Int))) ?_;refine cN rfl (cU (z:=.slice (some ⟨s,G,.none⟩) a.length (m-1)) (oP 7 (w:=1) (A:=a.length+1) rfl underlying238 (by kernel_rfl) ⟨_,rfl⟩ ⟨_,rfl⟩) (by rw[x,C8])) ?_;refine eh rfl (DH (b:=7) (B:=a.flatMap lB) 1 rfl rfl underlying238 (by kernel_rfl) rfl (λg u t K r=>?_) (by rw[zS];congr 1;omega) (by rw[zS,A];have:=j7 7 w;omega) (λK r=>?_)) ?_
 .have S:=(da.1 r).1;rw[zS]at S;have hQ:m≠1:=by
   intro p;have:a.length=0:=by omega
   omega
  rw[cJ hQ]at x;subst x;rw[rz (m:=prog) u (l:=1) rfl];have p:(L.take (d*7))[7+t]? =some K:=by rw[ad];show((lB n++a.flatMap lB)++o)[7+t]? =some K;rw[dJ,nm (by rw[CL];omega),CL,Nat.add_sub_cancel_left,nk (by rw[zS];exact S)];exact r
  rw[uL (by omega)]at p;exact p
 .obtain⟨y,_,hy⟩:=rZ.1 r;simp[lB,jz]at hy;rcases hy with rfl|rfl|rfl|rfl|rfl|rfl|rfl<;>rfl
 rintro _ _ w4 rfl;refine⟨_,cD _,?_⟩;refine iK [0,3,5,6] ?_;refine eL ?_;refine I (cU (z:=F a.length) (Px rfl rfl) (by congr 1;omega)) ?_;refine KW 0 λal=>?_;refine cH [3,5,6] ?_;refine Y ?_;refine eO 11 [9] [_] [_,_,_,_] (de [2] _ rfl) λau=>?_;refine fw ?_;refine cN rfl (ee (X7 _ _ _)) ?_;refine Y ?_;refine jW rfl (gD 4 (y:=oR n.key n.time n.weight)) ?_;rintro _ _ am rfl;refine⟨_,cD _,?_⟩;refine N [2,3,4] ?_;refine cK [2,1,1,1] ?_;refine ER (j:=d) (cap:=m) (b:=7) w R d1 d3 ?_;refine cK [1,0,0,0] ?_;refine dG [_,_] ?_;refine cK [1,0,0] ?_;refine eM ?_;refine⟨_,_,λe ha u=>eW results126 (gg rfl (eX (e4 2 rfl underlying57 rfl (by kernel_rfl) rfl) (gg rfl eY))) e ha _ u,(((iw _).cons_cons _).cons_cons _),?_⟩;exact⟨af,_,rfl,rfl,ab,_,z,rfl,d2,by omega,h3,h4⟩
end
def fz.conv {q:dX}{r:fR}{d:C M}{i:O}{h:Nat->Prop}{f g:M->C V->Prop}(s:fz q r d i h f)(n:∀c p,f c p->∃a,(∀e,cI i h p e->cI i h a e)/\g c a):fz q r d i h g:=nY s λ_ _ ⟨c,j,l,m,o⟩=>by obtain⟨a,k,b⟩:=n c j o;exact⟨c,_,l,k _ m,b⟩
structure TD where
 rows:C Hd
 hm:C (U×(Hd×Nat))
def TD.hs (a:TD):jO:=a.rows.map (λb=>(0,b))++a.hm.map (λc=>(1,c.2.1))
def TD.ks (b:TD):jX:=b.hm.map λa=>(a.2.2,a.1)
def pY (a:Hd×Nat):M:=.agg #[F a.1.1,F a.1.2.1,F a.1.2.2,F a.2]
def Ch:sT prog 288 9 370 .string (.agg #[F 0,F 0,F 0,F 0]):=⟨underlying288,underlying9,λa=>by kernel_rfl⟩
structure TA where
 t:Nat
 tb:Nat
 ex:Nat
 sk:Nat
 rv:M
 hb:Nat
def rU (d f:Nat)(e:PC)(b c:M)(a:TA):C M:=Z d::Z f::(cP e b c++[Z a.tb,Z a.ex,Z a.sk,a.rv,.map (some a.hb)])
def ic (h j:Nat)(i:PC)(b g:M)(a:TA)(c:TD)(f d e:V):C V:=[cF a.t (rU h j i b g a) 294,f,d,e,row a.rv 280 3 c.rows.length (c.rows.flatMap jz),mp .string Value.string pY a.hb c.hm]
structure uX (a:PC)(f:TA)(b:PT)(e c d:V):Prop where
 tb:oB f.tb a.et a.mode b.T e
 ex:pG f.ex a.exact b.X c
 sk:zl f.sk a b.R b.sum d
def X1 (c d e a:Int)(b:O):(Instr.build 370 [(0,PE [F c,F d,F e]),(1,F a)].toArray).run prog b=.ok (PE [F c,F d,F e,F a]) b:=by kernel_rfl
section
variable{p:MC}{m:jO}{n:jX}{i k t id:Nat}{q:PC}{c h:M}{s:PT}{j:TD}{o:O}{g r f d e:V}{a:U}{b:Hd}{l:TA}
def alj (W:fQ i k p m n g)(h0:atV o [g,cz (ic i k q c h l j f d e)])(A:p.sz 1=32)(x:gz m 1<p.cap 1)(E:n.length<p.gW)(B:1<=a.size)(D:a.size<=p.lr)(L:ed j.hm a=none):aAg 217 [Z l.t,.string a] o [g,cz (ic i k q c h l j f d e)] λu H=>∃b id z,u=F 0/\H=[z,cz (ic i k q c h l ⟨j.rows,j.hm++[(a,(b,id))]⟩ f d e)]/\fQ i k p ((1,b)::m) ((id,a)::n) z:=by have y:=λ(R:O) (w:Hl R g)=>LC 1 (by omega) x W w;rw[A]at y;refine dR func217 h0 ?_;refine NX 1 0 (v:=Z i) ?_;refine cY (g) [_] func157 (cD _) (λo T w=>y o w) ?_;rintro _ _ R ⟨b,ab,rfl,rfl,G⟩;refine NV [F 0,F 0,F 0] λS X=>?_;refine cO 0 (u:=[_,_,_]) (H:=jz b) λP=>?_;refine NX 2 0 (v:=Z k) ?_;refine Pw 1 func158 (λo T w=>Sv G w B D E) ?_;rintro _ _ w2 ⟨id,Q,rfl,rfl,K⟩;refine N [0,1,5,6,7] ?_;refine N [0,1,5,6,7,29] ?_;refine cQ ?_;refine cK [2,0,0] ?_;refine eu (ic i k q c h l j f d e) ?_;refine eO 9 [8] [_,_] [_,_,_,_,_,_] (de [0,6] _ rfl) λad=>?_;refine df ?_;refine cN rfl (di 1 (b:=jz b)) ?_;refine Y ?_;refine cN rfl (ee (X1 _ _ _ _)) ?_;refine jW rfl (DI (z:=(b,id)) 6 Ch vp rfl rfl rfl rfl) ?_;rintro _ _ w3 rfl;refine⟨_,cD _,?_⟩;refine iK [] ?_;refine N [4] ?_;refine cK [0,1,1,1,1,1,1] ?_;refine dG [_,_,_,_,_,_] ?_;refine cK [1,0] ?_;refine dP results217 ?_;refine⟨b,id,Q,rfl,?_,K⟩;rw[zm L];rfl
def ak5 (S:fQ i k p ((1,b)::m) ((id,a)::n) g)(h0:atV o [g,cz (ic i k q c h l j f d e)])(R:ed j.hm a=some (b,id)):aAg 184 [Z l.t,.string a] o [g,cz (ic i k q c h l j f d e)] λ_ H=>∃u,H=[u,cz (ic i k q c h l ⟨j.rows,ig j.hm a⟩ f d e)]/\fQ i k p m n u:=by refine fz.conv (f:=λ_ H=>∃z u,H=[cF z (jz b++[F id]) 370,cF l.t (rU i k q c h l) 294,u,f,d,e,row l.rv 280 3 j.rows.length (j.rows.flatMap jz),mp .string Value.string pY l.hb (ig j.hm a)]/\fQ i k p m n u) ?_ λv H ⟨z,u,y,A⟩=>⟨_,λT x=>by subst y;have L:=x.pick (de [1,2,2,2,2,2,1] _ rfl);exact(cI.cz.1 (show cI o _ ([_,_,_,_,_,_]++[_]) T from L)).perm (List.Perm.swap ..),u,rfl,A⟩;refine dR func184 h0 ?_;refine cK [1,0] ?_;refine eu (ic i k q c h l j f d e) ?_;refine fw ?_;refine I (cU (z:=pY (b,id)) (DX 5 Ch vp rfl rfl rfl) (by rw[R];rfl)) ?_;refine dj [F 0,F 0,F 0,F 0] λK W=>?_;refine cO 0 (H:=jz b++[F id]) λX=>?_;refine cH [0,1,4] ?_;refine Y ?_;refine eO 7 [6] [_,_] [_,_,_,_,_,_] (cD _) λP=>?_;refine df ?_;refine cN rfl (di 0 (b:=jz b)) ?_;refine eh rfl (ft (g) [_,_,_,_,_,_,_] func159 (c8 7 rfl) (λo x w=>Hh S w)) ?_;rintro _ _ w1 ⟨_,rfl,E,rfl,rfl,B⟩;refine⟨_,de [1,1] _ rfl,?_⟩;refine iK [0,1,4] ?_;refine Y ?_;refine eO 7 [6] [_,_] [_,_,_,_,_,_] (cD _) λab=>?_;refine eL ?_;refine eh rfl (ft (E) [_,_,_,_,_,_,_] func161 (c8 2 rfl) (λo x w=>L5 B w)) ?_;rintro _ _ w2 ⟨_,rfl,G,rfl,rfl,D⟩;refine⟨_,de [1,1] _ rfl,?_⟩;refine cB ?_;refine iQ (Gi 7 Ch vp rfl rfl rfl) ?_;rintro _ _ w3 rfl;refine cH [] ?_;refine⟨_,_,λi Q x=>im (p:=[]) results184 rfl i Q _,gq _,?_⟩;exact⟨_,G,rfl,D⟩
end
def NJ {c e:Type}[DecidableEq c]{h:C (c×e)}{b:c}{m:e}(d:(h.map Prod.fst).Nodup)(o:ed h b=some m):∃f g,h=f++(b,m)::g/\ig h b=f++g:=by
 obtain⟨f,g,rfl⟩:=pJ (wC o);refine⟨f,g,rfl,?_⟩;rw[dE,dA,kR]at d;obtain⟨p,j,k⟩:=d;obtain⟨l,q⟩:=iB.1 j;unfold ig;rw[qT,nI (by simp)];congr 1
 .rw[sW];intro i a;have:i.1≠b:=k i.1 (gu a) b (dQ ..);simpa using this
 .rw[sW];intro i a;have:i.1≠b:=λn=>l (by show b∈_;rw[<-n];exact gu a);simpa using this
def NC {a b:Type}[DecidableEq a](c:C (a×b))(d:a):(ig c d).map Prod.fst=(c.map Prod.fst).filter λe=> !decide (e=d):=by unfold ig;rw[List.filter_map];rfl
abbrev Hm:=C (U×(Hd×Nat))
def TD.split {rows:C Hd}{a:Hm}{d:U}{c:Hd}{id:Nat}(f:(a.map Prod.fst).Nodup)(g:ed a d=some (c,id)):(TD.hs ⟨rows,a⟩).Perm ((1,c)::TD.hs ⟨rows,ig a d⟩)/\(TD.ks ⟨rows,a⟩).Perm ((id,d)::TD.ks ⟨rows,ig a d⟩):=by
 obtain⟨h,i,b,e⟩:=NJ f g;unfold TD.hs TD.ks;dsimp only;rw[e]
 conv=>lhs;rw[b]
 constructor
 .rw[dE,dA,dE,<-dJ,<-dJ];exact eg
 .conv=>lhs;rw[b]
  rw[dE,dA,dE];exact eg
def TD.Lr (a:C Hd)(g:Hm):gz (TD.hs ⟨a,g⟩) 1=g.length/\gz (TD.hs ⟨a,g⟩) 0=a.length/\gz (TD.hs ⟨a,g⟩) 2=0:=by
 have c:∀(b:C Hd)(f:Nat),gz (b.map λh=>(0,h)) f=if f=0 then b.length else 0:=λb f=>by
  induction b with
  |nil=>simp[gz]
  |cons j b e=>rw[dA,vq,e];simp only[eE];(repeat' split)<;>omega
 have d:∀(b:Hm)(f:Nat),gz (b.map λi=>(1,i.2.1)) f=if f=1 then b.length else 0:=λb f=>by
  induction b with
  |nil=>simp[gz]
  |cons j b e=>rw[dA,vq,e];simp only[eE];(repeat' split)<;>omega
 unfold TD.hs;dsimp only;rw[om,om,om,c,d,c,d,c,d];simp
def TD.Rk (a:TD):a.ks.length=a.hm.length:=by unfold TD.ks;rw[dL]
def ahv {d l:Nat}{h:iV}{i g:U}{m:Nat}(a:g∈cE (h.add d l i m).L):g∈cE h.L\/g=i:=by
 have b:∀{k:C En},g∈cE (iT k i)->g∈cE k:=λ{k} f=>by rw[Mc]at f;exact(kE.1 f).1
 unfold iV.add at a;cases e:kh h.L i with
 |some r=>
  rw[e]at a;dsimp only at a;rcases sj.1 a with a|a
  .exact .inl (b a)
  .exact .inr a
 |none=>
  rw[e]at a;dsimp only at a;split at a
  .split at a
   .dsimp only at a;rw[lJ]at a;rcases dV.1 a with a|a
    .exact .inl (Ct.subset a)
    .split at a
     .exact .inr (fI.1 a)
     .cases a
   .rcases sj.1 a with a|a
    .exact .inl a
    .exact .inr a
  .split at a
   .cases c:tl h.L with
    |none=>rw[c]at a;exact .inl a
    |some n=>
     obtain⟨s,q⟩:=n;rw[c]at a;obtain⟨o,p,j,rfl,_,_⟩:=Iq c;dsimp only at a;rcases sj.1 a with a|a
     .refine .inl ?_;rw[j];exact x8.2 (.inr a)
     .exact .inr a
   .rcases sj.1 a with a|a
    .exact .inl a
    .exact .inr a
structure qX (d:Hm)(a:C U)(c:C U)(e:Hm):Prop where
 nd:(e.map Prod.fst).Nodup
 mem:∀b,b∈e.map Prod.fst↔b∈d.map Prod.fst/\¬(b∈a/\b∉c)
def qX.start {a:Hm}{b:C U}(c:(a.map Prod.fst).Nodup):qX a [] b a:=⟨c,λd=>by simp⟩
def qX.stay {f h:Hm}{i c:C U}{k:U}(j:qX f i c h)(g:k∈c):qX f (i++[k]) c h:=⟨j.nd,λm=>by
 rw[j.mem,dV,fI];constructor
 .rintro⟨d,e⟩;exact⟨d,λ⟨a,b⟩=>a.elim (λa=>e ⟨a,b⟩) λl=>b (by rw[l];exact g)⟩
 .rintro⟨d,e⟩;exact⟨d,λ⟨a,b⟩=>e ⟨.inl a,b⟩⟩⟩
def qX.go {f j:Hm}{l c:C U}{i:U}(m:qX f l c j)(h:i∉c):qX f (l++[i]) c (ig j i):=⟨by rw[NC];exact m.nd.filter _,λn=>by
 rw[NC,kE,m.mem,dV,fI];simp only[yS,Bg];constructor
 .rintro⟨⟨d,b⟩,e⟩;exact⟨d,λ⟨a,g⟩=>a.elim (λa=>b ⟨a,g⟩) e⟩
 .rintro⟨d,b⟩;exact⟨⟨d,λ⟨e,a⟩=>b ⟨.inl e,a⟩⟩,λk=>b ⟨.inr k,by rw[k];exact h⟩⟩⟩
def qX.last {f m:Hm}{i b j:C U}(l:(f.map Prod.fst).Perm (i++j))(g:(i++j).Nodup)(k:(b++j).Nodup)(n:qX f i b m)(e:∀h∈b,h∈i):(m.map Prod.fst).Perm (b++j):=by
 refine(tH n.nd k).2 λh=>?_;rw[n.mem,l.mem_iff,dV,dV];constructor
 .rintro⟨a|a,d⟩
  .exact .inl (pI λc=>d ⟨a,c⟩)
  .exact .inr a
 .rintro(a|a)
  .exact⟨.inl (e h a),λ⟨_,c⟩=>c a⟩
  .refine⟨.inr a,λ⟨d,c⟩=>?_⟩;exact(kR.1 g).2.2 h d h a rfl
def Qy {a:Nat}{b:iV}{c:U}:b.get a c=none↔c∉cE b.L:=by unfold iV.get;rw[FB,rq]
section
variable{n:MC}{b:jO}{c:jX}{j k u:Nat}{a:PC}{e h:M}{o:TD}{m:O}{p t l f g:V}{key s:U}{i:TA}{d:iV}{q r:Nat}
def L7 (B:s.size<=255)(D:oB u q r d t)(h0:Hl m t):Sr 216 [Z u,.string s] m t λx G=>G=[t]/\∃(E:U)(z A:Nat)(w:Bool),x=PF [gf E z A,.bool w]/\(w=true↔s∈cE d.L):=by
 refine(Sz B D h0).mono ?_;rintro x G ⟨rfl,⟨H,y,rfl,rfl⟩|⟨y,rfl⟩⟩
 .refine⟨rfl,_,_,_,true,rfl,λ_=>?_,λ_=>rfl⟩;exact pI λv=>by rw[Qy.2 v]at y;cases y
 .exact⟨rfl,_,_,_,false,rfl,λv=>(by cases v),λv=>absurd v (Qy.1 y)⟩
def adu (x:Hm)(key:U):∃(z:Hd×Nat)(w:Bool),Value.tuple [((ed x key).map pY).getD (.agg #[F 0,F 0,F 0,F 0]),.bool (ed x key).isSome].toArray=PF [pY z,.bool w]/\(w=true↔key∈x.map Prod.fst):=by
 cases v:ed x key with
 |none=>exact⟨((0,0,0),0),false,rfl,λv=>(by cases v),λy=>absurd y (Br.1 v)⟩
 |some z=>exact⟨z,true,rfl,λ_=>dz.2 ⟨_,wC v,rfl⟩,λ_=>rfl⟩
def TD.snoc (v:C Hd)(x:Hm)(key:U)(w:Hd)(id:Nat)(b:jO)(c:jX):((1,w)::(TD.hs ⟨v,x⟩++b)).Perm (TD.hs ⟨v,x++[(key,(w,id))]⟩++b)/\((id,key)::(TD.ks ⟨v,x⟩++c)).Perm (TD.ks ⟨v,x++[(key,(w,id))]⟩++c):=by
 unfold TD.hs TD.ks;dsimp only;rw[dE,dE];constructor
 .rw[<-kP];refine I5 _ ?_;rw[<-dJ];exact(pK _ _).symm
 .rw[<-kP];exact I5 _ (pK _ _).symm
structure IP (n:MC)(a:PC)(b:jO)(c:jX):Prop where
 Km:gz b 1+(a.et+a.exact)<=n.cap 1
 key:c.length+(a.et+a.exact)<=n.gW
 Mk:n.sz 1=32
 km:n.lr<=255
def alk {X:C U}(v:Nat)(hc:a.Ok)(hT:oB i.tb a.et a.mode d l)(hB:IP n a b c)(hm:fQ j k n (o.hs++b) (o.ks++c) p)(aY:key≠ByteArray.empty)(aZ:1<=key.size)(a0:key.size<=n.lr)(hv:v≠0)(hl:d.L.length<=a.et)(hs:d.dY+v<=9223372036854775808)(hp:(o.hm.map Prod.fst).Perm (cE d.L++X))(hn:(cE d.L++X).Nodup)(aw:(cE (d.add a.mode a.et key v).L++X).Nodup)(aP:(cE (d.add a.mode a.et key v).L++X).length<=a.et+a.exact)(a1:key∉X)(a3:∀w∈cE d.L,w.size<=255)(h0:atV m [p,cz (ic j k a e h i o l f g)]):aAg 171 [Z i.t,.string key,J v] m [p,cz (ic j k a e h i o l f g)] λaC H=>∃(T:V)(Q:Hm)(G:V),aC=F 0/\H=[T,cz (ic j k a e h i ⟨o.rows,Q⟩ G f g)]/\oB i.tb a.et a.mode (d.add a.mode a.et key v) G/\fQ j k n (TD.hs ⟨o.rows,Q⟩++b) (TD.ks ⟨o.rows,Q⟩++c) T/\(Q.map Prod.fst).Perm (cE (d.add a.mode a.et key v).L++X):=by
 have bo:=hc.et;have bn:=hB.km;obtain⟨B,ai⟩:=o;obtain⟨es,aG⟩:∃es,mh (d.L.map (iM a.mode d.base))=es:=⟨_,rfl⟩;have ag:(cE es).Perm (cE d.L):=by rw[<-aG,<-Gm (a:=d.base) (b:=a.mode) (c:=d.L)];exact(xm _).map Prod.fst
 have aN:(cE es).Nodup:=ag.nodup_iff.2 (kR.1 hn).1;have bg:es.length<=a.et:=by have:=ag.length_eq;rw[cE,cE,dL,dL]at this;omega
 have ak:∀w∈cE (d.add a.mode a.et key v).L,w∈cE d.L\/w=key:=λw hq=>ahv hq;obtain⟨W,aU⟩:∃W,d.add a.mode a.et key v=W:=⟨_,rfl⟩;have ar:=λ(w1:O) (D:Hl w1 l)=>ahL v (by omega) hl aY (by omega) hv hs hT D;have ao:=λ(w1:O) (D:Hl w1 l)=>Sx (by omega) hT D;rw[aG]at ao;rw[aU]at ar ak aw aP|-;refine hJ func171 h0 ?_;refine cK [1,0] ?_;refine eu (ic j k a e h i ⟨B,ai⟩ l f g) ?_;refine Pw 1 func214 (λm P E=>ao m E) ?_;rintro v1 _ w1 rfl;refine kq λP=>?_;obtain⟨A1,c1,rfl⟩:=fS P (p:=1) rfl;clear P;refine Pw 0 func215 (λm P E=>ar m E) ?_;rintro _ _ w2 ⟨G,rfl,rfl,ad⟩;refine N [0,1,7,8] ?_;refine N [0,1,7,8,30] ?_;refine N [0,1,32,33,34] ?_;refine Y ?_;refine cK [2,0,1,1,1,1,1,0] ?_;refine dG [_,_,_,_,_,_] ?_;refine dB (λw q H w'=>∃(A:Nat)(Q:Hm)(T:V),q=[(0,Z i.t),(1,.string key),(32,.slice A1 es.length c1),(33,F es.length),(34,F A)]/\H=[cz (ic j k a e h i ⟨B,Q⟩ G f g),T,row (.slice A1 es.length c1) 302 3 es.length (dn es)]/\w+A=es.length/\qX ai (cE (es.take A)) (cE W.L) Q/\fQ j k n (TD.hs ⟨B,Q⟩++b) (TD.ks ⟨B,Q⟩++c) T) es.length ⟨0,ai,p,rfl,rfl,rfl,qX.start (hp.nodup_iff.2 hn),hm⟩ ?_;rintro w _ _ w3 ⟨A,Q,ay,rfl,rfl,hq,hM,ah⟩;refine cZ (λaW=>?_) λaW=>?_
 .have hi:A<es.length:=by omega
  obtain⟨x,hx⟩:∃x,es[A]? =some x:=⟨_,dr hi⟩;have aK:x.1∈cE d.L:=ag.mem_iff.1 (gu (eH hx));have aL:=a3 _ aK;have a4:x.1∉cE W.L->∃hd id,ed Q x.1=some (hd,id):=λax=>by have R:x.1∈Q.map Prod.fst:=(hM.mem _).2 ⟨hp.mem_iff.2 (gI _ aK),λ⟨S,_⟩=>by obtain⟨y,hy,K⟩:=dz.1 S;obtain⟨aB,hj⟩:=ka.1 hy;have aX:=(da.1 hj).1;rw[eD]at aX;rw[uL (by omega)]at hj;have:=(Jh (by rw[cE,dL];omega) aN).1 (show(cE es)[aB]? =(cE es)[A]? by rw[cE,eK,eK,hj,hx];simp[K]);omega⟩;obtain⟨⟨q1,hd,id⟩,h3,K⟩:=dz.1 R;have K:q1=x.1:=K;subst K;exact⟨hd,id,s5 hM.nd h3⟩
  have aJ:cE (es.take (A+1))=cE (es.take A)++[x.1]:=by rw[ia,hx,lJ];rfl
  refine eQ λP=>?_;obtain⟨ab,cap,hg⟩:=fs P (q:=2) rfl;injection hg with e1 _ e3;subst e1;subst e3;clear P;refine cC ?_;refine eS (λq H w'=>∃(Q:Hm)(T:V),q=[(0,Z i.t),(1,.string key),(32,vS ab es.length c1),(33,F es.length),(34,F A)]/\H=[cz (ic j k a e h i ⟨B,Q⟩ G f g),T,row (vS ab es.length c1) 302 3 es.length (dn es)]/\qX ai (cE (es.take (A+1))) (cE W.L) Q/\fQ j k n (TD.hs ⟨B,Q⟩++b) (TD.ks ⟨B,Q⟩++c) T) ?_ ?_
  .refine cL ?_;refine I (je 2 (b:=dy (some x)) (hv:=tZ hx)) ?_;refine dj [vE,J 0,J 0] λaq bh=>?_;refine cO 0 (u:=dy (some x)) (H:=dy (some x)) (h1:=by simp[dy,Value.oneCell']) λbi=>?_;refine cH [0,1,10,32,33,34] ?_;refine Y ?_;refine cK [1,0,0,0] ?_;refine eu (ic j k a e h i ⟨B,Q⟩ G f g) ?_;refine eS (λq H w'=>∃(z:Bool)(aD:Nat)(cs:C M),q=[(0,Z i.t),(1,.string key),(10,Z aq),(12,.bool z),(32,vS ab es.length c1),(33,F es.length),(34,F A)]/\H=[cF i.t (rU j k a e h i) 294,cF aq (dy (some x)) 302,cF aD cs 302,G,f,g,row i.rv 280 3 B.length (B.flatMap jz),mp .string Value.string pY i.hb Q,ay,row (vS ab es.length c1) 302 3 es.length (dn es)]/\(z=true↔x.1∈cE W.L)) ?_ ?_
   .refine xr (.fl 0 (.fl 1 (.fl 2 (.fl 3 (.fl 4 (.fl 5 (.two 6 (.fl 7 (.fl 8 (.fl 9 (.ef 10 (.ef 11 (.fl 12 .done)))))) 10 (.ef 6 (.fl 7 (.fl 8 (.fl 9 (.ef 11 (.fl 12 .done))))))))))))) ([_,_]) ([_,_,_,_,_,_,_]) lN (by kernel_rfl) (by kernel_rfl) rfl (de [0,5] _ rfl) (λba=>?_);refine eL ?_;refine rV ?_ ?_
    .refine fF rfl (ft (G) _ func216 (c8 2 rfl) (λm P E=>L7 aL ad E)) ?_;rintro _ _ w4 ⟨_,rfl,rfl,ek,eo,aE,z,rfl,af⟩;refine⟨_,de [1,1] _ rfl,?_⟩;refine cQ ?_;refine fY (fF rfl (mP [vE,J 0,J 0]) ?_);rintro _ _ az ⟨ae,rfl,rfl⟩;refine⟨_,eg.symm,?_⟩;refine fY (lK rfl (gD 2) ?_);rintro _ _ aA rfl;refine⟨_,cD _,?_⟩;refine Y ?_;refine IM [0,1,10,12,32,33,34] ?_;exact⟨z,ae,_,rfl,rfl,af⟩
    .refine fF rfl (mP [vE,J 0,J 0]) ?_;rintro _ _ az ⟨ae,rfl,rfl⟩;refine⟨_,eg.symm,?_⟩;refine fY (fF rfl (ft (G) _ func216 (c8 3 rfl) (λm P E=>L7 aL ad E)) ?_);rintro _ _ w4 ⟨_,rfl,rfl,ek,eo,aE,z,rfl,af⟩;refine⟨_,de [1,1] _ rfl,?_⟩;refine cQ ?_;refine fY (lK rfl (gD 3) ?_);rintro _ _ aA rfl;refine⟨_,cD _,?_⟩;refine Y ?_;refine oy [0,1,10,12,32,33,34] [0,0,1,0,0,0,0,0,0,0] ?_;exact⟨z,ae,_,rfl,rfl,af⟩
   rintro _ _ ba ⟨z,aD,cs,rfl,rfl,af⟩;refine fP (λam=>?_) λam=>?_
   .have ax:x.1∉cE W.L:=λD=>by rw[af.2 D]at am;cases am
    obtain⟨hd,id,aH⟩:=a4 ax;obtain⟨p1,p2⟩:=TD.split (rows:=B) hM.nd aH;have aj:=ah.perm (p1.append_right b) (p2.append_right c);refine cK [0,2,2,2,2,2,2,2,0] ?_;refine dG [_,_,_,_,_,_] ?_;refine cL ?_;refine dw (ox [_,_] [_,_] func184 (de [1,0] _ rfl) (λm P E=>ak5 (j:=⟨B,Q⟩) aj E aH)) ?_;rintro _ _ w5 ⟨_,rfl,a6,rfl,aQ⟩;refine fu [1,0,0] ?_;refine cH [0,1,32,33,34] ?_;exact⟨ig Q x.1,a6,rfl,rfl,by rw[aJ];exact hM.go ax,aQ⟩
   .have aS:x.1∈cE W.L:=by
     cases z with
     |true=>exact af.1 rfl
     |false=>exact absurd rfl am
    refine cK [0,2,2,2,2,2,2,2] ?_;refine dG [_,_,_,_,_,_] ?_;refine kw [0,1,32,33,34] rfl (iY ?_);exact⟨Q,ay,rfl,rfl,by rw[aJ];exact hM.stay aS,ah⟩
  .rintro _ _ w8 ⟨M2,a5,rfl,rfl,aT,aj⟩;refine N [0,1,32,33,34] ?_;exact⟨w-1,by omega,A+1,M2,a5,rfl,rfl,by omega,aT,aj⟩
 .obtain rfl:A=es.length:=by omega
  rw[j6]at hM;have al:qX ai (cE d.L) (cE W.L) Q:=⟨hM.nd,λs=>by rw[hM.mem,ag.mem_iff]⟩;refine cK [0,0] ?_;refine eu (ic j k a e h i ⟨B,Q⟩ G f g) ?_;obtain⟨hv,b2,a2,aF⟩:=adu Q key;refine dI ?_;refine fw ?_;refine cY (G) [_,_,_,_,_,_] func216 (c8 1 rfl) (λm P E=>L7 (show key.size<=255 by omega) ad E) ?_;rintro _ _ w9 ⟨rfl,ek,eo,aE,z,rfl,af⟩;refine NV [vE,J 0,J 0] λbb bd=>?_;refine cO 0 λa8=>?_;refine N [0,1,14] ?_;refine iq ?_;refine I (cU (KB 6 Ch vp rfl rfl rfl) a2) ?_;refine NV [F 0,F 0,F 0,F 0] λbc be=>?_;refine cO 0 λa9=>?_;refine cB ?_;refine lj (H:=2) (A:=(!z||b2)) 1 [(0,_),(1,_)] ⟨rfl,rfl,trivial⟩ rfl rfl rfl rfl rfl (λav=>?_) (λbf=>?_)
  .refine dZ rfl rfl (cU (z:=.bool (!z||b2)) (rh rfl) (by rw[av];rfl)) ?_;exact iy
  refine fP (λan=>?_) λan=>?_
  .have aM:∀w∈cE W.L,w∈cE d.L:=λw hq=>by
    rcases ak w hq with D|rfl
    .exact D
    .cases z with
     |false=>exact absurd (af.2 hq) (by simp)
     |true=>
      have R:=(al.mem w).1 (aF.1 (by simpa using an));rcases dV.1 (hp.mem_iff.1 R.1)with S|S
      .exact S
      .exact absurd S a1
   refine N [6] ?_;refine cK [3,2,2,2,2,2,2] ?_;refine dG [_,_,_,_,_,_] ?_;refine cK [1,0] ?_;refine dP results171 ?_;exact⟨ay,Q,G,rfl,rfl,ad,ah,al.last hp hn aw aM⟩
  .have aV:z=true:=by
    cases z with
    |true=>rfl
    |false=>exact absurd rfl an
   have au:b2=false:=by
    cases b2 with
    |false=>rfl
    |true=>exact absurd (by simp) an
   have aO:key∈cE W.L:=af.1 aV;have aI:key∉Q.map Prod.fst:=λD=>by rw[aF.2 D]at au;cases au
   have ap:((Q.map Prod.fst)++[key]).Perm (cE W.L++X):=by
    refine(tH ?_ aw).2 λw=>?_
    .exact kR.2 ⟨al.nd,r4 _ _,λq1 R q2 S K=>aI (by rw[<-fI.1 S,<-K];exact R)⟩
    .rw[dV,fI,al.mem,hp.mem_iff,dV,dV];constructor
     .rintro(⟨R|R,S⟩|rfl)
      .exact .inl (pI λh3=>S ⟨R,h3⟩)
      .exact .inr R
      .exact .inl aO
     .rintro(R|R)
      .rcases ak w R with S|S
       .exact .inl ⟨.inl S,λ⟨_,h3⟩=>h3 R⟩
       .exact .inr S
      .exact .inl ⟨.inr R,λ⟨S,_⟩=>(kR.1 hn).2.2 w S w R rfl⟩
   have bj:Q.length+1<=a.et+a.exact:=by have:=ap.length_eq;rw[cX,dL,lD]at this;omega
   obtain⟨k1,-,-⟩:=TD.Lr B Q;have bl:=hB.Km;have bm:=hB.key;refine cC ?_;refine cK [3,2,2,2,2,2,2] ?_;refine dG [_,_,_,_,_,_] ?_;refine cQ ?_;refine dw (ox [_,_] [] func217 (de [1,0] _ rfl) (λm P E=>alj (j:=⟨B,Q⟩) ah E hB.Mk (by rw[om,k1];omega) (by rw[cX,TD.Rk];show Q.length+_<_;omega) aZ a0 (Dl aI))) ?_;rintro _ _ bp ⟨_,rfl,hd,id,a7,rfl,rfl,aR⟩;refine db results171 ?_;obtain⟨p1,p2⟩:=TD.snoc B Q key hd id b c;refine⟨a7,Q++[(key,(hd,id))],G,rfl,rfl,ad,aR.perm p1 p2,?_⟩;rw[dE];exact ap
end
end Go.Proofs.YtdlpoonfcdoiiaaGreat
