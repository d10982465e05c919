/- What the code does, step by step, and plain facts: part 4. They have no conditions. -/
import Derived.Test.YtdlpoonfcdoiiaaGreatMB3
namespace Go.Proofs.YtdlpoonfcdoiiaaGreat
open Go.RowKit Go.Proofs.Tryz
set_option maxHeartbeats 40000000
set_option linter.all false
def ey (c a b:Nat):Nat:=if a+b<c then a+b else a+b-c
def dst (c a b:Nat):Nat:=if a<=b then b-a else b+c-a
def Bq {a b c:Nat}(d:b<a)(e:c<a):ey a b c<a:=by unfold ey;split<;>omega
def zw {a b c:Nat}(d:b<a)(e:c<a):dst a b c<a:=by unfold dst;split<;>omega
def Bp {a b c:Nat}(d:b<a)(e:c<a):ey a b (dst a b c)=c:=by unfold ey dst;split<;>split<;>omega
def zu {a b c:Nat}(d:b<a)(e:c<a):dst a b (ey a b c)=c:=by unfold ey dst;split<;>split<;>omega
def FN {a b c d:Nat}(e:b<a)(f:c+d<a):ey a (ey a b c) d=ey a b (c+d):=by unfold ey;split<;>split<;>split<;>omega
def FP {b a:Nat}(c:a<b):ey b a 0=a:=by unfold ey;split<;>omega
def NF {a b c:Nat}(d:b<a)(e:c<a)(f:1<=c):ey a b c≠b:=by unfold ey;split<;>omega
def OW {a b c:Nat}(d:b<a)(e:c<a)(f:c≠b):1<=dst a b c:=by unfold dst;split<;>omega
def Zu {a b d e:Nat}(f:b<a)(g:d<a)(h:e<a)(c:dst a b d<dst a b e):dst a b e=dst a b d+dst a d e:=by unfold dst at*;split at c<;>split at c<;>(repeat' split)<;>omega
def WI {a b c:Nat}(d:b<a)(e:c<a):(b+c) % a=ey a b c:=by
 unfold ey;split
 .exact wk ‹_›
 .rw[Nat.mod_eq_sub_mod (by omega),wk (by omega)]
def Zv {a b c:Nat}(d:b<a)(e:c<a):(c+a-b) % a=dst a b c:=by
 unfold dst;split
 .rw[Nat.mod_eq_sub_mod (by omega),show c+a-b-a=c-b by omega,wk (by omega)]
 .exact wk (by omega)
def OV {a b c:Nat}(d:b<a)(e:c<a):((c:Int)-b+a) % a=(dst a b c:Nat):=by rw[<-Zv d e,show((c:Int)-b+a)=((c+a-b:Nat):Int) by omega];exact(AO _ _).symm
def JF {a d:Nat}(b:d<a)(c:1<a):((d:Int)+1) % a=(ey a d 1:Nat):=by rw[<-WI b c,AO];rfl
section
variable{d:Type}
abbrev j5 (d:Type):=C (cG (U×d))
def eF (a:j5 d):C (U×d):=a.filterMap id
def keys (g:C (U×d)):C U:=g.map Prod.fst
def qR (a:j5 d)(g:Nat):Prop:=∃h,a[g]? =some (some h)
def wL (g h:j5 d):eF (g++h)=eF g++eF h:=by simp[eF]
def Gs (h:U×d)(g:j5 d):eF (some h::g)=h::eF g:=rfl
def DQ (g:j5 d):eF (none::g)=eF g:=rfl
def He {a:j5 d}{k:U×d}:k∈eF a↔∃j:Nat,a[j]? =some (some k):=by
 rw[eF,xC];constructor
 .rintro⟨g,h,rfl⟩;exact ka.1 h
 .rintro⟨j,i⟩;exact⟨_,ka.2 ⟨j,i⟩,rfl⟩
def Aa {h:Type}{a:C h}{i:Nat}{g:h}(m:a[i]? =some g):∃k l,a=k++g::l/\k.length=i:=by obtain⟨j,rfl⟩:=da.1 m;exact⟨a.take i,a.drop (i+1),by rw[<-jP j,gJ],by rw[eD];omega⟩
def zX {i:Type}{j k:C i}{h g:i}:(j++h::k).set j.length g=j++g::k:=by simp
def Qp {a:j5 d}(j:(eF a).length<a.length):∃g,g<a.length/\a[g]? =some none:=by
 induction a with
 |nil=>simp[eF]at j
 |cons l a i=>
  cases l with
  |none=>exact⟨0,by simp,rfl⟩
  |some m=>rw[Gs,eE,eE]at j;obtain⟨g,k,h⟩:=i (by omega);exact⟨g+1,by rw[eE];omega,by rw[y0];exact h⟩
def BL {a:j5 d}{g:Nat}{h:U×d}(i:a[g]? =some (some h)):(eF a).Perm (h::eF (a.set g none)):=by obtain⟨j,k,rfl,rfl⟩:=Aa i;rw[zX,wL,Gs,wL,DQ];exact eg
def Kn {a:j5 d}{g:Nat}{h:U×d}(i:a[g]? =some none):(eF (a.set g (some h))).Perm (h::eF a):=by obtain⟨j,k,rfl,rfl⟩:=Aa i;rw[zX,wL,Gs,wL,DQ];exact eg
def Pq {a:j5 d}{g:Nat}{h j:U×d}(i:a[g]? =some (some j)):(eF (a.set g (some h))).Perm (h::eF (a.set g none)):=by obtain⟨k,l,rfl,rfl⟩:=Aa i;rw[zX,zX,wL,Gs,wL,DQ];exact eg
structure qw (b:U->Nat)(c:Nat)(a:j5 d):Prop where
 len:a.length=c
 nd:(keys (eF a)).Nodup
 run:∀h g j,a[h]? =some (some (g,j))->∀i<dst c (b g) h,qR a (ey c (b g) i)
variable{b:U->Nat}{c e f:Nat}{a:j5 d}
def R8 {h:Nat}(i:qR a h):h<a.length:=by obtain⟨j,g⟩:=i;exact(da.1 g).1
def qw.new (c:Nat):qw b c (List.replicate c (none:cG (U×d))):=by
 have:eF (List.replicate c (none:cG (U×d)))=[]:=by
  induction c with
  |zero=>rfl
  |succ c h=>rw[Ft,DQ,h]
 refine⟨o3,by rw[this];exact xD,λj i k g=>?_⟩;rw[CZ]at g;split at g<;>cases g
def qw.JE (x:qw b c a){r:U}{q:Nat}(k:b r<c)(u:q<c)(g:a[ey c (b r) q]? =some none)(p:∀f<q,∀t,a[ey c (b r) f]?≠some (some (r,t))):r∉keys (eF a):=by
 intro v;obtain⟨⟨s,t⟩,i,rfl⟩:=dz.1 v;obtain⟨w,h⟩:=He.1 i;dsimp only at k u g p;have j:w<c:=by rw[<-x.len];exact(da.1 h).1
 have l:=Bp k j;have fV:=zw k j;rcases xI (dst c (b s) w) q with o|m|n
 .exact p _ o t (by rw[l];exact h)
 .rw[<-m,l,h]at g;cases g
 .obtain⟨y,i⟩:=x.run w s t h q n;rw[g]at i;cases i
def tj {g h:C (U×d)}(i:g.Perm h):(keys g).Perm (keys h):=i.map _
def qw.put (p:qw b c a){j:U}{z:d}{l:Nat}(s:b j<c)(r:l<c)(n:a[ey c (b j) l]? =some none)(t:j∉keys (eF a))(u:∀f<l,qR a (ey c (b j) f)):qw b c (a.set (ey c (b j) l) (some (j,z))):=by
 have k:ey c (b j) l<a.length:=(da.1 n).1;have i:∀o,qR a o->qR (a.set (ey c (b j) l) (some (j,z))) o:=λo ⟨B,v⟩=>by
  by_cases g:ey c (b j) l=o
  .subst g;exact⟨_,gm k⟩
  .exact⟨B,by rw[fE g];exact v⟩
 refine⟨by rw[fy];exact p.len,?_,λy w x h f m=>?_⟩
 .exact(tj (Kn n)).nodup_iff.2 (iB.2 ⟨t,p.nd⟩)
 .by_cases g:ey c (b j) l=y
  .subst g;rw[gm k]at h;injection h with h;injection h with h;injection h with q A;subst q;rw[zu s r]at m;exact i _ (u f m)
  .rw[fE g]at h;exact i _ (p.run y w x h f m)
def qw.aht (r:qw b c a){s:U}{w q:d}{m:Nat}(j:a[m]? =some (some (s,q))):qw b c (a.set m (some (s,w))):=by
 have k:m<a.length:=(da.1 j).1;have i:∀t,qR a t->qR (a.set m (some (s,w))) t:=λt ⟨y,u⟩=>by
  by_cases g:m=t
  .subst g;exact⟨_,gm k⟩
  .exact⟨y,by rw[fE g];exact u⟩
 refine⟨by rw[fy];exact r.len,?_,λp v x h f o=>?_⟩
 .have l:=(tj (Pq (h:=(s,w)) j)).nodup_iff;have n:=(tj (BL j)).nodup_iff;exact l.2 (n.1 r.nd)
 .by_cases g:m=p
  .subst g;rw[gm k]at h;injection h with h;injection h with h;injection h with l n;subst l;exact i _ (r.run m _ q j f o)
  .rw[fE g]at h;exact i _ (r.run p v x h f o)
structure qj (b:U->Nat)(c:Nat)(a:j5 d)(e f:Nat):Prop where
 len:a.length=c
 Hz:qR a e
 nd:(keys (eF (a.set e none))).Nodup
 run:∀i g j,i≠e->a[i]? =some (some (g,j))->∀k<dst c (b g) i,ey c (b g) k=e\/qR a (ey c (b g) k)
 seen:∀h,1<=h->h<f->∀g j,a[ey c e h]? =some (some (g,j))->dst c (b g) (ey c e h)<h
def qj.start (i:qw b c a){l:Nat}{m:U×d}(g:a[l]? =some (some m)):qj b c a l 1:=⟨i.len,⟨m,g⟩,(iB.1 ((tj (BL g)).nodup_iff.1 i.nd)).2,λk q r _ h p j=>.inr (i.run k q r h p j),λs n o=>by omega⟩
def qj.done (o:qj b c a e f)(A:∀q,b q<c)(y:1<=f)(D:f<c)(r:a[ey c e f]? =some none):qw b c (a.set e none):=by
 have u:e<a.length:=R8 o.Hz;have h:e<c:=o.len▸u;refine⟨by rw[fy];exact o.len,o.nd,λs q G j x B=>?_⟩;have k:s≠e:=λg=>by subst g;rw[gm u]at j;cases j
 rw[fE k.symm]at j;have i:s<c:=by rw[<-o.len];exact(da.1 j).1
 have m:=A q;have H:=zw m i;have p:ey c (b q) x≠e:=λg=>by
  have L:x=dst c (b q) e:=by rw[<-g,zu m (by omega)]
  have z:=Zu m h i (by omega);have w:=OW h i k;have Q:=zw h i;rcases xI (dst c e s) f with v|t|K
  .have:=o.seen (dst c e s) w v q G (by rw[Bp h i];exact j);rw[Bp h i]at this;omega
  .rw[<-t,Bp h i,j]at r;cases r
  .have l:=o.run s q G k j (x+f) (by omega);rw[<-FN m (by omega),g]at l;rcases l with E|⟨R,n⟩
   .exact NF h D y E
   .rw[r]at n;cases n
 rcases o.run s q G k j x B with g|⟨R,n⟩
 .exact absurd g p
 .exact⟨R,by rw[fE p.symm];exact n⟩
def qj.pass (i:qj b c a e f){p:U}{r:d}(m:a[ey c e f]? =some (some (p,r)))(l:dst c (b p) (ey c e f)<f):qj b c a e (f+1):=⟨i.len,i.Hz,i.nd,i.run,λq k h n o g=>by
 rcases o4 (wj h)with h|rfl
 .exact i.seen q k h n o g
 .rw[m]at g;injection g with g;injection g with g;injection g with j _;subst j;exact l⟩
def qj.move (v:qj b c a e f)(E:∀h,b h<c)(w:1<=f)(s:f<c){h:U}{q:d}(p:a[ey c e f]? =some (some (h,q)))(D:f<=dst c (b h) (ey c e f)):qj b c (a.set e (some (h,q))) (ey c e f) 1/\(eF ((a.set e (some (h,q))).set (ey c e f) none)).Perm (eF (a.set e none)):=by
 have n:e<a.length:=R8 v.Hz;have o:e<c:=v.len▸n;have y:=Bq o s;have l:=NF o s w;have x:=E h;have k:∀A,qR a A->qR (a.set e (some (h,q))) A:=λA ⟨P,p⟩=>by
  by_cases g:e=A
  .subst g;exact⟨_,gm n⟩
  .exact⟨P,by rw[fE g];exact p⟩
 have m:(eF ((a.set e (some (h,q))).set (ey c e f) none)).Perm (eF (a.set e none)):=by
  have r:(a.set e none)[ey c e f]? =some (some (h,q)):=by rw[fE l.symm];exact p
  have L:=BL r;have j:((a.set e none).set (ey c e f) none)[e]? =some none:=by rw[fE l,gm n]
  have z:=Kn (h:=(h,q)) j;have B:((a.set e none).set (ey c e f) none).set e (some (h,q))=(a.set e (some (h,q))).set (ey c e f) none:=by rw[List.set_comm _ _ l,we]
  rw[B]at z;exact z.trans L.symm
 refine⟨⟨by rw[fy];exact v.len,k _ ⟨_,p⟩,(tj m).nodup_iff.2 v.nd,λW K Q T i H G=>?_,λt w X=>by omega⟩,m⟩;by_cases g:e=W
 .subst g;rw[gm n]at i;injection i with i;injection i with i;injection i with r _;subst r;have R:=zw x y;have S:dst c (b h) e<dst c (b h) (ey c e f)/\dst c (b h) (ey c e f)=dst c (b h) e+f:=by have j:dst c e (ey c e f)=f:=zu o s;unfold dst at*;split at D<;>split at j<;>(repeat' split)<;>omega
  rcases v.run _ h q l p H (by omega)with j|u
  .exfalso;have:=zu x (show H<c by omega);rw[j]at this;omega
  .exact .inr (k _ u)
 .rw[fE g]at i;rcases v.run W K Q (uR g) i H G with j|u
  .exact .inr ⟨_,by rw[j];exact gm n⟩
  .exact .inr (k _ u)
end
def dC (b:Int):C Nat->Int
 |[]=>b
 |a::_=>(a:Int)
def Lk (b:C Int)(a:Int):C Nat->Prop
 |[]=>True
 |d::c=>b[d]? =some (dC a c)/\Lk b a c
def abV (c:Int)(a b:C Nat):dC c (a++b)=dC (dC c b) a:=by cases a<;>rfl
def yP (d:C Int)(c:Int):∀(b a:C Nat),Lk d c (b++a)↔Lk d (dC c a) b/\Lk d c a
 |[],a=>by simp[Lk]
 |e::b,a=>by simp only[kP,Lk,yP d c b a,abV,and_assoc]
def CP {f:C Int}{a i:Int}{c:Nat}:∀{b:C Nat},c∉b->(Lk (f.set c i) a b↔Lk f a b)
 |[],_=>Iff.rfl
 |h::b,g=>by have d:c≠h:=λa=>g (by simp[a]);simp only[Lk];rw[fE d,CP (λe=>g (dN _ e))]
def IV {d:C Int}{c e:Int}:∀{b:C Nat},Lk d c b->Lk (d++[e]) c b
 |[],_=>trivial
 |f::b,a=>⟨by rw[nk (da.1 a.1).1];exact a.1,IV a.2⟩
def V7 {g:C Int}{h a:Int}{c:Nat}{d:C Nat}(e:Lk g h (d++[c]))(f:c∉d):Lk (g.set c a) a (d++[c]):=by rw[yP]at e|-;refine⟨(CP f).2 e.1,?_,trivial⟩;have b:=(da.1 e.2.1).1;simp[dC,b]
def lO (a:C Int)(b:C Nat)(d:Int):C Int:=match b.reverse with|[]=>a|c::_=>a.set c d
def Nl {g:C Int}{h a:Int}{b:C Nat}(f:Lk g h b)(c:b.Nodup):Lk (lO g b a) a b:=by
 rcases yY b with rfl|⟨d,e,rfl⟩
 .trivial
 .rw[I6]at*;have:e∉d:=by rw[kR]at c;exact λf=>c.2.2 e f e (by simp) rfl
  simpa[lO]using V7 (a:=a) f this
def Nn {f:C Int}{e h:Int}{a c:C Nat}(b:∀i∈a,i∉c):Lk (lO f a h) e c↔Lk f e c:=by
 unfold lO;split
 .exact Iff.rfl
 .rename_i d j g;exact CP (b d (by
   have:d∈a.reverse:=by rw[g];simp
   simpa using this))
def HV (a:C Int)(b:C Nat)(c:Int):(lO a b c).length=a.length:=by unfold lO;split<;>simp
def Nj {i:C Int}{d:Int}{e c:C Nat}{h:Nat}(j:Lk i d (e++c))(b:(e++c).Nodup)(a:h∉e++c)(f:h<i.length):Lk (lO (i.set h (dC d c)) e h) d (e++h::c):=by rw[dV,tM]at a;rw[kR]at b;rw[yP]at j;rw[yP];refine⟨Nl (h:=dC d c) ((CP a.1).2 j.1) b.1,?_⟩;refine(Nn (λl g=>?_)).2 ⟨by simp[f],(CP a.2).2 j.2⟩;rw[dh,tM];exact⟨λd=>a.1 (d▸g),λk=>b.2.2 l g l k rfl⟩
def Nk {h:C Int}{d:Int}{b c:C Nat}{i:Nat}(e:Lk h d (b++i::c))(a:(b++i::c).Nodup):Lk (lO h b (dC d c)) d (b++c):=by rw[kR]at a;rw[yP]at e;rw[yP];refine⟨Nl e.1 a.1,(Nn λj g f=>a.2.2 j g j (dN _ f) rfl).2 e.2.2⟩
def Ni {c:C Int}{b:Int}{e a:C Nat}{d:Nat}(f:Lk c b (e++d::a)):c[d]? =some (dC b a):=((yP ..).1 f).2.1
def Hv:∀(b f:C Nat),b.Nodup->(∀g∈b,g∈f)->b.length<=f.length
 |[],_,_,_=>gK _
 |h::b,f,a,d=>by rw[iB]at a;have c:=d h (dQ ..);have i:=Hv b (f.erase h) a.2 λg e=>(List.mem_erase_of_ne (show g≠h from λj=>a.1 (j▸e))).2 (d g (dN _ e));rw[List.length_erase_of_mem c]at i;have:=List.length_pos_of_mem c;simp only[eE];omega
section
variable{a:Type}
def uH (b:C Nat)(c:Nat):Prop:=c∉b/\∀d<c,d∈b
abbrev c4 (b:C (Nat×a)):C Nat:=b.map Prod.fst
structure kN (i:Nat)(c:C (Nat×a))(b:C Bool)(d e:C Int)(f:C a):Prop where
 lx:d.length=b.length
 lp:e.length=b.length
 lv:f.length=b.length
 le:b.length<=i
 nd:(c4 c).Nodup
 us:∀g:Nat,b[g]? =some true↔g∈c4 c
 Hy:Lk d (-1) (c4 c)
 HH:Lk e (-1) (c4 c).reverse
 val:∀h∈c,f[h.1]? =some h.2
def kN.new (b:Nat):kN b ([]:C (Nat×a)) [] [] [] []:=⟨rfl,rfl,rfl,gK _,xD,by simp,trivial,trivial,by simp⟩
def kN.lt {j:Nat}{h:C (Nat×a)}{b:C Bool}{d e:C Int}{f:C a}(i:kN j h b d e f):∀g∈c4 h,g<b.length:=λg c=>by have:=(i.us g).2 c;exact(da.1 this).1
def kN.len {i:Nat}{d:C (Nat×a)}{b:C Bool}{e f:C Int}{g:C a}(h:kN i d b e f g):d.length<=b.length:=by have:=Hv (c4 d) (List.range b.length) h.nd λj c=>lE.2 (h.lt j c);simpa using this
def kN.full {l:Nat}{e:C (Nat×a)}{b:C Bool}{f g:C Int}{h:C a}(i:kN l e b f g h)(c:∀j,j<b.length->b[j]? =some true):e.length=b.length:=by refine Nat.le_antisymm i.len ?_;have:=Hv (List.range b.length) (c4 e) zb λk d=>(i.us k).1 (c k (lE.1 d));simpa using this
def kN.fresh {n:Nat}{m:C (Nat×a)}{b:C Bool}{i j:C Int}{k:C a}(l:kN n m b i j k){d:Nat}(h:b[d]?≠some true)(e:∀c<d,b[c]? =some true):uH (c4 m) d:=⟨λg=>h ((l.us d).2 g),λc f=>(l.us c).1 (e c f)⟩
def kN.more {j:Nat}{l:C (Nat×a)}{b:C Bool}{f g:C Int}{h:C a}(e:kN j l b f g h)(n:b.length<j)(d m:Int)(p:a):kN j l (b++[false]) (f++[d]) (g++[m]) (h++[p]):=by
 refine⟨by simp[e.lx],by simp[e.lp],by simp[e.lv],by simp;omega,e.nd,λk=>?_,IV e.Hy,IV e.HH,λo i=>?_⟩
 .rw[<-e.us k];rcases xI k b.length with c|c|c
  .rw[nk c]
  .subst c;simp
  .rw[nZ (by simp;omega),nZ (by omega)]
 .have:=e.val o i;rw[nk (da.1 this).1];exact this
def kN.insert {x:Nat}{m n:C (Nat×a)}{e:C Bool}{q r:C Int}{s:C a}(c:kN x (m++n) e q r s){g:Nat}(d:g∉c4 (m++n))(f:g<e.length)(w:a):kN x (m++(g,w)::n) (e.set g true) (lO (q.set g (dC (-1) (c4 n))) (c4 m) g) (lO (r.set g (dC (-1) (c4 m).reverse)) (c4 n).reverse g) (s.set g w):=by
 have b:=c.nd;simp only[c4,dE]at b d;refine⟨by rw[HV];simp[c.lx],by rw[HV];simp[c.lp],by simp[c.lv],by simp[c.le],?_,λv=>?_,?_,?_,λt i=>?_⟩
 .simp only[c4,dE,dA];rw[kR]at b|-;rw[dV,tM]at d;refine⟨b.1,iB.2 ⟨d.2,b.2.1⟩,λj p y k=>?_⟩;rcases dh.1 k with rfl|k
  .exact λo=>d.1 (o▸p)
  .exact b.2.2 j p y k
 .have:=c.us v;simp only[c4,dE,dA,dV,dh]at this|-;by_cases l:g=v
  .subst l;simp[f]
  .rw[fE l,this];have:v≠g:=λo=>l o.symm;simp[this]
 .have h:=c.Hy;simp only[c4,dE,dA]at h|-;exact Nj h b d (by rw[c.lx];exact f)
 .have h:=c.HH;simp only[c4,dE,dA,AZ,C1,dJ,nJ]at h|-;have:=Nj (h:=g) h (by rw[<-AZ];exact((List.reverse_perm _).symm.nodup b)) (by rw[<-AZ,za];exact d) (by rw[c.lp];exact f);simpa using this
 .have:t∈m++n\/t=(g,w):=by
   simp only[dV,dh]at i|-;rcases i with c|c|c
   .exact .inl (.inl c)
   .exact .inr c
   .exact .inl (.inr c)
  rcases this with i|rfl
  .have u:=c.val t i;have:g≠t.1:=λo=>d (by rw[o,<-dE];exact gu i);rw[fE this];exact u
  .simp[c.lv,f]
def kN.remove {A:Nat}{m p:C (Nat×a)}{f:Nat}{B G:a}{d:C Bool}{s t:C Int}{u:C a}(g:kN A (m++(f,B)::p) d s t u):kN A (m++p) (d.set f false) (lO s (c4 m) (dC (-1) (c4 p))) (lO t (c4 p).reverse (dC (-1) (c4 m).reverse)) (u.set f G):=by
 have e:=g.nd;simp only[c4,dE,dA]at e;have b:=e;rw[kR,iB]at b;have k:f∉m.map Prod.fst:=λx=>b.2.2 f x f (dQ ..) rfl;have l:=b.2.1.1;refine⟨by rw[HV];simp[g.lx],by rw[HV];simp[g.lp],by simp[g.lv],by simp[g.le],?_,λy=>?_,?_,?_,λz c=>?_⟩
 .simp only[c4,dE];rw[kR];exact⟨b.1,b.2.1.2,λi v D w=>b.2.2 i v D (dN _ w)⟩
 .have:=g.us y;simp only[c4,dE,dA,dV,dh]at this|-;by_cases o:f=y
  .subst o;have n:¬(f∈m.map Prod.fst\/f∈p.map Prod.fst):=λg=>g.elim k l;simp only[n,iff_false];by_cases q:f<d.length
   .simp[q]
   .rw[nZ (by simp;omega)];simp
  .rw[fE o,this];have:y≠f:=λE=>o E.symm;simp[this]
 .have h:=g.Hy;simp only[c4,dE,dA]at h|-;exact Nk h e
 .have h:=g.HH;simp only[c4,dE,dA,AZ,C1,dJ,nJ]at h|-;have j:=(List.reverse_perm _).symm.nodup e;simp only[AZ,C1,dJ,nJ]at j;exact Nk h j
 .have r:z∈m++(f,B)::p:=by simp only[dV,dh]at c|-;exact c.imp id .inr
  have n:=g.val z r;have:f≠z.1:=by
   rintro rfl;rcases dV.1 c with c|c
   .exact k (gu c)
   .exact l (gu c)
  rw[fE this];exact n
def Cn:∀{j f g c:C (Nat×a)}{i:Nat}{h e:a},(c4 (j++(i,h)::g)).Nodup->j++(i,h)::g=f++(i,e)::c->f=j/\e=h/\c=g
 |[],[],g,c,i,h,e,_,b=>by simp at b;exact⟨rfl,b.1.symm,b.2.symm⟩
 |[],m::f,g,c,i,h,e,d,b=>by simp only[kF,kP,vY]at b;obtain⟨rfl,rfl⟩:=b;simp[c4]at d
 |m::j,[],g,c,i,h,e,d,b=>by simp only[kF,kP,vY]at b;obtain⟨rfl,rfl⟩:=b;simp[c4]at d
 |m::j,n::f,g,c,i,h,e,d,b=>by simp only[kP,vY]at b;obtain⟨rfl,b⟩:=b;simp only[c4,kP,dA,iB]at d;obtain⟨rfl,k,l⟩:=Cn d.2 b;exact⟨rfl,k,l⟩
def Ab {e:C (Nat×a)}{f:Nat}(g:f∈c4 e):∃b i c,e=b++(f,i)::c:=by obtain⟨h,d,rfl⟩:=dz.1 g;obtain⟨b,c,rfl⟩:=pJ d;exact⟨b,h.2,c,rfl⟩
end
def lN:prog.follows .mixedOrders=true:=by kernel_rfl
def Ik:fB prog 480 4 1 1 (.bool false):=.mk' underlying480 (by kernel_rfl) rfl (by decide)
def mj:fB prog 22 3 1 8 (F 0):=.mk' underlying22 (by kernel_rfl) rfl (by decide)
def Cy:fB prog 264 9 1 16 vE:=.mk' underlying264 (by kernel_rfl) rfl (by decide)
def Um:fB prog 481 454 2 16 (.agg #[J 0,vQ]):=.mk' underlying481 (by kernel_rfl) rfl (by decide)
def iv (a:C Int):C M:=a.map (Value.int .i64)
def m3 (a:C Bool):C M:=a.map Value.bool
structure VK (a:Type)where
 list:dk
 elem:dk
 sz:Nat
 cells:a->C M
 val:a->M
 zero:a
def fD:VK Int:=⟨529,3,1,λa=>[F a],λa=>F a,0⟩
def eT:VK (Nat×cG Nat):=⟨483,454,2,λa=>[J a.1,.pointer (a.2.map λb=>⟨b,0,.none⟩)],λa=>.agg #[J a.1,.pointer (a.2.map λb=>⟨b,0,.none⟩)],(0,.none)⟩
section
variable{a:Type}
def iP (b:VK a)(c:C a):C M:=c.flatMap b.cells
def EO (c:VK a)(e:∀b,(c.cells b).length=c.sz)(d:C a):(iP c d).length=d.length*c.sz:=by
 induction d with
 |nil=>simp[iP]
 |cons b d f=>simp only[iP,ji,cX,e,eE,lT]at f|-;omega
def U4 (c:VK a)(e:∀b,(c.cells b).length=c.sz)(d g:C a)(b:a):(iP c (d++b::g)).take (d.length*c.sz)=iP c d/\(iP c (d++b::g)).drop (d.length*c.sz+c.sz)=iP c g/\((iP c (d++b::g)).drop (d.length*c.sz)).take c.sz=c.cells b:=by
 have f:=EO c e d;have h:iP c (d++b::g)=iP c d++(c.cells b++iP c g):=by simp[iP]
 refine⟨by rw[h,<-f,oF],?_,by rw[h,<-f,kZ,<-e b,oF]⟩;rw[h,<-xy,<-f,kZ,<-e b,kZ]
def Iw (e:VK a)(f:∀b,(e.cells b).length=e.sz){c:C a}{d:Nat}{b:a}(j:c[d]? =some b):((iP e c).drop (0+d*e.sz)).take e.sz=e.cells b:=by
 obtain⟨h,rfl⟩:=da.1 j;have i:c=c.take d++c[d]::c.drop (d+1):=by rw[<-jP h,gJ]
 have g:(c.take d).length=d:=by rw[eD];omega
 have:=(U4 e f (c.take d) (c.drop (d+1)) c[d]).2.2;rw[g,<-i]at this
 rwa [dU]
def EP (e:VK a)(i:∀b,(e.cells b).length=e.sz){c:C a}{d:Nat}(b:a)(h:d<c.length):(iP e c).take (0+d*e.sz)++e.cells b++(iP e c).drop (0+d*e.sz+e.sz)=iP e (c.set d b):=by
 have k:c=c.take d++c[d]::c.drop (d+1):=by rw[<-jP h,gJ]
 have j:(c.take d).length=d:=by rw[eD];omega
 obtain⟨f,g,_⟩:=U4 e i (c.take d) (c.drop (d+1)) c[d];rw[j,<-k]at f g;rw[dU,f,g,qU,cM h];simp[iP]
def map_set {c:Type}(d:c->M){e:C c}{f:Nat}(b:c)(g:f<e.length):(e.map d).take (0+f*1)++[d b]++(e.map d).drop (0+f*1+1)=(e.set f b).map d:=by rw[dU,fT,qU,cM g];simp[uN,uM]
def sw {c:Type}(d:c->M){e:C c}{f:Nat}{b:c}(g:e[f]? =some b):(e.map d)[0+f*1]? =some (d b):=by simp[g]
def Cb:∀b,(fD.cells b).length=fD.sz:=λ_=>rfl
def Ca:∀b,(eT.cells b).length=eT.sz:=λ_=>rfl
def jE (g:VK a)(l m:Nat)(h:C (Nat×a))(e c d f:M)(b:C Bool)(i j:C Int)(k:C a):C V:=[cF l [F m,F h.length,F (dC (-1) (c4 h)),F (dC (-1) (c4 h).reverse),e,c,d,f] g.list,row e 4 1 b.length (m3 b),row c 3 1 b.length (iv i),row d 3 1 b.length (iv j),row f g.elem g.sz b.length (iP g k)]
def iZ (l:VK a)(m k:Nat)(j:C (Nat×a))(n:V):Prop:=∃h f g i b c d e,n=cz (jE l m k j h f g i b c d e)/\kN k j b c d e
end
def X4 (a:Int)(b:O):(Instr.build 529 [(0,F a),(2,F (-1)),(3,F (-1))].toArray).run prog b=.ok (PE [F a,F 0,F (-1),F (-1),vN,vN,vN,vN]) b:=by kernel_rfl
def XL (a:Int)(b:O):(Instr.build 483 [(0,F a),(2,F (-1)),(3,F (-1))].toArray).run prog b=.ok (PE [F a,F 0,F (-1),F (-1),vN,vN,vN,vN]) b:=by kernel_rfl
set_option maxRecDepth 100000 in
def VO:(∀(d:Int)(i:O),Sn 377 [F d] i λm k=>((d<1\/8192<d)/\m=.tuple #[vQ,F 1]/\k=[])\/∃(b l:Nat)(e:V),d=b/\1<=b/\b<=8192/\m=.tuple #[Z l,F 0]/\k=[e]/\iZ fD l b [] e)/\(∀(d:Int)(i:O),Sn 293 [F d] i λm k=>((d<1\/8192<d)/\m=.tuple #[vQ,F 1]/\k=[])\/∃(b l:Nat)(e:V),d=b/\1<=b/\b<=8192/\m=.tuple #[Z l,F 0]/\k=[e]/\iZ eT l b [] e):=by
 refine⟨oX fD (fa @X4 (fa @results377 (fa @func377 ?_))),oX eT (fa @XL (fa @results293 (fa @func293 ?_)))⟩
 all_goals
  intro n f o g _ d i;refine dS n hS ?_;refine N [0] ?_;refine cL ?_;refine I (gN rfl rfl) ?_;refine Y ?_;refine lj (H:=2) (A:=decide (8192<d)) 2 [(0,_)] ⟨rfl,trivial⟩ rfl rfl rfl rfl rfl (λp=>?_) (λq=>?_)
  .refine Y ?_;refine dZ rfl rfl (gA rfl rfl) ?_;exact iy
  refine fP (λa=>?_) λa=>?_
  .simp only[jh,fU]at a;refine db f ?_;exact .inl ⟨a,rfl,rfl⟩
  .simp only[jh,fU,tM]at a;refine cL ?_;refine I (ee (λi=>o _ i)) ?_;refine dK λh r=>?_;refine N [2,3] ?_;refine gh 4 1 ?_;refine gh 3 1 ?_;refine gh 3 1 ?_;refine gh (g).elem (g).sz ?_;refine cK [4,3,2,1,0] ?_;refine dG (d:=[]) [_,_,_,_,_] ?_;refine dP f ?_;obtain⟨b,rfl⟩:∃b:Nat,d=b:=⟨d.toNat,by omega⟩;exact .inr ⟨b,h,_,rfl,by omega,by omega,rfl,rfl,_,_,_,_,[],[],[],[],rfl,kN.new b⟩
abbrev ach:=@sV _ _ VO
abbrev N6:=@tE _ _ VO
def qe:fB prog 25 23 1 8 (J 0):=.mk' underlying25 (by kernel_rfl) rfl (by decide)
def dF (b:C Nat):C M:=b.map λa:Nat=>Value.int .u64 (a:Int)
def yK (a:C Nat):(dF a).length=a.length:=by simp[dF]
def Af {c:C Nat}{b a:Nat}(d:c[b]? =some a):(dF c)[b]? =some (J a):=by rw[dF,eK,d];rfl
def wrap_u64 {a d:Int}(b:IntKind.u64.wrap a=d):∃c:Nat,d=c/\c<18446744073709551616:=by
 subst b;have b:IntKind.u64.wrap a=a % 18446744073709551616:=by rfl
 exact⟨(a % 18446744073709551616).toNat,by rw[b];omega,by omega⟩
def Nb (b c:Int):∃a:Nat,bits .xor .u64 b c=a/\a<18446744073709551616:=by obtain⟨a,d,e⟩:=wrap_u64 (a:=((BitVec.ofInt IntKind.u64.bits b^^^BitVec.ofInt IntKind.u64.bits c).toNat:Int)) rfl;exact⟨a,d,e⟩
def K7 (a b:Int):Int:=bits .or .u64 (IntKind.u64.wrap (a*2^min b.toNat IntKind.u64.bits)) (a.fdiv (2^min (64-b).toNat IntKind.u64.bits))
def abY (a:C Nat)(c:Int)(b:Nat):Int:=bits .xor .u64 (K7 c 5) ((a.getD (b/16) 0:Nat):Int)
def uf (a:C Nat)(c:Int)(b:Nat):Int:=IntKind.u64.wrap (IntKind.u64.wrap (K7 (abY a c b) 7+((a.getD (b % 16) 0:Nat):Int))*11400714819323198485)
def D6 (b:C Nat)(a:Int)(e:C UInt8):Int:=e.foldl (λd c=>uf b d c.toNat) a
def abX (a:Int):Int:=bits .xor .u64 a (a.fdiv (2^min (32:Int).toNat IntKind.u64.bits))
def ry (b:C Nat)(a:Int)(c:U):Int:=abX (D6 b a c.data.toList)
def GQ (b:C Nat)(a:Int)(c:U):0<=ry b a c/\ry b a c<18446744073709551616:=by obtain⟨e,d,f⟩:=Nb (D6 b a c.data.toList) ((D6 b a c.data.toList).fdiv (2^min (32:Int).toNat IntKind.u64.bits));have:ry b a c=e:=d;omega
def mD (c:C Nat)(a:Int)(b:Nat)(d:U):Nat:=(ry c a d % b).toNat
def zH (c:C Nat)(a:Int){b:Nat}(g:1<=b)(d:U):mD c a b d<b:=by have e:=xx (ry c a d) (show(b:Int)≠0 by omega);have f:=AN (ry c a d) (show(0:Int)<b by omega);unfold mD;omega
def Du (a:cG Addr)(c:Nat)(e:O):Sn 154 [PA a 16 c] e λd b=>d=F 0/\b=[]:=by refine dS func154 hS ?_;refine N [0] ?_;refine df ?_;refine I (jt rfl rfl) ?_;refine db results154 ?_;exact⟨rfl,rfl⟩
def SU (b:Int)(a:Nat)(f:O)(d:1<=a/\a<=63):Sn 253 [J b,J a] f λe c=>e=J (K7 b a)/\c=[]:=by refine dR func253 hS ?_;refine cB ?_;refine I (DY rfl rfl (by omega) rfl) ?_;refine cQ ?_;refine I (zA rfl rfl (by omega) rfl) ?_;refine I (KD rfl rfl rfl) ?_;refine db results253 ?_;exact⟨rfl,rfl⟩
def H4 (a:Int)(b:Nat)(h:O)(h0:0<=a/\a<18446744073709551616)(f:1<=b/\b<=16384):Sn 201 [J a,F b] h λg d=>g=F (((a % b).toNat:Nat):Int)/\d=[]:=by have c:=xx a (show(b:Int)≠0 by omega);have e:=AN a (show(0:Int)<b by omega);refine dR func201 hS ?_;refine N [0,1] ?_;refine cL ?_;refine I (gN rfl rfl) ?_;refine cH [0,1,6] ?_;refine jc rfl (λa=>absurd a (by omega)) (λ_=>?_);refine db results201 ?_;exact⟨by rw[rY c];rfl,rfl⟩
def ah1 (a:Nat)(d:a<256):IntKind.u8.wrap (((a:Nat):Int).tdiv 16)=((a/16:Nat):Int):=by
 have b:∀c:Fin 256,IntKind.u8.wrap (((c.val:Nat):Int).tdiv 16)=((c.val/16:Nat):Int):=by decide+kernel
 exact b ⟨a,d⟩
def K6 (f:C Nat)(p:M)(c:Int)(b:U)(g:O)(H:f.length=16)(y:Rd g cW 1 p 16 (dF f))(L:b.size<=140737488355328):Sn 202 [p,J c,.string b] g λR q=>R=J (ry f c b)/\q=[]:=by
 obtain⟨E,s,rfl,-,u,t⟩:=y;obtain⟨r,A,rfl,-,-,d1⟩:=t.resolve_left (by omega);have o:b.size=b.data.toList.length:=by rw[tF];rfl
 refine hJ func202 hS ?_;refine Ku func154 (λg n=>Du _ _ g) ?_;rintro _ _ T ⟨rfl,rfl⟩;refine I (jt rfl rfl) ?_;refine cH [0,1,2,12] ?_;refine kL rfl (λG=>absurd G (by simp)) (λ_=>?_);refine K4 [0,2,7,15,16] ?_;refine dB (λz Q q g=>∃e:Nat,Q=[(0,PA (some ⟨r,A,.none⟩) 16 s),(2,.string b),(7,J (D6 f c (b.data.toList.take e))),(15,F b.size),(16,F e)]/\q=[]/\z+e=b.size) b.size ⟨0,rfl,rfl,rfl⟩ ?_;rintro z _ _ S ⟨e,rfl,rfl,K⟩;refine cC ?_;refine I (gN rfl rfl) ?_;refine cZ (λd=>?_) λd=>?_
 .have h:e<b.data.toList.length:=by have:(e:Int)<(b.size:Int):=d;omega
  obtain⟨a,k⟩:∃a,b.data.toList[e]? =some a:=⟨_,dr h⟩;have l:b.data[e]? =some a:=by rw[<-vU];exact k
  have m:a.toNat<256:=a.toNat_lt;have w:a.toNat/16<16:=by omega
  have x:a.toNat % 16<16:=by omega
  have i:f[a.toNat/16]? =some (f.getD (a.toNat/16) 0):=by rw[jM,dr (by omega)];rfl
  have j:f[a.toNat % 16]? =some (f.getD (a.toNat % 16) 0):=by rw[jM,dr (by omega)];rfl
  refine cB ?_;refine I (BQ rfl rfl underlying9 rfl l) ?_;refine N [0,2,7,9,15,16] ?_;refine Y ?_;refine Nc [0,2,3,4,5,6,1001,7,8] λB=>?_;refine cQ ?_;refine cN rfl (KE rfl rfl (by decide) (ah1 _ m)) ?_;refine cN rfl (cR (ab:=a.toNat/16) (ad:=w)) ?_;refine cN rfl (jd (n:=J ((f.getD (a.toNat/16) 0:Nat):Int)) (hc:=d1 _ _ (by rw[fT];exact Af i))) ?_;refine eh rfl (eB func253 (λg n=>SU _ 5 g (by omega))) ?_;rintro _ _ W ⟨_,rfl,rfl,rfl⟩;refine⟨_,jQ _ _ _,?_⟩;refine cN rfl (Gx rfl rfl rfl) ?_;refine N [0,2,7,9,15,16] ?_;refine Nc [0,2,3,4,5,6,1001,7,8,9] λD=>?_;refine cQ ?_;refine cN rfl (cU (z:=.int .u8 ((a.toNat % 16:Nat):Int)) (te rfl rfl) (by rw[AO];rfl)) ?_;refine cN rfl (cR (ab:=a.toNat % 16) (ad:=x)) ?_;refine cN rfl (jd (n:=J ((f.getD (a.toNat % 16) 0:Nat):Int)) (hc:=d1 _ _ (by rw[fT];exact Af j))) ?_;refine eh rfl (eB func253 (λg n=>SU _ 7 g (by omega))) ?_;rintro _ _ X ⟨_,rfl,rfl,rfl⟩;refine⟨_,jQ _ _ _,?_⟩;refine cN rfl (BM rfl rfl) ?_;refine cN rfl (KC rfl rfl) ?_;refine ir [0,2,7,15,16] ?_;refine⟨z-1,by omega,e+1,?_,rfl,by omega⟩;rw[ia,k];simp only[D6,Option.toList,uK,oZ,List.foldl_nil];rfl
 .have h:e=b.size:=by have:¬(e:Int)<(b.size:Int):=d;omega
  subst h;rw[o,j6];refine dI ?_;refine cL ?_;refine I (zA rfl rfl (by omega) rfl) ?_;refine I (Gx rfl rfl rfl) ?_;refine db results202 ?_;exact⟨rfl,rfl⟩
structure VI (a:Type)where
 map:dk
 cell:dk
 val:a->M
 zero:a
def kM:VI Int:=⟨460,509,λa=>F a,0⟩
def jK:VI Nat:=⟨463,539,λa=>J (a:Nat),0⟩
def akC:fB prog 458 509 3 32 (.agg #[.bool false,vE,F 0]):=.mk' underlying458 (by kernel_rfl) rfl (by decide)
def akD:fB prog 461 539 3 32 (.agg #[.bool false,vE,J 0]):=.mk' underlying461 (by kernel_rfl) rfl (by decide)
section
variable{b:Type}(a:VI b)
def pa:cG (U×b)->C M
 |none=>[.bool false,vE,a.val a.zero]
 |some c=>[.bool true,.string c.1,a.val c.2]
def jT (c:j5 b):C M:=c.flatMap (pa a)
def GU (c:cG (U×b)):(pa a c).length=3:=by cases c<;>rfl
def D7 (c:j5 b):(jT a c).length=c.length*3:=by
 induction c with
 |nil=>rfl
 |cons e c d=>simp only[jT,ji,cX,GU,eE]at d|-;omega
def GV {c:j5 b}{d:Nat}{h:cG (U×b)}(j:c[d]? =some h):((jT a c).drop (0+d*3)).take 3=pa a h:=by
 obtain⟨f,rfl⟩:=da.1 j;have i:c=c.take d++c[d]::c.drop (d+1):=by rw[<-jP f,gJ]
 have g:(jT a (c.take d)).length=d*3:=by rw[D7,eD];omega
 have e:jT a c=jT a (c.take d)++(pa a c[d]++jT a (c.drop (d+1))):=by
  conv=>lhs;rw[i]
  simp only[jT,j9,ji]
 rw[e,dU,<-g,kZ,uO (by rw[GU];exact dT _),gS (by rw[GU];exact dT _)]
def Ld {c:j5 b}{d:Nat}(e:cG (U×b))(f:d<c.length):(jT a c).take (0+d*3)++pa a e++(jT a c).drop (0+d*3+3)=jT a (c.set d e):=by
 have k:c=c.take d++c[d]::c.drop (d+1):=by rw[<-jP f,gJ]
 have j:(jT a (c.take d)).length=d*3:=by rw[D7,eD];omega
 have g:jT a c=jT a (c.take d)++(pa a c[d]++jT a (c.drop (d+1))):=by
  conv=>lhs;rw[k]
  simp only[jT,j9,ji]
 have h:c.set d e=c.take d++e::c.drop (d+1):=qU.trans (cM f);have i:jT a (c.set d e)=jT a (c.take d)++(pa a e++jT a (c.drop (d+1))):=by rw[h];simp only[jT,j9,ji]
 rw[i,g,dU,<-j,oF,dJ];congr 2;rw[<-dJ,show(jT a (c.take d)).length+3=(jT a (c.take d)++pa a c[d]).length by rw[cX,GU],kZ]
def B3 {c:j5 b}{h:Nat}{j:cG (U×b)}(k:c[h]? =some j)(f:Nat){i:M}(g:(pa a j)[f]? =some i)(e:f<3):(jT a c)[0+h*3+f]? =some i:=by
 have d:(((jT a c).drop (0+h*3)).take 3)[f]? =some i:=by rw[GV a k];exact g
 rw[mT,cM e,kQ]at d;exact d
def oj (c j h len:Nat)(i:C Nat)(d:Int)(f e:M)(g:j5 b):C V:=[cF c [F j,F len,f,J d,e] a.map,row f 23 1 16 (dF i),row e a.cell 3 h (jT a g)]
def Bn (c f g len:Nat)(j:C Nat)(d:Int)(e:j5 b)(k:V):Prop:=1<=f/\f<=8192/\g=2*f/\j.length=16/\e.length=g/\∃i h,k=cz (oj a c f g len j d i h e)
abbrev iN (c:U):Prop:=c.size<=140737488355328
def k7 (e h:Nat)(g:C Nat)(d:Int)(i:C (U×b))(j:V):Prop:=∃f c,Bn a e h f (eF c).length g d c j/\qw (mD g d f) f c/\(eF c).Perm i/\(eF c).length<=h/\∀k∈eF c,iN k.1
end
def Is (c:C Nat):∀b∈dF c,b.oneCell'=true:=by intro b a;simp only[dF,dz]at a;obtain⟨d,_,rfl⟩:=a;rfl
def F9 (c:C Nat)(b:M)(h:O)(s:c.length=16)(a:Rd h cW 1 b 16 (dF c)):Sn 72 [b] h λu n=>∃j k,u=PA j 16 k/\n=[row (PA j 16 k) 23 1 16 (dF c)]:=by obtain⟨l,p,rfl,r,f,e⟩:=id a;obtain⟨o,t,rfl,-,-,d1⟩:=e.resolve_left (by omega);refine dS func72 hS ?_;refine cB ?_;refine I (vh rfl rfl underlying25) ?_;refine cB ?_;refine dw (tX qe) ?_;rintro _ _ i ⟨d,rfl,rfl⟩;refine Y ?_;refine dw (BG qe rfl rfl (λh g=>a.dx g) (Is _) (by omega) (by omega)) ?_;rintro _ _ v ⟨⟨m,q,rfl⟩,rfl⟩;refine db results72 ?_;exact⟨_,_,rfl,rfl⟩
set_option maxRecDepth 100000 in
def VN:(∀(n o m len:Nat)(f:C Nat)(a:Int)(g:j5 _)(d:V)(c:U)(e:O)(h:iN c)(k:Bn kM n o m len f a g d)(l:Hl e d),Sr 369 [Z n,.string c] e d λu r=>u=F (mD f a m c:Nat)/\r=[d])/\(∀(n o m len:Nat)(f:C Nat)(a:Int)(g:j5 _)(d:V)(c:U)(e:O)(h:iN c)(k:Bn jK n o m len f a g d)(l:Hl e d),Sr 406 [Z n,.string c] e d λu r=>u=F (mD f a m c:Nat)/\r=[d]):=by
 refine⟨fa @results369 (fa @func369 ?_),fa @results406 (fa @func406 ?_)⟩
 all_goals intro p q n o m len f a g d c e h k l;obtain⟨w,x,rfl,s,v,t,z,rfl⟩:=k;refine dR p l ?_;refine eQ λb=>?_;obtain⟨E,A,rfl⟩:=HQ b (r:=0) (s:=2) rfl rfl;clear b;refine N [0,1] ?_;refine Y ?_;refine Nc [0,1,2,3,4,5,6,7,8,10,11,12,13,14,1009,1015,16] λy=>?_;refine cQ ?_;refine cN rfl (eZ 0 0) ?_;refine cQ ?_;refine cN rfl (eZ 0 0) ?_;refine cL ?_;refine cN rfl (eZ 0 0) ?_;refine Y ?_;refine eh rfl (eB func202 (λe b=>K6 f t a c e s (Rd.qD b (n:=0) (o:=1) rfl rfl) h)) ?_;rintro _ _ B ⟨_,rfl,rfl,rfl⟩;refine⟨_,jQ _ _ _,?_⟩;refine eh rfl (eB func201 (λe b=>H4 (ry f a c) (2*o) e (GQ f a c) (by omega))) ?_;rintro _ _ D ⟨_,rfl,rfl,rfl⟩;refine⟨_,jQ _ _ _,?_⟩;refine db q ?_;exact⟨rfl,rfl⟩
abbrev QN:=@sV _ _ VN
abbrev UU:=@tE _ _ VN
def E0 {h:Type}(a:U->Nat)(d:Nat)(b:j5 h)(c:U)(i:M):Prop:=∃e<d,(b[ey d (a c) e]? =some none/\i=.tuple #[F (ey d (a c) e:Nat),.bool false]/\(∀f<e,∀g,b[ey d (a c) f]?≠some (some (c,g)))/\∀f<e,qR b (ey d (a c) f))\/∃g,b[ey d (a c) e]? =some (some (c,g))/\i=.tuple #[F (ey d (a c) e:Nat),.bool true]
set_option maxRecDepth 100000 in
def VL:(∀(u W c len:Nat)(j:C Nat)(a:Int)(b:j5 _)(t:V)(h:U)(x:O)(L:iN h)(e:(eF b).length<c)(w:Bn kM u W c len j a b t)(Q:Hl x t),Sr 359 [Z u,.string h] x t λv P=>E0 (mD j a c) c b h v/\P=[t])/\(∀(u W c len:Nat)(j:C Nat)(a:Int)(b:j5 _)(t:V)(h:U)(x:O)(L:iN h)(e:(eF b).length<c)(w:Bn jK u W c len j a b t)(Q:Hl x t),Sr 403 [Z u,.string h] x t λv P=>E0 (mD j a c) c b h v/\P=[t]):=by
 refine⟨fa @results359 (oX kM (fa @QN (fa @func369 (fa @func359 ?_)))),fa @results403 (oX jK (fa @UU (fa @func406 (fa @func403 ?_))))⟩
 all_goals
  intro ad ae af r _ G u W c len j a b t h x L e w Q;obtain⟨ai,aj,hN,hT,z,tV,cV,rfl⟩:=id w;obtain⟨s,p,he⟩:=Qp (by rw[z];exact e);rw[z]at p;have d:mD j a c h<c:=zH j a (by omega) h;have o:=Bp d p;have fV:=zw d p;generalize hD:dst c (mD j a c h) s=D at o fV;refine dR ad Q ?_;refine Pw 0 ae (λx H ab=>af u W c len j a b _ h x L w ab) ?_;rintro _ _ w1 ⟨rfl,rfl⟩;generalize A:mD j a c h=k at d o;refine N [0,1,6] ?_;refine cC ?_;refine eQ λH=>?_;obtain⟨g,cc,e2⟩:=nB H (s:=0) (t:=2) rfl rfl;clear H;subst e2;refine dB (λS m P x=>∃i:Nat,m=[(0,Z u),(1,.string h),(6,F (ey c k i:Nat))]/\P=[cz (oj r u W c len j a tV (vS g c cc) b)]/\S+i=D/\(∀R<i,∀y,b[ey c k R]?≠some (some (h,y)))/\∀R<i,qR b (ey c k R)) D ⟨0,by rw[FP d],rfl,rfl,by omega,by omega⟩ ?_;rintro S _ _ w2 ⟨i,rfl,rfl,ah,B,E⟩;have q:=Bq d (show i<c by omega);obtain⟨T,f⟩:∃T,b[ey c k i]? =some T:=⟨_,dr (by omega)⟩;refine NX 0 0 ?_;refine Y ?_;refine I (cR (ab:=ey c k i) (ad:=q)) ?_;refine Y ?_;refine I (sO 0 2 (n:=.bool T.isSome) (hv:=B3 r f 0 (by cases T<;>rfl) (by omega))) ?_;refine fP (λl=>?_) λl=>?_
  .obtain⟨X,rfl⟩:∃X,T=some X:=Db.1 l;have ag:i≠D:=λs=>by rw[s,o,he]at f;cases f
   refine NX 0 0 ?_;refine Y ?_;refine I (cR (ab:=ey c k i) (ad:=q)) ?_;refine Y ?_;refine I (sO 0 2 (n:=.string X.1) (hv:=B3 r f 1 rfl (by omega))) ?_;refine Y ?_;refine I (oO rfl rfl) ?_;refine cZ (λn=>?_) λn=>?_
   .obtain⟨xk,xv⟩:=X;obtain rfl:xk=h:=n;refine db G ?_;subst A;exact⟨⟨i,by omega,.inr ⟨xv,f,rfl⟩⟩,rfl⟩
   .refine NX 0 0 ?_;refine Y ?_;refine I (cU (z:=F (ey c k (i+1):Nat)) (te rfl rfl) (by rw[JF q (by omega),FN d (by omega)])) ?_;refine N [0,1,6] ?_;refine⟨S-1,by omega,i+1,rfl,rfl,by omega,λR K y=>?_,λR K=>?_⟩
    .rcases o4 (wj K)with k|rfl
     .exact B R k y
     .intro s;rw[f]at s;injection s with s;injection s with s;subst s;exact n rfl
    .rcases o4 (wj K)with k|rfl
     .exact E R k
     .exact⟨X,f⟩
  .obtain rfl:T=none:=by
    cases T with
    |none=>rfl
    |some X=>exact absurd rfl l
   refine dI ?_;refine db G ?_;subst A;exact⟨⟨i,by omega,.inl ⟨f,rfl,B,E⟩⟩,rfl⟩
abbrev Le:=@sV _ _ VL
abbrev MT:=@tE _ _ VL
def RE {g:Type}(b:VI g)(a:Nat):(madeCells (Value.agg #[.bool false,vE,b.val b.zero]).cells (a*3)).toList=jT b (List.replicate a none):=by
 have i:∀a,((List.range (a*3)).map λj=>(#[Value.bool false,vE,b.val b.zero]:Array M)[j % 3]!)=jT b (List.replicate a none):=by
  intro a;induction a with
  |zero=>rfl
  |succ a f=>
   have h:jT b (List.replicate (a+1) none)=jT b (List.replicate a none)++pa b none:=by rw[AY,jT,jT,j9];simp
   rw[h,lT,<-f,pL,pL,pL];simp only[dE,dA,kD,dJ];congr 1;have c:(a*3) % 3=0:=by omega
   have d:(a*3+1) % 3=1:=by omega
   have e:(a*3+2) % 3=2:=by omega
   rw[c,d,e];rfl
 rw[<-i a];simp only[madeCells,AK,AL];rfl
def Gr {c:Type}(a:Nat):eF (List.replicate a (none:cG (U×c)))=[]:=by
 induction a with
 |zero=>rfl
 |succ a b=>rw[Ft,DQ,b]
def X5 (h a:Int)(d e:cG Addr)(g f c b:Nat)(i:O):(Instr.build 460 [(0,F h),(2,PA d g f),(3,J a),(4,PA e c b)].toArray).run prog i=.ok (PE [F h,F 0,PA d g f,J a,PA e c b]) i:=by kernel_rfl
def YD (h a:Int)(d e:cG Addr)(g f c b:Nat)(i:O):(Instr.build 463 [(0,F h),(2,PA d g f),(3,J a),(4,PA e c b)].toArray).run prog i=.ok (PE [F h,F 0,PA d g f,J a,PA e c b]) i:=by kernel_rfl
set_option maxRecDepth 100000 in
def VS:(∀(b:Nat)(h:C Nat)(g:M)(a:Int)(e:O)(u:1<=b)(v:b<=8192)(i:h.length=16)(k:Rd e cW 1 g 16 (dF h)),Sn 258 [F b,g,J a] e λS z=>∃A n,S=.tuple #[Z A,F 0]/\z=[n]/\k7 kM A b h a [] n)/\(∀(b:Nat)(h:C Nat)(g:M)(a:Int)(e:O)(u:1<=b)(v:b<=8192)(i:h.length=16)(k:Rd e cW 1 g 16 (dF h)),Sn 259 [F b,g,J a] e λS z=>∃A n,S=.tuple #[Z A,F 0]/\z=[n]/\k7 jK A b h a [] n):=by
 refine⟨fa @results258 (fa @X5 (fa @akC (oX kM (fa @func258 ?_)))),fa @results259 (fa @YD (fa @akD (oX jK (fa @func259 ?_))))⟩
 all_goals
  intro E d _ r s G b h g a e u v i k;obtain⟨W,X,rfl,-,R,P⟩:=id k;refine hJ E hS ?_;refine N [0,1,2] ?_;refine cL ?_;refine I (gN rfl rfl) ?_;refine Y ?_;refine lj (H:=2) (A:=decide (8192<(b:Int))) 2 [(0,_),(1,_),(2,_)] ⟨rfl,rfl,rfl,trivial⟩ rfl rfl rfl rfl rfl (λH=>?_) (λT=>?_)
  .refine Y ?_;refine dZ rfl rfl (gA rfl rfl) ?_;exact iy
  refine cH [0,1,2,14] ?_;refine kL rfl (λQ=>absurd Q (by simp;omega)) (λ_=>?_);refine Ku func154 (λe p=>Du _ _ e) ?_;rintro _ _ w1 ⟨rfl,rfl⟩;refine N [0,1,2,8] ?_;refine cQ ?_;refine I (jt rfl rfl) ?_;refine cH [0,1,2,8,18] ?_;refine kL rfl (λQ=>absurd Q (by simp)) (λ_=>?_);refine cC ?_;refine eS (λm z w'=>∃(B:Nat)(q o:M),m=[(6,Z B),(7,F 0)]/\z=oj d B b (2*b) 0 h a q o (List.replicate (2*b) none)) ?_ ?_
  .refine xr (.fl 0 (.fl 1 (.fl 3 (.fl 4 (.fl 5 (.two 2 (.ef 6 (.fl 7 (.ef 8 (.fl 9 (.fl 10 .done))))) 6 (.ef 2 (.fl 7 (.ef 8 (.fl 9 (.fl 10 .done))))))))))) ([]) ([]) lN (by kernel_rfl) (by kernel_rfl) rfl (ik _) (λD=>?_);refine cL ?_;refine nW rfl (cU (z:=F ((2*b:Nat):Int)) (oh rfl rfl) (by congr 1)) ?_;refine rV ?_ ?_
   .refine fF rfl (eB func72 (λe p=>F9 h _ e i (k.dx p))) ?_;rintro _ _ w ⟨_,rfl,K,L,rfl,rfl⟩;refine⟨_,cD _,?_⟩;refine fY (fF rfl (qy (y:=2*b) (B:=jT d (List.replicate (2*b) none)) rfl rfl r (by omega) (by omega) (RE d (2*b)).symm) ?_);rintro _ _ x ⟨t,rfl,rfl⟩;refine⟨_,eg.symm,?_⟩;refine nW rfl (ee (λe=>s _ _ _ _ _ _ _ _ e)) ?_;refine fY (fF rfl (Vy) ?_);rintro _ _ y ⟨f,rfl,rfl⟩;refine⟨_,eg.symm,?_⟩;refine cC ?_;refine oy [6,7] [0,1,0] ?_;exact⟨f,_,_,rfl,rfl⟩
   .refine fF rfl (qy (y:=2*b) (B:=jT d (List.replicate (2*b) none)) rfl rfl r (by omega) (by omega) (RE d (2*b)).symm) ?_;rintro _ _ x ⟨t,rfl,rfl⟩;refine⟨_,eg.symm,?_⟩;refine fY (fF rfl (eB func72 (λe p=>F9 h _ e i (k.dx p))) ?_);rintro _ _ w ⟨_,rfl,K,L,rfl,rfl⟩;refine⟨_,cD _,?_⟩;refine nW rfl (ee (λe=>s _ _ _ _ _ _ _ _ e)) ?_;refine fY (fF rfl (Vy) ?_);rintro _ _ y ⟨f,rfl,rfl⟩;refine⟨_,eg.symm,?_⟩;refine cC ?_;refine oy [6,7] [0,0,0] ?_;exact⟨f,_,_,rfl,rfl⟩
  rintro _ _ D ⟨B,q,o,rfl,rfl⟩;refine dG (d:=[]) (oj d B b (2*b) 0 h a q o _) ?_;refine dP G ?_;refine⟨B,_,rfl,rfl,2*b,List.replicate (2*b) none,⟨u,v,rfl,i,o3,q,o,by rw[Gr];rfl⟩,qw.new _,by rw[Gr],by rw[Gr];exact gK _,by rw[Gr];simp⟩
abbrev acL:=@sV _ _ VS
abbrev asS:=@tE _ _ VS
section
variable{c:Type}
def gX (b:C (U×c))(a:U):C (U×c):=b.filter λh=> !decide (h.1=a)
def dt (b:C (U×c))(a:U):cG c:=(b.find? λh=>decide (h.1=a)).map Prod.snd
def tp (h:Nat)(b:C (U×c))(a:U)(e:c):Int×C (U×c):=if(dt b a).isNone=true/\b.length=h then(7,b)else(0,(a,e)::gX b a)
def tm {b:C (U×c)}{a:U}:a∈keys b↔∃e,(a,e)∈b:=by simp[keys]
def Hb (b:C (U×c))(a:U)(e:c):gX ((a,e)::b) a=gX b a:=by simp[gX]
def yo {b:C (U×c)}{a:U}(k:a∉keys b):gX b a=b:=by refine sW.2 λj i=>?_;have:j.1≠a:=λh=>k (tm.2 ⟨j.2,by rw[<-h];exact i⟩);simp[this]
def LF {b h:C (U×c)}(i:b.Perm h)(a:U):(gX b a).Perm (gX h a):=i.filter _
def RJ (b:C (U×c))(a:U):a∉keys (gX b a):=by rw[tm];rintro⟨e,h⟩;simp[gX]at h
def Ec {b:C (U×c)}(h:(keys b).Nodup)(a:U):(keys (gX b a)).Nodup:=h.sublist (vZ.map _)
def vu {b:C (U×c)}{a:U}{e:c}(h:(keys b).Nodup)(j:(a,e)∈b):dt b a=some e:=by
 induction b with
 |nil=>cases j
 |cons l b k=>
  simp only[keys,dA,iB]at h;rcases dh.1 j with rfl|j
  .simp[dt]
  .have:l.1≠a:=λi=>h.1 (by rw[i];exact tm.2 ⟨e,j⟩);simp only[dt,sY,fL this]at k|-;exact k h.2 j
def yq {b:C (U×c)}{a:U}(k:a∉keys b):dt b a=none:=by
 rw[dt,wa.2 λj i=>?_]
 .rfl
 .have:j.1≠a:=λh=>k (tm.2 ⟨j.2,by rw[<-h];exact i⟩);simp[this]
def Hi {b:C (U×c)}{a:U}(k:a∈keys b):(dt b a).isNone=false:=by
 obtain⟨e,i⟩:=tm.1 k;cases h:b.find? (λj=>decide (j.1=a))with
 |none=>exact absurd (wa.1 h (a,e) i) (by simp)
 |some j=>simp[dt,h]
def LN {j:Nat}{b:C (U×c)}{a:U}{e:c}(i:a∈keys b):tp j b a e=(0,(a,e)::gX b a):=cJ λh=>by rw[Hi i]at h;exact absurd h.1 (by decide)
def adM {i:Nat}{b:C (U×c)}{a:U}{e:c}(j:a∉keys b)(h:b.length=i):tp i b a e=(7,b):=cM ⟨by rw[yq j];rfl,h⟩
def Eg {j:Nat}{b:C (U×c)}{a:U}{e:c}(k:a∉keys b)(i:b.length≠j):tp j b a e=(0,(a,e)::b):=by rw[tp,cJ λh=>i h.2,yo k]
def E0.form {i:U->Nat}{j:Nat}{d:j5 c}{a:U}{e:M}(r:E0 i j d a e)(s:d.length=j)(m:i a<j):∃(f:Nat)(ok:Bool),e=PF [F f,.bool ok]/\f<j/\(ok=true->∃g,d[f]? =some (some (a,g)))/\(ok=false->∃n<j,f=ey j (i a) n/\d[f]? =some none/\(∀q<n,∀g,d[ey j (i a) q]?≠some (some (a,g)))/\∀q<n,qR d (ey j (i a) q)):=by
 obtain⟨n,l,⟨k,rfl,o,p⟩|⟨g,k,rfl⟩⟩:=r
 .exact⟨_,false,rfl,Bq m l,λh=>(by cases h),λ_=>⟨n,l,rfl,k,o,p⟩⟩
 .exact⟨_,true,rfl,Bq m l,λ_=>⟨g,k⟩,λh=>(by cases h)⟩
variable{d:j5 c}{f:Nat}{a:U}{e g:c}{b:C (U×c)}
def JJ (i:d[f]? =some (some (a,g)))(h:(eF d).Perm b):(a,g)∈b:=h.mem_iff.1 (He.2 ⟨f,i⟩)
def keys_in (h:(eF d).Perm b){a:U}:a∈keys b↔a∈keys (eF d):=(tj h).mem_iff.symm
def SO (j:(keys (eF d)).Nodup)(m:d[f]? =some (some (a,g)))(l:(eF d).Perm b):(eF (d.set f none)).Perm (gX b a):=by have h:=BL m;have k:a∉keys (eF (d.set f none)):=(iB.1 ((tj h).nodup_iff.1 j)).1;have i:=LF (l.symm.trans h) a;rw[Hb,yo k]at i;exact i.symm
end
def X2 (a:U)(b:Int)(c:O):(Instr.build 509 [(0,.bool true),(1,.string a),(2,kM.val b)].toArray).run prog c=.ok (PE [.bool true,.string a,kM.val b]) c:=by kernel_rfl
def YB (a:U)(b:Nat)(c:O):(Instr.build 539 [(0,.bool true),(1,.string a),(2,jK.val b)].toArray).run prog c=.ok (PE [.bool true,.string a,jK.val b]) c:=by kernel_rfl
def asR (g u:Nat)(o:C Nat)(a:Int)(f:C (U×Nat))(b:V)(m:O)(d:k7 jK g u o a f b)(e:Hl m b):Sr 398 [Z g] m b λw n=>w=F f.length/\n=[b]:=by obtain⟨x,q,⟨j,k,s,t,h,v,p,rfl⟩,r,c,i,l⟩:=d;refine dS func398 e ?_;refine N [0] ?_;refine cL ?_;refine I (gB rfl rfl underlying415) ?_;refine NX 0 0 ?_;refine db results398 ?_;rw[<-c.length_eq];exact⟨rfl,rfl⟩
set_option maxRecDepth 100000 in
def VR:(∀(o K:Nat)(n:C Nat)(a:Int)(e:C (U×Int))(d:V)(b:U)(k:O)(s:iN b)(t:k7 kM o K n a e d)(u:Hl k d),Sr 352 [Z o,.string b] k d λv T=>v=.tuple #[kM.val ((dt e b).getD kM.zero),.bool (dt e b).isSome]/\T=[d])/\(∀(o K:Nat)(n:C Nat)(a:Int)(e:C (U×Nat))(d:V)(b:U)(k:O)(s:iN b)(t:k7 jK o K n a e d)(u:Hl k d),Sr 397 [Z o,.string b] k d λv T=>v=.tuple #[jK.val ((dt e b).getD jK.zero),.bool (dt e b).isSome]/\T=[d]):=by
 refine⟨oX kM (fa @results352 (fa @Le (fa @func359 (fa @underlying406 (fa @func352 ?_))))),oX jK (fa @results397 (fa @MT (fa @func403 (fa @underlying415 (fa @func397 ?_)))))⟩
 all_goals
  intro L Q R S l m _ o K n a e d b k s t u;obtain⟨W,X,w,x,q,ah,ak⟩:=t;obtain⟨ai,aj,hN,hT,A,tV,cV,rfl⟩:=id w;have f:mD n a W b<W:=zH n a (by omega) b;refine dR L u ?_;refine N [0,1] ?_;refine N [0,1,6] ?_;refine cL ?_;refine I (gB rfl rfl Q) ?_;refine cB ?_;refine cY _ [] R (cD _) (λk r G=>S o K W _ n a X _ b k s (by omega) w G) ?_;rintro _ _ w4 ⟨ae,rfl⟩;obtain⟨p,ok,rfl,hp,E,D⟩:=ae.form A f;refine N [0,6,7,8] ?_;refine cL ?_;refine I (jl rfl rfl) ?_;refine fP (λc=>?_) λc=>?_
  .obtain⟨i,ag,rfl,ad,ab,h2⟩:=D (by simpa using c);have z:=x.JE f ag ad ab;refine db l ?_;rw[yq (λh=>z ((keys_in q).1 h))];exact⟨rfl,rfl⟩
  .obtain⟨y,H⟩:=E (by simpa using c);have B:(keys e).Nodup:=(tj q).nodup_iff.1 x.nd;have af:=vu B (JJ H q);refine eQ λr=>?_;obtain⟨g,cc,P⟩:=nB r (s:=0) (t:=2) rfl rfl;subst P;clear r;refine NX 0 0 ?_;refine Y ?_;refine I (cR (ab:=p) (ad:=hp)) ?_;refine Y ?_;refine I (sO 0 2 (n:=m.val y) (hv:=B3 m H 2 rfl (by omega))) ?_;refine db l ?_;rw[af];exact⟨rfl,rfl⟩
abbrev B9:=@sV _ _ VR
abbrev Iu:=@tE _ _ VR
set_option maxRecDepth 100000 in
def VT:(∀(q f:Nat)(p:C Nat)(a:Int)(n:C (U×Int))(ab:V)(d:U)(j:Int)(E:O)(z:iN d)(L:k7 kM q f p a n ab)(ah:Hl E ab),Sr 366 [Z q,.string d,kM.val j] E ab λu H=>u=F (tp f n d j).1/\∃B,H=[B]/\k7 kM q f p a (tp f n d j).2 B)/\(∀(q f:Nat)(p:C Nat)(a:Int)(n:C (U×Nat))(ab:V)(d:U)(j:Nat)(E:O)(z:iN d)(L:k7 jK q f p a n ab)(ah:Hl E ab),Sr 399 [Z q,.string d,jK.val j] E ab λu H=>u=F (tp f n d j).1/\∃B,H=[B]/\k7 jK q f p a (tp f n d j).2 B):=by
 refine⟨fa @X2 (fa @results366 (oX kM (fa @Le (fa @func359 (fa @underlying406 (fa @func366 ?_)))))),fa @YB (fa @results399 (oX jK (fa @MT (fa @func403 (fa @underlying415 (fa @func399 ?_))))))⟩
 all_goals
  intro aw ax ay az e _ ad aA q f p a n ab d j E z L ah;have au:=L;obtain⟨D,b,hC,G,r,an,P⟩:=L;obtain⟨ao,ap,hN,hT,W,S,ae,rfl⟩:=id hC;have w:mD p a D d<D:=zH p a (by omega) d;refine hJ aw ah ?_;refine N [0,1,2] ?_;refine cL ?_;refine I (gB rfl rfl ax) ?_;refine cB ?_;refine cY _ [] ay (cD _) (λE ag av=>az q f D _ p a b _ d E z (by omega) hC av) ?_;rintro _ _ w4 ⟨hf,rfl⟩;obtain⟨R,ok,rfl,hp,ar,aq⟩:=hf.form W w;refine N [0,1,2,7,8] ?_;refine cL ?_;refine I (jl rfl rfl) ?_;refine cH [0,1,2,7,18] ?_;refine eS (λm H w'=>∃l:Nat,m=[(0,Z q),(1,.string d),(2,e.val j),(7,F R)]/\H=[cz (oj e q f D l p a S ae b)]/\l=(eF (b.set R (some (d,j)))).length/\qw (mD p a D) D (b.set R (some (d,j)))/\(eF (b.set R (some (d,j)))).Perm (tp f n d j).2/\l<=f/\(tp f n d j).1=0/\∀x∈eF (b.set R (some (d,j))),iN x.1) ?_ ?_
  .refine kL rfl (λt=>?_) (λt=>?_)
   .obtain⟨i,hi,rfl,af,h1,h2⟩:=aq (by simpa using t);have T:=G.JE w hi af h1;have s:d∉keys n:=λh=>T ((keys_in r).1 h);have hl:n.length=(eF b).length:=r.length_eq.symm;refine cC ?_;refine kB 9 [] λaE=>?_;refine cQ ?_;refine cN rfl (eZ 0 0) ?_;refine cQ ?_;refine cN rfl (eZ 0 0) ?_;refine cN rfl (e9 rfl rfl) ?_;refine cZ (λv=>?_) λv=>?_
    .have k:n.length=f:=by have:((eF b).length:Int)=(f:Int):=v;omega
     refine db ad ?_;rw[adM s k];exact⟨rfl,_,rfl,au⟩
    .have k:n.length≠f:=λh=>v (show((eF b).length:Int)=(f:Int) by omega);have c:=Kn (h:=(d,j)) af;refine eu (oj e q f D _ p a S ae b) ?_;refine KW 0 λaC=>?_;refine qh (d:=[]) [_,_,_] ?_;refine cH [0,1,2,7] ?_;rw[Eg s k];refine⟨(eF b).length+1,rfl,rfl,?_,G.put w hi af T h2,c.trans (r.cons _),by omega,rfl,λx o=>?_⟩
     .rw[c.length_eq];rfl
     .rcases dh.1 (c.mem_iff.1 o)with rfl|o
      .exact z
      .exact P x o
   .obtain⟨y,A⟩:=ar (by simpa using t);have am:d∈keys n:=tm.2 ⟨y,JJ A r⟩;have c:=Pq (h:=(d,j)) A;have Q:=SO G.nd A r;have X:=BL A;refine kw [0,1,2,7] rfl (iY ?_);rw[LN am];refine⟨(eF b).length,rfl,rfl,by rw[c.length_eq,X.length_eq];rfl,G.aht A,c.trans (Q.cons _),an,rfl,λx o=>?_⟩;rcases dh.1 (c.mem_iff.1 o)with rfl|o
    .exact z
    .exact P x (X.mem_iff.2 (dN _ o))
  .rintro _ _ w5 ⟨l,rfl,rfl,K,aj,ak,aB,al,ai⟩;refine Y ?_;refine eu (d:=[]) (oj e q f D _ p a S ae b) ?_;refine eQ λag=>?_;obtain⟨g,cc,e2⟩:=fs ag (q:=2) rfl;subst e2;clear ag;refine iq ?_;refine I (ee (λE=>aA _ _ E)) ?_;refine I (cR (ab:=R) (ad:=hp)) ?_;refine iQ (fK 2 (q:=pa e (some (d,j))) (y:=jT e (b.set R (some (d,j)))) (h1:=by simp[pa,e,kM,jK,Value.oneCell']) (hl:=by rw[D7];show 0+R*3+3<=_;omega) (ae:=Ld e _ (by omega))) ?_;rintro _ _ aD rfl;refine cH [] ?_;refine N [6] ?_;refine dG (d:=[]) [_,_,_] ?_;refine dP ad ?_;rw[al];exact⟨rfl,_,rfl,D,b.set R (some (d,j)),⟨ao,ap,hN,hT,by rw[fy];exact W,S,vS g D cc,by rw[K];rfl⟩,aj,ak,by omega,ai⟩
abbrev acM:=@sV _ _ VT
abbrev Iv:=@tE _ _ VT
def qj.ahi {f:Type}{e:U->Nat}{i h k g:Nat}{a:j5 f}(j:qj e i a h k)(d:a[g]? =some none):h≠g:=λc=>by obtain⟨l,b⟩:=j.Hz;rw[c,d]at b;cases b
def X3 (a:O):(Instr.build 509 #[]).run prog a=.ok (PE [.bool false,vE,kM.val kM.zero]) a:=by kernel_rfl
def YC (a:O):(Instr.build 539 #[]).run prog a=.ok (PE [.bool false,vE,jK.val jK.zero]) a:=by kernel_rfl
set_option maxRecDepth 100000 in
def VQ:(∀(z R:Nat)(x:C Nat)(a:Int)(T:C (U×Int))(r:V)(G:U)(ak:O)(hk:iN G)(hr:k7 kM z R x a T r)(hs:Hl ak r),Sr 368 [Z z,.string G] ak r λv H=>v=.tuple #[kM.val ((dt T G).getD kM.zero),.bool (dt T G).isSome]/\∃r',H=[r']/\k7 kM z R x a (gX T G) r')/\(∀(z R:Nat)(x:C Nat)(a:Int)(T:C (U×Nat))(r:V)(G:U)(ak:O)(hk:iN G)(hr:k7 jK z R x a T r)(hs:Hl ak r),Sr 402 [Z z,.string G] ak r λv H=>v=.tuple #[jK.val ((dt T G).getD jK.zero),.bool (dt T G).isSome]/\∃r',H=[r']/\k7 jK z R x a (gX T G) r'):=by
 refine⟨fa @X3 (fa @QN (fa @func369 (oX Int (oX kM (fa @results368 (fa @Le (fa @func359 (fa @underlying406 (fa @func368 ?_))))))))),fa @YC (fa @UU (fa @func406 (oX Nat (oX jK (fa @results402 (fa @MT (fa @func403 (fa @underlying415 (fa @func402 ?_)))))))))⟩
 all_goals
  intro a0 a1 a2 a3 aG c _ ag _ a4 a5 a6 z R x a T r G ak hk hr hs;have aY:=hr;obtain⟨b,ah,hC,hI,hM,be,aZ⟩:=hr;obtain⟨aC,aD,hN,hT,ay,S,cV,rfl⟩:=id hC;have ab:∀k,mD x a b k<b:=λk=>zH x a (by omega) k;have aA:=ab G;refine dR a0 hs ?_;refine N [0,1] ?_;refine N [0,1,6] ?_;refine cL ?_;refine I (gB rfl rfl a1) ?_;refine cB ?_;refine cY _ [] a2 (cD _) (λak hh au=>a3 z R b _ x a ah _ G ak hk (by omega) hC au) ?_;rintro _ _ w4 ⟨hf,rfl⟩;obtain⟨f,ok,rfl,s,aV,aU⟩:=hf.form ay aA;refine N [0,6,7,8] ?_;refine cL ?_;refine I (jl rfl rfl) ?_;refine fP (λan=>?_) λan=>?_
  .obtain⟨i,hi,rfl,he,h1,h2⟩:=aU (by simpa using an);have aO:=hI.JE aA hi he h1;have am:G∉keys T:=λh=>aO ((keys_in hM).1 h);refine db aG ?_;rw[yq am,yo am];exact⟨rfl,_,rfl,aY⟩
  .obtain⟨y,ai⟩:=aV (by simpa using an);have aT:(keys T).Nodup:=(tj hM).nodup_iff.1 hI.nd;have hg:=vu aT (JJ ai hM);have ae:=SO hI.nd ai hM;have aW:=BL ai;obtain⟨j,ad⟩:∃l,(eF (ah.set f none)).length=l:=⟨_,rfl⟩;have aw:(eF ah).length=j+1:=by rw[aW.length_eq,eE,ad]
   obtain⟨e,X,he⟩:=Qp (a:=ah) (by omega);rw[ay]at X;have aQ:e≠f:=λh=>by rw[h,ai]at he;cases he
   have aL:=OW s X aQ;have az:=Bp s X;have fV:=zw s X;generalize hD:dst b f e=D at az fV aL;rw[hg];refine eQ λhh=>?_;obtain⟨L,K,e2⟩:=nB hh (s:=0) (t:=2) rfl rfl;subst e2;clear hh;refine NX 0 0 ?_;refine Y ?_;refine I (cR (ab:=f) (ad:=s)) ?_;refine Y ?_;refine I (sO 0 2 (n:=c.val y) (hv:=B3 c ai 2 rfl (by omega))) ?_;refine N [0,7,9] ?_;refine Y ?_;refine eu (d:=[]) (oj c z R b _ x a S (vS L b K) ah) ?_;refine df ?_;refine I (cU (z:=F (j:Nat)) (Px rfl rfl) (by rw[aw];congr 1;omega)) ?_;refine KW 0 λba=>?_;refine qh (d:=[]) [_,_,_] ?_;refine NX 0 0 ?_;refine N [0,7,9,10] ?_;refine eL ?_;refine I (cU (z:=F (ey b f 1:Nat)) (te rfl rfl) (by rw[JF s (by omega)])) ?_;refine K4 [0,7,9,10,11] ?_;refine dB (λkk m H ak=>∃(d:j5 ag)(g p:Nat),m=[(0,Z z),(7,F (ey b f g:Nat)),(9,c.val y),(10,F (b:Nat)),(11,F (ey b f (g+p):Nat))]/\H=[cz (oj c z R b j x a S (vS L b K) d)]/\qj (mD x a b) b d (ey b f g) p/\1<=p/\g+p<=D/\kk+(g+p)=D/\d[ey b f D]? =some none/\(eF (d.set (ey b f g) none)).Perm (gX T G)/\∀(q:Nat)(af:U×ag),d[q]? =some (some af)->iN af.1) (D-1) ⟨ah,0,1,by rw[FP s],rfl,by rw[FP s];exact qj.start hI ai,dT _,by omega,by omega,by rw[az];exact he,by rw[FP s];exact ae,λq af t=>aZ af (He.2 ⟨q,t⟩)⟩ ?_;rintro kk _ _ w5 ⟨d,g,p,rfl,rfl,al,aB,bf,bd,W,A,B⟩;have P:=Bq s (show g<b by omega);have w:=Bq s (show g+p<b by omega);have n:ey b (ey b f g) p=ey b f (g+p):=FN s (by omega);have aq:=al.len;obtain⟨o,E⟩:∃o,d[ey b f (g+p)]? =some o:=⟨_,dr (by omega)⟩;refine NX 0 0 ?_;refine Y ?_;refine I (cR (ab:=ey b f (g+p)) (ad:=w)) ?_;refine Y ?_;refine I (sO 0 2 (n:=.bool o.isSome) (hv:=B3 c E 0 (by cases o<;>rfl) (by omega))) ?_;refine fP (λao=>?_) λao=>?_
   .obtain⟨⟨k,vx⟩,rfl⟩:∃af,o=some af:=Db.1 ao;have bc:g+p≠D:=λe=>by rw[e,W]at E;cases E
    have aF:=ab k;have av:=B _ _ E;have bb:=zw aF w;have aE:d[ey b (ey b f g) p]? =some (some (k,vx)):=by rw[n];exact E
    have aP:dst b (ey b f g) (ey b f (g+p))=p:=by rw[<-n,zu P (by omega)]
    have aK:Bn c z R b j x a d (cz (oj c z R b j x a S (vS L b K) d)):=⟨aC,aD,hN,hT,aq,_,_,rfl⟩;refine cC ?_;refine eS (λm H ak=>∃(u:j5 ag)(t2 aj:Nat),m=[(0,Z z),(7,F (ey b f t2:Nat)),(9,c.val y),(10,F (b:Nat)),(11,F (ey b f (g+p):Nat))]/\H=[cz (oj c z R b j x a S (vS L b K) u)]/\qj (mD x a b) b u (ey b f t2) aj/\1<=aj/\t2+aj=g+p+1/\u[ey b f D]? =some none/\(eF (u.set (ey b f t2) none)).Perm (gX T G)/\∀(q:Nat)(af:U×ag),u[q]? =some (some af)->iN af.1) ?_ ?_
    .refine cC ?_;refine CM [0,1,2,3,4,5,6,7,8,9,12,14,16,17,18,19,20,21,22,1010,11,13,15,23] [(_,some 10)] [] (cD _) λa8=>?_;refine df ?_;refine ew rfl (eZ 0 0) ?_;refine Y ?_;refine ew rfl (cR (ab:=ey b f (g+p)) (ad:=w)) ?_;refine Y ?_;refine ew rfl (sO 0 2 (n:=.string k) (hv:=B3 c E 1 rfl (by omega))) ?_;refine iq ?_;refine ew rfl (cU (z:=F (p:Nat)) (te rfl rfl) (by rw[OV P w,aP])) ?_;refine gY rfl (ft _ [] a4 (cD _) (λak hh au=>a5 z R b _ x a d _ k ak av aK au)) ?_;rintro _ _ bg ⟨_,rfl,rfl,rfl⟩;refine⟨_,cD _,?_⟩;refine cC ?_;refine ew rfl (cU (z:=F (dst b (mD x a b k) (ey b f (g+p)):Nat)) (te rfl rfl) (by rw[OV aF w])) ?_;refine ew rfl (m6 rfl rfl) ?_;refine cZ (λap=>?_) λap=>?_
     .have ar:=al.move ab aB (by omega) aE (by rw[n];have:(p:Int)<=(dst b (mD x a b k) (ey b f (g+p)):Nat):=ap;omega);rw[n]at ar;refine Y ?_;refine eu (d:=[]) (oj c z R b _ x a S (vS L b K) d) ?_;refine cK [2,0,0] ?_;refine mm 14 [13] [(_,some 13),(_,none),(_,none)] [] (cD _) λa9=>?_;refine fh ?_;refine Y ?_;refine ew rfl (cR (ab:=ey b f (g+p)) (ad:=w)) ?_;refine ew rfl (je 0 (b:=pa c (some (k,vx))) (hv:=GV c E)) ?_;refine ew rfl (cR (ab:=ey b f g) (ad:=P)) ?_;refine jC rfl (fK 0 (q:=pa c (some (k,vx))) (y:=jT c (d.set (ey b f g) (some (k,vx)))) (h1:=by simp[pa,c,kM,jK,Value.oneCell']) (hl:=by rw[D7];show 0+ey b f g*3+3<=_;omega) (ae:=Ld c _ (by omega))) ?_;rintro _ _ bh rfl;refine⟨_,de [1,1] _ rfl,?_⟩;refine ui [0,9,10,11] rfl ?_;refine dG (d:=[]) [_,_,_] ?_;refine N [0,7,9,10,11] ?_;refine⟨d.set (ey b f g) (some (k,vx)),g+p,1,rfl,rfl,ar.1,dT _,rfl,?_,ar.2.trans A,λq af t=>?_⟩
      .rw[fE (al.ahi W)];exact W
      .by_cases Q:ey b f g=q
       .rw[<-Q,gm (by omega)]at t;injection t with t;injection t with t;subst t;exact av
       .rw[fE Q]at t;exact B q af t
     .refine kw [0,7,9,10,11] rfl (iY ?_);refine⟨d,g,p+1,rfl,rfl,al.pass aE ?_,by omega,by omega,W,A,B⟩;rw[n];have:¬(p:Int)<=(dst b (mD x a b k) (ey b f (g+p)):Nat):=ap;omega
    .rintro _ _ bi ⟨u,t2,aj,rfl,rfl,aM,aR,aJ,aH,ax,aI⟩;refine cL ?_;refine I (cU (z:=F (ey b f (t2+aj):Nat)) (te rfl rfl) (by rw[JF w (by omega),FN s (by omega),aJ])) ?_;refine N [0,7,9,10,11] ?_;exact⟨kk-1,by omega,u,t2,aj,rfl,rfl,aM,aR,by omega,by omega,aH,ax,aI⟩
   .obtain rfl:o=none:=by
     cases o with
     |none=>rfl
     |some af=>exact absurd rfl ao
    have aN:=al.done ab aB (by omega) (by rw[n];exact E);refine dI ?_;refine Y ?_;refine eu (d:=[]) (oj c z R b _ x a S (vS L b K) d) ?_;refine eL ?_;refine I (ee a6) ?_;refine I (cR (ab:=ey b f g) (ad:=P)) ?_;refine iQ (fK 2 (q:=pa c none) (y:=jT c (d.set (ey b f g) none)) (h1:=by simp[pa,c,kM,jK,Value.oneCell']) (hl:=by rw[D7];show 0+ey b f g*3+3<=_;omega) (ae:=Ld c _ (by omega))) ?_;rintro _ _ a7 rfl;refine cH [9] ?_;refine N [4,5] ?_;refine dG (d:=[]) [_,_,_] ?_;refine dP aG ?_;have aS:(eF (d.set (ey b f g) none)).length=j:=by rw[A.length_eq,<-ae.length_eq,ad]
    refine⟨rfl,_,rfl,b,d.set (ey b f g) none,⟨aC,aD,hN,hT,by rw[fy];exact aq,S,vS L b K,by rw[aS];rfl⟩,aN,A,by omega,λaf t=>?_⟩;obtain⟨q,Q⟩:=He.1 t;have aX:ey b f g≠q:=λh=>by rw[<-h,gm (by omega)]at Q;cases Q
    rw[fE aX]at Q;exact B q af Q
abbrev acK:=@sV _ _ VQ
abbrev MV:=@tE _ _ VQ
def jV:fB prog 74 5 1 1 (.int .u8 0):=.mk' underlying74 (by kernel_rfl) rfl (by decide)
def G2 (b:C Int)(a:Nat)(c:a<b.length):(iv b)[a*1]? =some (F b[a]):=by simp[iv,c]
def du (b:Nat)(a:M)(c:Nat):V:=cF b [a,F c] 64
def nj (f:O)(c:Nat)(b:M)(a:C Int)(e:Nat):Prop:=Rd f (λd=>d=c) 1 b a.length (iv a)/\a.length<=140737488355328/\e<=a.length
def MP (c a:Int)(f:1<=a): -a<c.tmod a/\c.tmod a<a:=by have e:=AP c (b:=a) (by omega);have d:=AP (-c) (b:=a) (by omega);rw[Int.neg_tmod]at d;omega
def IC (c:Int)(a:Nat)(i:O)(g:1<=a/\a<=4398046511104):Sn 35 [F c,F a] i λh e=>∃d:Nat,h=F d/\d<a/\e=[]:=by
 have f:=MP c a (by omega);refine dR func35 hS ?_;refine cB ?_;refine I (zy rfl rfl (by omega) rfl) ?_;refine cQ ?_;refine I (zy (r:=(((c.tmod a+a) % a).toNat:Nat)) rfl rfl (by omega) ?_) ?_
 .rw[Int.tmod_eq_emod_of_nonneg (by omega),rY (xx _ (by omega))]
 refine db results35 ?_;exact⟨_,rfl,by have:=AN (c.tmod a+a) (b:=(a:Int)) (by omega);have:=xx (c.tmod a+a) (b:=(a:Int)) (by omega);omega,rfl⟩
def xa (a:cG Addr)(c b:Nat)(g:O):Sn 8 [PA a c b] g λi h=>∃f,i=Z f/\h=[du f (PA a c b) 0]:=by refine dS func8 hS ?_;refine cB ?_;refine I (ee (λg=>by kernel_rfl) (q:=[(0,PA a c b)]) (n:=PE [PA a c b,F 0])) ?_;refine dK λd e=>?_;refine db results8 ?_;exact⟨_,rfl,rfl⟩
def EL {a:C Nat}{b:Nat}(d:Nat)(c:b<a.length):(dF a).take (0+b*1)++[J d]++(dF a).drop (0+b*1+1)=dF (a.set b d):=by rw[qU,cM c];simp[dF,uN,uM]
def zM (a:Nat):(madeCells (Value.int .u64 0).cells (a*1)).toList=dF (List.replicate a 0):=by
 simp only[madeCells,AK,AL,fT];have d:∀b,((Value.int .u64 0).cells)[b % (Value.int .u64 0).cells.size]! =Value.int .u64 ((0:Nat):Int):=λb=>by show(#[Value.int .u64 0]:Array M)[b % 1]! =_;rw[Nat.mod_one];rfl
 induction a with
 |zero=>rfl
 |succ a c=>rw[pL,dE,c,AY];simp only[dF,dE,dA,kD,d]
def sv (a:C U):C M:=a.map Value.string
def k7.nd {b:Type}{h:VI b}{j n:Nat}{i:C Nat}{a:Int}{e:C (U×b)}{o:V}(l:k7 h j n i a e o):(keys e).Nodup:=by obtain⟨p,k,m,c,d,f,g⟩:=l;exact(tj d).nodup_iff.1 c.nd
def k7.len {c:Type}{h:VI c}{j g:Nat}{i:C Nat}{a:Int}{e:C (U×c)}{o:V}(l:k7 h j g i a e o):e.length<=g:=by obtain⟨p,k,m,n,d,b,f⟩:=l;rw[<-d.length_eq];exact b
set_option maxRecDepth 100000 in
def Lx (d:Nat)(j:O)(c:d<256):Sn 199 [J d] j λi f=>∃h:Int,i=F h/\f=[]:=by refine dS func199 hS ?_;refine N [0,2] ?_;refine cL ?_;refine I (m6 rfl rfl) ?_;refine cH [0,2,4] ?_;refine jc rfl (λa=>absurd a (by omega)) (λ_=>?_);refine df ?_;refine I (m6 rfl rfl) ?_;refine cH [0,2,8] ?_;refine jc rfl (λa=>absurd a (by omega)) (λ_=>?_);refine df ?_;refine I (m6 rfl rfl) ?_;refine cH [0,2,14] ?_;refine jc rfl (λa=>absurd a (by omega)) (λ_=>?_);refine df ?_;refine I (BO rfl underlying23 underlying5 (by omega)) ?_;refine I (BQ rfl rfl underlying9 rfl (yR (show d<256 from c))) ?_;generalize b:UInt8.toNat _=g;have e:g<256:=b▸UInt8.toNat_lt _;clear b;refine Y ?_;refine I (BM rfl rfl) ?_;refine db results199 ?_;exact⟨_,rfl,rfl⟩
def Ce (b:Nat)(c:O)(a:b<256):Sn 151 [J b] c λg e=>∃d:Int,g=F d/\e=[]:=by refine dS func151 hS ?_;refine Ku func199 (λc f=>Lx b c a) ?_;rintro _ _ h ⟨d,rfl,rfl⟩;refine db results151 ?_;exact⟨_,rfl,rfl⟩
def acC (b:U)(d:O):Sn 311 [.string b] d λc a=>c=.bool false/\a=[]:=by refine dS func311 hS ?_;refine N [0] ?_;refine cL ?_;refine I (Gv rfl rfl) ?_;refine db results311 ?_;exact⟨by show Value.bool _=_;simp,rfl⟩
def Ly (a c:U)(b:O):Sn 286 [.string a,.string c] b λf d=>f=.bool (eI a c)/\d=[]:=by refine dR func286 hS ?_;refine Ku func311 (λb e=>acC a b) ?_;rintro _ _ g ⟨rfl,rfl⟩;refine cQ ?_;refine df ?_;refine dZ rfl rfl (PX rfl rfl) ?_;refine db results286 ?_;exact⟨rfl,rfl⟩
def EI (a:C U):(sv a).length=a.length:=by simp[sv]
def EH (a b:C U):sv (a++b)=sv a++sv b:=by simp[sv]
def HU (a d:C U)(c:U){b:Nat}(e:a.length=b):((sv (a++c::d)).drop (0+b*1)).take 1=[.string c]:=by rw[EH,AQ (by rw[EI];omega)];rfl
def Tb (a b:C U)(d e:U){c:Nat}(f:a.length=c):(sv (a++d::b)).take (0+c*1)++[.string e]++(sv (a++d::b)).drop (0+c*1+1)=sv (a++e::b):=by rw[EH,C7 (by rw[EI];omega),<-xy,AQ (by rw[EI];omega),EH];simp[sv]
def sI {a:Type}(c:C a)(b:Nat)(d:a)(e:c[b]? =some d):c.take (b+1)=c.take b++[d]:=by rw[ia,e];rfl
def Ll (r cap:Nat)(b:C U)(E:O)(h0:0<b.length)(hn:b.length<=1000000)(hs:Hl E (row (vS r b.length cap) 9 1 b.length (sv b))):Sr 280 [vS r b.length cap,F 0,F b.length] E (row (vS r b.length cap) 9 1 b.length (sv b)) λ_ y=>∃t,y=[row (vS r b.length cap) 9 1 b.length (sv t)]/\t.Perm b/\uY t:=by
 refine hJ func280 hs ?_;refine K4 [0,1,2,6] ?_;refine dB (λk X y E=>∃(f:Nat)(w:C U),X=[(0,vS r b.length cap),(1,F 0),(2,F b.length),(6,F f)]/\y=[row (vS r b.length cap) 9 1 b.length (sv (w++b.drop f))]/\w.length=f/\1<=f/\k+f=b.length/\w.Perm (b.take f)/\uY w) (b.length-1) ⟨1,b.take 1,rfl,by rw[gJ],by rw[eD];omega,by omega,by omega,cD _,by obtain⟨x,t,rfl⟩:=yZ h0;exact r4 _ _⟩ ?_;rintro k _ _ w1 ⟨f,w,rfl,rfl,Q,af,hk,h,i⟩;refine df ?_;refine I (gN rfl rfl) ?_;refine cZ (λG=>?_) λG=>?_
 .obtain⟨g,T⟩:∃g,b[f]? =some g:=⟨b[f]'(by omega),dr (by omega)⟩;have s:b.drop f=g::b.drop (f+1):=by obtain⟨L,he⟩:=da.1 T;rw[<-he,jP L]
  refine K4 [0,1,2,6,7] ?_;refine dB (λj X y E=>∃(n o:C U),X=[(0,vS r b.length cap),(1,F 0),(2,F b.length),(6,F f),(7,F j)]/\y=[row (vS r b.length cap) 9 1 b.length (sv (n++g::(o++b.drop (f+1))))]/\n.length=j/\n++o=w/\∀x∈o,eI g x=true) f ⟨w,[],rfl,by rw[s];simp,Q,by simp,by simp⟩ ?_;rintro j _ _ w2 ⟨n,o,rfl,rfl,l,e,S⟩;refine cC ?_;refine eS (λX y w'=>∃ab:Bool,X=[(0,vS r b.length cap),(1,F 0),(2,F b.length),(6,F f),(7,F j),(30,.bool ab)]/\y=[row (vS r b.length cap) 9 1 b.length (sv (n++g::(o++b.drop (f+1))))]/\(ab=true->∃c d,n=c++[d]/\eI g d=true)/\(ab=false->∀d∈n,eI g d=false)) ?_ ?_
  .by_cases u:(0:Int)<(j:Int)
   .obtain⟨c,d,rfl⟩:∃c d,n=c++[d]:=⟨n.dropLast,n.getLast (by rintro rfl;simp at l;omega),(CT _).symm⟩;have R:c.length+1=j:=by simpa using l
    have q:j<b.length:=by have:=dq List.length e;simp at this;omega
    refine kB 15 [13] λP=>?_;refine cC ?_;refine cN rfl (cU (gA rfl rfl) (dq Value.bool (gb u))) ?_;refine cQ ?_;refine fX rfl rfl rfl (cR (ab:=j) (ad:=q)) ?_;refine fX rfl rfl rfl (DV (a:=.string g) 0 rfl underlying9 rfl rfl (HU _ _ _ l)) ?_;refine cQ ?_;refine fX rfl rfl rfl (cR (ab:=c.length) (hi:=by omega)) ?_;refine fX rfl rfl rfl (DV (a:=.string d) 0 rfl underlying9 rfl rfl (by rw[dJ,nJ];exact HU c _ d rfl)) ?_;refine Og rfl rfl rfl (eB func286 (λE hh=>Ly g d E)) ?_;rintro _ _ w4 ⟨_,rfl,rfl,rfl⟩;refine⟨_,cD _,?_⟩;refine cN rfl (mC rfl rfl rfl) ?_;refine iK [0,1,2,6,7,30] ?_;refine⟨eI g d,rfl,rfl,λD=>⟨c,d,rfl,D⟩,λD z m=>?_⟩;rcases dV.1 m with m|m
    .rw[<-e]at i;have:=(mU.1 (mU.1 i).1).2.2 z m d (fI.2 rfl);exact Hu this D
    .rw[fI]at m;subst m;exact D
   .refine kB 15 [13] λP=>?_;refine cC ?_;refine cN rfl (cU (gA rfl rfl) (dq Value.bool (fL u))) ?_;refine fh ?_;refine Y ?_;refine Am rfl rfl rfl ?_;refine cN rfl (mC rfl rfl rfl) ?_;refine iK [0,1,2,6,7,30] ?_;refine⟨false,rfl,rfl,λD=>(by cases D),λ_ d hy=>?_⟩;have:n=[]:=ll (by omega);subst this;cases hy
  rintro _ _ w5 ⟨ab,rfl,rfl,K,H⟩;refine kL rfl (λp=>?_) (λp=>?_)
  .obtain⟨c,d,rfl,W⟩:=K p;have R:c.length+1=j:=by simpa using l
   have q:j<b.length:=by have:=dq List.length e;simp at this;omega
   rw[dJ,nJ];refine cQ ?_;refine mm 18 [15,17] [(_,some 15)] [] (cD _) λag=>?_;refine iq ?_;refine ew rfl (cR (ab:=c.length) (hi:=by omega)) ?_;refine ew rfl (DV (a:=.string d) 0 rfl underlying9 rfl rfl (HU c _ d rfl)) ?_;refine cC ?_;refine ew rfl (cR (ab:=j)) ?_;refine ew rfl (DV (a:=.string g) 0 rfl underlying9 rfl rfl (by have:=HU (c++[d]) (o++b.drop (f+1)) g l;rwa [dJ,nJ]at this)) ?_;refine ew rfl (cR (ab:=j)) ?_;refine jC rfl (fK 0 (q:=[.string d]) (y:=sv (c++d::d::(o++b.drop (f+1)))) (hl:=by rw[EI];simp;omega) (ae:=by have:=Tb (c++[d]) (o++b.drop (f+1)) g d l;simpa using this)) ?_;rintro _ _ ad rfl;refine⟨_,cD _,?_⟩;refine ew rfl (cR (ab:=c.length) (hi:=by omega)) ?_;refine jC rfl (fK 0 (q:=[.string g]) (y:=sv (c++g::d::(o++b.drop (f+1)))) (hl:=by rw[EI];simp;try omega) (ae:=Tb c _ d g rfl)) ?_;rintro _ _ ae rfl;refine⟨_,cD _,?_⟩;refine ir [0,1,2,6,7] ?_;refine⟨j-1,by omega,c,d::o,?_,rfl,by omega,by rw[<-e];simp,?_⟩
   .rw[show((j-1:Nat):Int)=(j:Int)-1 by omega]
   .intro x B;rcases dh.1 B with rfl|B
    .exact W
    .exact S x B
  .have A:=H (by simpa using p);refine dI ?_;refine N [0,1,2,6] ?_;refine⟨k-1,by omega,f+1,n++g::o,rfl,by simp,?_,by omega,by omega,?_,?_⟩
   .have:=dq List.length e;simp at this|-;omega
   .rw[sI b f g T];refine List.Perm.trans ?_ ((h.append_right [g]));rw[<-e,dJ];exact vX n (pK g o).symm
   .rw[<-e]at i;exact atg i A S
 .rw[gS (by omega)]at h;rw[qn (by omega),eN];refine dI ?_;refine⟨_,_,λa ha hh=>im (p:=[]) results280 rfl a ha _,gq _,?_⟩;exact⟨w,rfl,h,i⟩
def acy (c:M)(d:O):Sn 280 [c,F 0,F 0] d λ_ a=>a=[]:=by refine hJ func280 hS ?_;refine K4 [0,1,2,6] ?_;refine dB (λh i a d=>i=[(0,c),(1,F 0),(2,F 0),(6,F 1)]/\a=[]) 0 ⟨rfl,rfl⟩ ?_;rintro h _ _ j ⟨rfl,rfl⟩;refine df ?_;refine I (gN rfl rfl) ?_;refine cH [0,1,2,6,12] ?_;refine jc rfl (λf=>absurd f (by omega)) (λ_=>?_);refine dI ?_;refine⟨_,_,λe b g=>im (p:=[]) results280 rfl e b _,gq _,?_⟩;rfl
def LZ (c cap:Nat)(a:C U)(d:Int)(f:O)(h0:0<a.length)(m:a.length<=12)(i:Hl f (row (vS c a.length cap) 9 1 a.length (sv a))):Sr 244 [vS c a.length cap,F 0,F a.length,F d] f (row (vS c a.length cap) 9 1 a.length (sv a)) λ_ g=>∃b,g=[row (vS c a.length cap) 9 1 a.length (sv b)]/\b.Perm a/\uY b:=by refine sP func244 i ?_;refine K4 [0,1,2,3,8,9] ?_;refine dB (λn o g f=>o=[(0,vS c a.length cap),(1,F 0),(2,F a.length),(3,F d),(8,.bool true),(9,.bool true)]/\g=[row (vS c a.length cap) 9 1 a.length (sv a)]) 0 ⟨rfl,rfl⟩ ?_;rintro n _ _ p ⟨rfl,rfl⟩;refine N [0,1,2,3,8,9,10] ?_;refine cL ?_;refine I (wP rfl rfl) ?_;refine cH [0,1,2,3,8,9,10,23] ?_;refine jc rfl (λ_=>?_) (λk=>absurd k (by omega));refine df ?_;refine cY (row (vS c a.length cap) 9 1 a.length (sv a)) [] func280 (cD _) (λf l e=>Ll c cap a f h0 (by omega) e) ?_;rintro _ _ q ⟨b,rfl,h,j⟩;refine db results244 ?_;exact⟨b,rfl,h,j⟩
def ahC (d:M)(a:Int)(b:O):Sn 244 [d,F 0,F 0,F a] b λ_ c=>c=[]:=by refine sP func244 hS ?_;refine K4 [0,1,2,3,8,9] ?_;refine dB (λg h c b=>h=[(0,d),(1,F 0),(2,F 0),(3,F a),(8,.bool true),(9,.bool true)]/\c=[]) 0 ⟨rfl,rfl⟩ ?_;rintro g _ _ i ⟨rfl,rfl⟩;refine N [0,1,2,3,8,9,10] ?_;refine cL ?_;refine I (wP rfl rfl) ?_;refine cH [0,1,2,3,8,9,10,23] ?_;refine jc rfl (λ_=>?_) (λe=>absurd e (by omega));refine Ku func280 (λb f=>acy d b) ?_;rintro _ _ j rfl;refine db results244 ?_;rfl
def H6 (c cap:Nat)(a:C U)(d:O)(h0:0<a.length)(i:a.length<=12)(k:Hl d (row (vS c a.length cap) 9 1 a.length (sv a))):Sr 180 [vS c a.length cap] d (row (vS c a.length cap) 9 1 a.length (sv a)) λ_ m=>∃b,m=[row (vS c a.length cap) 9 1 a.length (sv b)]/\b.Perm a/\uY b:=by refine dS func180 k ?_;refine cB ?_;refine dd func151 (λd e=>Ce a.length d (by omega)) ?_;rintro _ _ o ⟨g,rfl,rfl⟩;refine cY (row (vS c a.length cap) 9 1 a.length (sv a)) [] func244 (cD _) (λd e f=>LZ c cap a g d h0 i f) ?_;rintro _ _ p ⟨b,rfl,j,l⟩;refine cH [] ?_;refine⟨_,_,λn h e=>im (p:=[]) results180 rfl n h _,gq _,?_⟩;exact⟨b,rfl,j,l⟩
def TG (e:cG Addr)(cap:Nat)(c:O):Sn 180 [PA e 0 cap] c λ_ f=>f=[]:=by refine dS func180 hS ?_;refine cB ?_;refine dd func151 (λc a=>Ce 0 c (by omega)) ?_;rintro _ _ h ⟨b,rfl,rfl⟩;refine dd func244 (λc a=>ahC _ b c) ?_;rintro _ _ i rfl;refine cH [] ?_;refine⟨_,_,λg d a=>im (p:=[]) results180 rfl g d _,gq _,?_⟩;rfl
def Sb {a:Type}(b:cG (U×a)):U:=match b with
 |none=>ByteArray.empty
 |some c=>c.1
def ahr (a:cG (U×Int)):Int:=match a with
 |none=>0
 |some b=>b.2
def ahs (a:cG (U×Nat)):Nat:=match a with
 |none=>0
 |some b=>b.2
def Pt {c:Type}{a:j5 c}{b:Nat}(d:a[b]? =some none):eF (a.take (b+1))=eF (a.take b):=by rw[ia,d,wL];simp[eF]
def Pu {b:Type}{a:j5 b}{c:Nat}{d:U×b}(e:a[c]? =some (some d)):eF (a.take (c+1))=eF (a.take c)++[d]:=by rw[ia,e,wL];simp[eF]
def Pr {b:Type}(a:j5 b)(c:Nat):(eF (a.take c)).length<=(eF a).length:=by
 conv=>rhs;rw[<-gJ c a,wL,cX]
 exact uP _ _
def acb (A L:Nat)(S:C Nat)(d:Int)(P:C (U×Int))(T:V)(r:O)(ae:L<=12)(hr:k7 kM A L S d P T)(hs:Hl r T):Sr 356 [Z A] r T λu v=>∃o,v=[row u 9 1 o.length (sv o),T]/\o.Perm (keys P)/\gd o:=by
 obtain⟨e,a,hC,hI,hM,aj,am⟩:=hr;obtain⟨ak,al,hN,hT,ai,y,cV,rfl⟩:=id hC;refine dS func356 hs ?_;refine N [0] ?_;refine cL ?_;refine I (gB rfl rfl underlying406) ?_;refine cH [0,7] ?_;refine N [0,3] ?_;refine cC ?_;refine eQ λb=>?_;obtain⟨B,f,h⟩:=nB b (s:=0) (t:=2) rfl rfl;subst h;clear b;refine NX 0 0 ?_;refine N [3,11,12,13] ?_;refine Y ?_;refine gh 9 1 ?_;refine dB (λk K v r=>∃(z:M)(c:Nat),K=[(3,z),(11,vS B e f),(12,F e),(13,F c)]/\v=[row z 9 1 (keys (eF (a.take c))).length (sv (keys (eF (a.take c)))),cz (oj kM A L e (eF a).length S d y (vS B e f) a)]/\k+c=e) e ⟨_,0,rfl,rfl,rfl⟩ ?_;rintro k _ _ w5 ⟨z,c,rfl,rfl,hk⟩;refine cC ?_;refine I (gN rfl rfl) ?_;refine cZ (λi=>?_) λi=>?_
 .have w:c<e:=by have:(c:Int)<(e:Int):=i;omega
  obtain⟨p,x⟩:∃p,a[c]? =some p:=⟨_,dr (by omega)⟩;have m:(keys (eF (a.take c))).length<=12:=by have:=Pr a c;rw[keys,dL];omega
  refine cC ?_;refine eS (λK v r=>∃q:M,K=[(3,q),(11,vS B e f),(12,F e),(13,F c)]/\v=[row q 9 1 (keys (eF (a.take (c+1)))).length (sv (keys (eF (a.take (c+1))))),cz (oj kM A L e (eF a).length S d y (vS B e f) a)]) ?_ ?_
  .refine cQ ?_;refine I (cR (ab:=c) (ad:=w)) ?_;refine I (qN 1 2 (b:=[.bool p.isSome,.string (Sb p),F (ahr p)]) (hv:=by have:=GV kM x;cases p<;>exact this)) ?_;refine dj [.bool false,vE,F 0] λab af=>?_;refine cO 0 λag=>?_;refine fP (λl=>?_) λl=>?_
   .obtain⟨W,rfl⟩:∃W,p=some W:=Db.1 l;have D:keys (eF (a.take (c+1)))=keys (eF (a.take c))++[W.1]:=by rw[Pu x];simp[keys]
    refine cL ?_;refine gZ Cy λad ah=>?_;refine dw (jo 2 Cy) ?_;rintro v2 _ w8 ⟨_,rfl⟩;refine Y ?_;refine fu [2,2] ?_;refine cH [3,11,12,13] ?_;exact⟨v2,rfl,by rw[D,cX,EH];rfl⟩
   .obtain rfl:p=none:=by
     cases p with
     |none=>rfl
     |some W=>exact absurd rfl l
    refine IA ?_;refine kw [3,11,12,13] rfl (iY ?_);exact⟨z,rfl,by rw[Pt x]⟩
  .rintro _ _ w9 ⟨q,rfl,rfl⟩;refine N [3,11,12,13] ?_;exact⟨k-1,by omega,q,c+1,rfl,rfl,by omega⟩
 .have w:c=e:=by have:¬(c:Int)<(e:Int):=i;omega
  subst w;rw[gS (by omega)];have m:(keys (eF a)).length<=12:=by rw[keys,dL];omega
  have n:(keys (eF a)).Nodup:=hI.nd;have s:(keys (eF a)).Perm (keys P):=tj hM;generalize hL:keys (eF a)=R at m n s;refine dI ?_;refine Y ?_;refine eS (λK v r=>∃o,K=[(3,z)]/\v=[row z 9 1 o.length (sv o),cz (oj kM A L c (eF a).length S d y (vS B c f) a)]/\o.Perm R/\uY o) ?_ ?_
  .by_cases h0:0<R.length
   .refine eQ λb=>?_;obtain⟨g2,g,h⟩:=fs b (q:=0) rfl h0;subst h;clear b;refine kj ?_;refine Pw 0 func180 (λr b G=>H6 g2 g R r h0 m G) ?_;rintro _ _ Q ⟨l',rfl,E,hw⟩;refine cH [3] ?_;exact⟨l',rfl,by rw[E.length_eq];rfl,E,hw⟩
   .obtain rfl:R=[]:=Jk.1 (by omega);refine eQ λb=>?_;obtain⟨X,g,h⟩:=fS b (p:=0) rfl;subst h;clear b;refine kj ?_;refine Ku func180 (λr b=>TG X g r) ?_;rintro _ _ Q rfl;refine cH [3] ?_;exact⟨[],rfl,rfl,cD _,List.Pairwise.nil⟩
  rintro _ _ an ⟨o,rfl,rfl,t,H⟩;refine db results356 ?_;exact⟨o,rfl,t.trans s,M4 H (t.nodup_iff.2 n)⟩
def asP (A L:Nat)(S:C Nat)(d:Int)(P:C (U×Nat))(T:V)(r:O)(ae:L<=12)(hr:k7 jK A L S d P T)(hs:Hl r T):Sr 405 [Z A] r T λu v=>∃o,v=[row u 9 1 o.length (sv o),T]/\o.Perm (keys P)/\gd o:=by
 obtain⟨e,a,hC,hI,hM,aj,am⟩:=hr;obtain⟨ak,al,hN,hT,ai,y,cV,rfl⟩:=id hC;refine dS func405 hs ?_;refine N [0] ?_;refine cL ?_;refine I (gB rfl rfl underlying415) ?_;refine cH [0,7] ?_;refine N [0,3] ?_;refine cC ?_;refine eQ λb=>?_;obtain⟨B,f,h⟩:=nB b (s:=0) (t:=2) rfl rfl;subst h;clear b;refine NX 0 0 ?_;refine N [3,11,12,13] ?_;refine Y ?_;refine gh 9 1 ?_;refine dB (λk K v r=>∃(z:M)(c:Nat),K=[(3,z),(11,vS B e f),(12,F e),(13,F c)]/\v=[row z 9 1 (keys (eF (a.take c))).length (sv (keys (eF (a.take c)))),cz (oj jK A L e (eF a).length S d y (vS B e f) a)]/\k+c=e) e ⟨_,0,rfl,rfl,rfl⟩ ?_;rintro k _ _ w5 ⟨z,c,rfl,rfl,hk⟩;refine cC ?_;refine I (gN rfl rfl) ?_;refine cZ (λi=>?_) λi=>?_
 .have w:c<e:=by have:(c:Int)<(e:Int):=i;omega
  obtain⟨p,x⟩:∃p,a[c]? =some p:=⟨_,dr (by omega)⟩;have m:(keys (eF (a.take c))).length<=12:=by have:=Pr a c;rw[keys,dL];omega
  refine cC ?_;refine eS (λK v r=>∃q:M,K=[(3,q),(11,vS B e f),(12,F e),(13,F c)]/\v=[row q 9 1 (keys (eF (a.take (c+1)))).length (sv (keys (eF (a.take (c+1))))),cz (oj jK A L e (eF a).length S d y (vS B e f) a)]) ?_ ?_
  .refine cQ ?_;refine I (cR (ab:=c) (ad:=w)) ?_;refine I (qN 1 2 (b:=[.bool p.isSome,.string (Sb p),J (ahs p:Nat)]) (hv:=by have:=GV jK x;cases p<;>exact this)) ?_;refine dj [.bool false,vE,J 0] λab af=>?_;refine cO 0 λag=>?_;refine fP (λl=>?_) λl=>?_
   .obtain⟨W,rfl⟩:∃W,p=some W:=Db.1 l;have D:keys (eF (a.take (c+1)))=keys (eF (a.take c))++[W.1]:=by rw[Pu x];simp[keys]
    refine cL ?_;refine gZ Cy λad ah=>?_;refine dw (jo 2 Cy) ?_;rintro v2 _ w8 ⟨_,rfl⟩;refine Y ?_;refine fu [2,2] ?_;refine cH [3,11,12,13] ?_;exact⟨v2,rfl,by rw[D,cX,EH];rfl⟩
   .obtain rfl:p=none:=by
     cases p with
     |none=>rfl
     |some W=>exact absurd rfl l
    refine IA ?_;refine kw [3,11,12,13] rfl (iY ?_);exact⟨z,rfl,by rw[Pt x]⟩
  .rintro _ _ w9 ⟨q,rfl,rfl⟩;refine N [3,11,12,13] ?_;exact⟨k-1,by omega,q,c+1,rfl,rfl,by omega⟩
 .have w:c=e:=by have:¬(c:Int)<(e:Int):=i;omega
  subst w;rw[gS (by omega)];have m:(keys (eF a)).length<=12:=by rw[keys,dL];omega
  have n:(keys (eF a)).Nodup:=hI.nd;have s:(keys (eF a)).Perm (keys P):=tj hM;generalize hL:keys (eF a)=R at m n s;refine dI ?_;refine Y ?_;refine eS (λK v r=>∃o,K=[(3,z)]/\v=[row z 9 1 o.length (sv o),cz (oj jK A L c (eF a).length S d y (vS B c f) a)]/\o.Perm R/\uY o) ?_ ?_
  .by_cases h0:0<R.length
   .refine eQ λb=>?_;obtain⟨g2,g,h⟩:=fs b (q:=0) rfl h0;subst h;clear b;refine kj ?_;refine Pw 0 func180 (λr b G=>H6 g2 g R r h0 m G) ?_;rintro _ _ Q ⟨l',rfl,E,hw⟩;refine cH [3] ?_;exact⟨l',rfl,by rw[E.length_eq];rfl,E,hw⟩
   .obtain rfl:R=[]:=Jk.1 (by omega);refine eQ λb=>?_;obtain⟨X,g,h⟩:=fS b (p:=0) rfl;subst h;clear b;refine kj ?_;refine Ku func180 (λr b=>TG X g r) ?_;rintro _ _ Q rfl;refine cH [3] ?_;exact⟨[],rfl,rfl,cD _,List.Pairwise.nil⟩
  rintro _ _ an ⟨o,rfl,rfl,t,H⟩;refine db results405 ?_;exact⟨o,rfl,t.trans s,M4 H (t.nodup_iff.2 n)⟩
def pf (a:Int)(b:C Nat):Bool:=decide (0<=a)&&b.contains a.toNat
def zI {a:Int}{b:C Nat}(c:pf a b=true):∃d:Nat,a=d/\d∈b:=by simp only[pf,iu,fU,List.contains_iff_mem]at c;exact⟨a.toNat,by omega,c.2⟩
def D9 {b:Nat}{a:C Nat}:pf (b:Int) a=a.contains b:=by simp[pf]
set_option maxRecDepth 100000 in
def VM:(∀(m s:Nat)(l:C (Nat×_))(h:V)(a:Int)(t:O)(q:iZ fD m s l h)(r:Hl t h),Sr 384 [Z m,F a] t h λad Q=>ad=.bool (pf a (c4 l))/\Q=[h])/\(∀(m s:Nat)(l:C (Nat×_))(h:V)(a:Int)(t:O)(q:iZ eT m s l h)(r:Hl t h),Sr 383 [Z m,F a] t h λad Q=>ad=.bool (pf a (c4 l))/\Q=[h]):=by
 refine⟨fa @results384 (fa @underlying452 (oX fD (fa @func384 ?_))),fa @results383 (fa @underlying449 (oX eT (fa @func383 ?_)))⟩
 all_goals
  intro D n _ E G m s l h a t q r;obtain⟨ab,w,y,A,b,x,z,B,rfl,P⟩:=q;refine dR D r ?_;refine eu (jE n m s l ab w y A b x z B) ?_;refine eQ λf=>?_;obtain⟨af,R,rfl⟩:=fS f (p:=1) rfl;clear f;refine N [0,1] ?_;refine cQ ?_;refine I (zx rfl rfl E) ?_;refine Y ?_;refine oV (H:=2) (A:=decide (0<=a)) 2 [(0,_),(1,_)] ⟨rfl,rfl,trivial⟩ rfl rfl rfl rfl rfl (λH=>?_) (λae=>?_)
  .refine Y ?_;refine dZ rfl rfl (m6 rfl rfl) ?_;exact iy
  refine Y ?_;refine oV (H:=6) (A:=decide (a<(b.length:Int))) 7 [(0,_),(1,_)] ⟨rfl,rfl,trivial⟩ rfl rfl rfl rfl rfl (λv=>?_) (λK=>?_)
  .refine eL ?_;refine dZ rfl rfl (gN rfl rfl) ?_;exact iy
  refine Y ?_;refine oV (H:=15) (A:=b.getD a.toNat false) 7 [] trivial rfl rfl rfl rfl rfl (λd=>?_) (λL=>?_)
  .refine df ?_;simp only[iu,fU]at d;obtain⟨u,rfl⟩:∃u:Nat,a=u:=⟨a.toNat,by omega⟩;refine kq λf=>?_;obtain⟨g,cap,e⟩:=fs f (q:=1) rfl;injection e with S _ T;subst S;subst T;clear f;refine dZ rfl rfl (cR (ab:=u)) ?_;refine dZ rfl rfl (cU (z:=.bool (b.getD ((u:Int).toNat) false)) (gj 1 (n:=.bool (b.getD u false)) (hv:=sw Value.bool (by simp[show u<b.length by omega]))) (by simp)) ?_;exact iy
  refine N [4] ?_;refine dG (d:=[]) (jE n m s l (PA af b.length R) w y A b x z B) ?_;refine dP G ?_;refine⟨?_,rfl⟩;have W:=P.us a.toNat;have X:(c4 l).contains a.toNat=b.getD a.toNat false:=by
   rw[CQ,List.contains_iff_mem,<-W];simp only[jM];cases b[a.toNat]?with
   |none=>simp
   |some c=>simp
  have k:a.toNat<b.length\/b.getD a.toNat false=false:=by
   rcases np a.toNat b.length with o|o
   .exact .inl o
   .exact .inr (by simp[nZ o])
  show Value.bool _=_;simp only[pf,X];congr 1;rw[CQ];simp only[iu,fU,Option.isSome];rcases k with k|k
  .constructor
   .rintro⟨⟨⟨_,o⟩,_⟩,p⟩;exact⟨o,p⟩
   .rintro⟨o,p⟩;exact⟨⟨⟨trivial,o⟩,by omega⟩,p⟩
  .rw[k];simp
abbrev QM:=@sV _ _ VM
abbrev Dp:=@tE _ _ VM
def Nf {e:Type}(m:VK e)(n k:Nat)(f:C (Nat×e))(l:Nat)(o:V):Prop:=∃i g h j a b c d,o=cz (jE m n k f i g h j a b c d)/\kN k f a b c d/\l<a.length/\uH (c4 f) l
def N9 (b:C Bool)(a:Bool):m3 (b++[a])=m3 b++[.bool a]:=by simp[m3]
def G1 (b:C Int)(a:Int):iv (b++[a])=iv b++[F a]:=by simp[iv]
def U3 {a:Type}(b:VK a)(d:C a)(c:a):iP b (d++[c])=iP b d++b.cells c:=by simp[iP]
def ab9 (A D:Nat)(B:C (Nat×_))(r:V)(L:O)(hn:D<=8192)(hl:B.length<D)(ai:iZ fD A D B r)(aj:Hl L r):Sr 388 [Z A] L r λv Q=>∃(x:Nat)(S:V),v=F x/\Q=[S]/\Nf fD A D B x S:=by
 obtain⟨uV,H,K,q,a,f,i,l,rfl,d⟩:=ai;have ao:=d.le;refine dS func388 aj ?_;refine eu (jE fD A D B uV H K q a f i l) ?_;refine eQ λc=>?_;obtain⟨an,E,rfl⟩:=fS c (p:=1) rfl;clear c;refine K4 [0,8,9,10] ?_;refine dB (λk m Q L=>∃n:Nat,m=[(0,Z A),(8,PA an a.length E),(9,F a.length),(10,F n)]/\Q=jE fD A D B (PA an a.length E) H K q a f i l/\k+n=a.length/\∀j<n,a[j]? =some true) a.length ⟨0,rfl,rfl,by omega,by omega⟩ ?_;rintro k _ _ w1 ⟨n,rfl,rfl,hk,b⟩;refine cC ?_;refine I (gN rfl rfl) ?_;refine cZ (λR=>?_) λR=>?_
 .have p:n<a.length:=by omega
  refine eL ?_;refine kq λc=>?_;obtain⟨g,cap,e⟩:=fs c (q:=1) rfl;injection e with af _ ag;subst af;subst ag;clear c;refine I (cR (ab:=n) (ad:=p)) ?_;refine I (gj 1 (n:=.bool a[n]) (hv:=sw Value.bool (dr p))) ?_;refine N [0,3,4,8,9,10] ?_;refine cQ ?_;refine I (jl rfl rfl) ?_;refine fP (λo=>?_) λo=>?_
  .have G:a[n]=false:=by simpa using o
   refine N [2] ?_;refine dG (d:=[]) (jE fD A D B (vS g a.length E) H K q a f i l) ?_;refine dP results388 ?_;exact⟨n,_,rfl,rfl,_,_,_,_,a,f,i,l,rfl,d,p,d.fresh (by rw[dr p,G];simp) b⟩
  .have G:a[n]=true:=by simpa using o
   refine N [0,8,9,10] ?_;refine⟨k-1,by omega,n+1,rfl,rfl,by omega,λj ah=>?_⟩;rcases o4 (wj ah)with h|rfl
   .exact b j h
   .rw[dr p,G]
 .obtain rfl:n=a.length:=by omega
  have W:=d.full b;refine dI ?_;refine Y ?_;refine eS (λm Q w'=>∃(u s t:cG Addr)(w y z:Nat),m=[(0,Z A)]/\
  Q=[cF A [F D,F B.length,F (dC (-1) (c4 B)),F (dC (-1) (c4 B).reverse),PA u (a.length+1) w,PA s (a.length+1) y,PA t (a.length+1) z,q] (fD).list,row (PA u (a.length+1) w) 4 1 (a.length+1) (m3 (a++[false])),row (PA s (a.length+1) y) 3 1 (a.length+1) (iv (f++[-1])),row (PA t (a.length+1) z) 3 1 (a.length+1) (iv (i++[-1])),row q (fD).elem (fD).sz a.length (iP fD l)]) ?_ ?_
  .refine U8 (.fl 0 (.fl 1 (.fl 2 (.fl 3 (.fl 4 (.fl 5 (.fl 6 (.fl 9 (.fl 10 (.fl 11 (.fl 12 (.fl 15 (.fl 16 (.fl 17 (.fl 18 (.three 7 (.three 8 (.two 13 (.two 14 (.ef 19 (.ef 20 (.fl 21 (.fl 22 (.ef 23 (.fl 24 (.fl 25 (.ef 26 (.fl 27 (.fl 28 (.ef 29 .done))))))))))) 19 (.ef 14 (.ef 20 (.fl 21 (.fl 22 (.ef 23 (.fl 24 (.fl 25 (.ef 26 (.fl 27 (.fl 28 (.ef 29 .done)))))))))))) 19 (.ef 13 (.ef 14 (.ef 20 (.fl 21 (.fl 22 (.ef 23 (.fl 24 (.fl 25 (.ef 26 (.fl 27 (.fl 28 (.ef 29 .done))))))))))))) 13 (.two 8 (.two 14 (.ef 19 (.ef 20 (.fl 21 (.fl 22 (.ef 23 (.fl 24 (.fl 25 (.ef 26 (.fl 27 (.fl 28 (.ef 29 .done))))))))))) 19 (.ef 14 (.ef 20 (.fl 21 (.fl 22 (.ef 23 (.fl 24 (.fl 25 (.ef 26 (.fl 27 (.fl 28 (.ef 29 .done)))))))))))) 19 (.ef 8 (.ef 14 (.ef 20 (.fl 21 (.fl 22 (.ef 23 (.fl 24 (.fl 25 (.ef 26 (.fl 27 (.fl 28 (.ef 29 .done))))))))))))) 19 (.two 8 (.ef 13 (.ef 14 (.ef 20 (.fl 21 (.fl 22 (.ef 23 (.fl 24 (.fl 25 (.ef 26 (.fl 27 (.fl 28 (.ef 29 .done)))))))))))) 13 (.ef 8 (.ef 14 (.ef 20 (.fl 21 (.fl 22 (.ef 23 (.fl 24 (.fl 25 (.ef 26 (.fl 27 (.fl 28 (.ef 29 .done)))))))))))))) 13 (.two 7 (.two 8 (.two 14 (.ef 19 (.ef 20 (.fl 21 (.fl 22 (.ef 23 (.fl 24 (.fl 25 (.ef 26 (.fl 27 (.fl 28 (.ef 29 .done))))))))))) 19 (.ef 14 (.ef 20 (.fl 21 (.fl 22 (.ef 23 (.fl 24 (.fl 25 (.ef 26 (.fl 27 (.fl 28 (.ef 29 .done)))))))))))) 19 (.ef 8 (.ef 14 (.ef 20 (.fl 21 (.fl 22 (.ef 23 (.fl 24 (.fl 25 (.ef 26 (.fl 27 (.fl 28 (.ef 29 .done))))))))))))) 19 (.ef 7 (.ef 8 (.ef 14 (.ef 20 (.fl 21 (.fl 22 (.ef 23 (.fl 24 (.fl 25 (.ef 26 (.fl 27 (.fl 28 (.ef 29 .done)))))))))))))) 19 (.two 7 (.two 8 (.ef 13 (.ef 14 (.ef 20 (.fl 21 (.fl 22 (.ef 23 (.fl 24 (.fl 25 (.ef 26 (.fl 27 (.fl 28 (.ef 29 .done)))))))))))) 13 (.ef 8 (.ef 14 (.ef 20 (.fl 21 (.fl 22 (.ef 23 (.fl 24 (.fl 25 (.ef 26 (.fl 27 (.fl 28 (.ef 29 .done))))))))))))) 13 (.ef 7 (.ef 8 (.ef 14 (.ef 20 (.fl 21 (.fl 22 (.ef 23 (.fl 24 (.fl 25 (.ef 26 (.fl 27 (.fl 28 (.ef 29 .done)))))))))))))))))))))))))))))) ([(_,some 23)]) ([_,_,_,_]) lN (by kernel_rfl) (by kernel_rfl) rfl rfl (cD _) (λT=>?_)
   repeat' first
    |refine Y ?_
    |((first|refine Vr ?_|refine Vt ?_ ?_|refine Vs ?_ ?_ ?_)<;>first
     |(refine G5 rfl (qi (by first|exact Ik|exact mj)) ?_;rintro _ _ L ⟨_,rfl,rfl⟩;refine⟨_,eg.symm,?_⟩)
     |(refine G5 rfl (Vx (by first|exact Ik|exact mj)) ?_;rintro _ _ L ⟨⟨_,_,rfl⟩,rfl⟩;refine⟨_,cD _,?_⟩)
     |(refine Rj rfl (gD 0) ?_;rintro _ _ L rfl;refine⟨_,(by first|exact cD _|exact de [] _ rfl),?_⟩))
    |(refine VB [0] [0,3,3,3,3] ?_;exact⟨_,_,_,_,_,_,rfl,by rw[N9,G1,G1];rfl⟩)
  rintro _ _ T ⟨u,s,t,w,y,z,rfl,rfl⟩;refine Y ?_;refine mm 13 [5,7,8,9,12] [(_,some 12)] [_,_,_,_] (cD _) λap=>?_;refine df ?_;refine gY rfl (JD (F 0)) ?_;rintro _ _ ak ⟨ad,rfl,rfl⟩;refine⟨_,eg.symm,?_⟩;refine Y ?_;refine gY rfl (dH 1).Pb ?_;rintro _ _ _ ⟨rfl,rfl⟩;refine⟨_,cD _,?_⟩;refine gY rfl (qi mj) ?_;rintro _ _ al ⟨ae,rfl,rfl⟩;refine⟨_,eg.symm,?_⟩;refine gY rfl (jo 6 mj (hr:=λL c=>Rd.dM c (l:=1) rfl)) ?_;rintro _ _ am ⟨⟨P,ab,rfl⟩,rfl⟩;refine⟨_,cD _,?_⟩;refine cC ?_;refine jC rfl (gD 0) ?_;rintro _ _ X rfl;refine⟨_,cD _,?_⟩;refine sQ [0] [0,2,2,2,2] ?_;refine N [2] ?_;refine dG (d:=[]) [_,_,_,_,_] ?_;refine dP results388 ?_;refine⟨a.length,_,?_,rfl,PA u (a.length+1) w,PA s (a.length+1) y,PA t (a.length+1) z,PA P (a.length+1) ab,a++[false],f++[-1],i++[-1],l++[(fD).zero],?_,d.more (by omega) _ _ _,by simp,d.fresh (by simp) b⟩
  .show Value.int .i64 _=_;congr 1;omega
  .rw[jE,cX,U3];rfl
def Xv (A D:Nat)(B:C (Nat×_))(r:V)(L:O)(hn:D<=8192)(hl:B.length<D)(ai:iZ eT A D B r)(aj:Hl L r):Sr 387 [Z A] L r λv Q=>∃(x:Nat)(S:V),v=F x/\Q=[S]/\Nf eT A D B x S:=by
 obtain⟨uV,H,K,q,a,f,i,l,rfl,d⟩:=ai;have ao:=d.le;refine dS func387 aj ?_;refine eu (jE eT A D B uV H K q a f i l) ?_;refine eQ λc=>?_;obtain⟨an,E,rfl⟩:=fS c (p:=1) rfl;clear c;refine K4 [0,8,9,10] ?_;refine dB (λk m Q L=>∃n:Nat,m=[(0,Z A),(8,PA an a.length E),(9,F a.length),(10,F n)]/\Q=jE eT A D B (PA an a.length E) H K q a f i l/\k+n=a.length/\∀j<n,a[j]? =some true) a.length ⟨0,rfl,rfl,by omega,by omega⟩ ?_;rintro k _ _ w1 ⟨n,rfl,rfl,hk,b⟩;refine cC ?_;refine I (gN rfl rfl) ?_;refine cZ (λR=>?_) λR=>?_
 .have p:n<a.length:=by omega
  refine eL ?_;refine kq λc=>?_;obtain⟨g,cap,e⟩:=fs c (q:=1) rfl;injection e with af _ ag;subst af;subst ag;clear c;refine I (cR (ab:=n) (ad:=p)) ?_;refine I (gj 1 (n:=.bool a[n]) (hv:=sw Value.bool (dr p))) ?_;refine N [0,3,4,8,9,10] ?_;refine cQ ?_;refine I (jl rfl rfl) ?_;refine fP (λo=>?_) λo=>?_
  .have G:a[n]=false:=by simpa using o
   refine N [2] ?_;refine dG (d:=[]) (jE eT A D B (vS g a.length E) H K q a f i l) ?_;refine dP results387 ?_;exact⟨n,_,rfl,rfl,_,_,_,_,a,f,i,l,rfl,d,p,d.fresh (by rw[dr p,G];simp) b⟩
  .have G:a[n]=true:=by simpa using o
   refine N [0,8,9,10] ?_;refine⟨k-1,by omega,n+1,rfl,rfl,by omega,λj ah=>?_⟩;rcases o4 (wj ah)with h|rfl
   .exact b j h
   .rw[dr p,G]
 .obtain rfl:n=a.length:=by omega
  have W:=d.full b;refine dI ?_;refine Y ?_;refine eS (λm Q w'=>∃(u s t:cG Addr)(w y z:Nat),m=[(0,Z A)]/\
  Q=[cF A [F D,F B.length,F (dC (-1) (c4 B)),F (dC (-1) (c4 B).reverse),PA u (a.length+1) w,PA s (a.length+1) y,PA t (a.length+1) z,q] (eT).list,row (PA u (a.length+1) w) 4 1 (a.length+1) (m3 (a++[false])),row (PA s (a.length+1) y) 3 1 (a.length+1) (iv (f++[-1])),row (PA t (a.length+1) z) 3 1 (a.length+1) (iv (i++[-1])),row q (eT).elem (eT).sz a.length (iP eT l)]) ?_ ?_
  .refine U8 (.fl 0 (.fl 1 (.fl 2 (.fl 3 (.fl 4 (.fl 5 (.fl 6 (.fl 9 (.fl 10 (.fl 11 (.fl 12 (.fl 15 (.fl 16 (.fl 17 (.fl 18 (.three 7 (.three 8 (.two 13 (.two 14 (.ef 19 (.ef 20 (.fl 21 (.fl 22 (.ef 23 (.fl 24 (.fl 25 (.ef 26 (.fl 27 (.fl 28 (.ef 29 .done))))))))))) 19 (.ef 14 (.ef 20 (.fl 21 (.fl 22 (.ef 23 (.fl 24 (.fl 25 (.ef 26 (.fl 27 (.fl 28 (.ef 29 .done)))))))))))) 19 (.ef 13 (.ef 14 (.ef 20 (.fl 21 (.fl 22 (.ef 23 (.fl 24 (.fl 25 (.ef 26 (.fl 27 (.fl 28 (.ef 29 .done))))))))))))) 13 (.two 8 (.two 14 (.ef 19 (.ef 20 (.fl 21 (.fl 22 (.ef 23 (.fl 24 (.fl 25 (.ef 26 (.fl 27 (.fl 28 (.ef 29 .done))))))))))) 19 (.ef 14 (.ef 20 (.fl 21 (.fl 22 (.ef 23 (.fl 24 (.fl 25 (.ef 26 (.fl 27 (.fl 28 (.ef 29 .done)))))))))))) 19 (.ef 8 (.ef 14 (.ef 20 (.fl 21 (.fl 22 (.ef 23 (.fl 24 (.fl 25 (.ef 26 (.fl 27 (.fl 28 (.ef 29 .done))))))))))))) 19 (.two 8 (.ef 13 (.ef 14 (.ef 20 (.fl 21 (.fl 22 (.ef 23 (.fl 24 (.fl 25 (.ef 26 (.fl 27 (.fl 28 (.ef 29 .done)))))))))))) 13 (.ef 8 (.ef 14 (.ef 20 (.fl 21 (.fl 22 (.ef 23 (.fl 24 (.fl 25 (.ef 26 (.fl 27 (.fl 28 (.ef 29 .done)))))))))))))) 13 (.two 7 (.two 8 (.two 14 (.ef 19 (.ef 20 (.fl 21 (.fl 22 (.ef 23 (.fl 24 (.fl 25 (.ef 26 (.fl 27 (.fl 28 (.ef 29 .done))))))))))) 19 (.ef 14 (.ef 20 (.fl 21 (.fl 22 (.ef 23 (.fl 24 (.fl 25 (.ef 26 (.fl 27 (.fl 28 (.ef 29 .done)))))))))))) 19 (.ef 8 (.ef 14 (.ef 20 (.fl 21 (.fl 22 (.ef 23 (.fl 24 (.fl 25 (.ef 26 (.fl 27 (.fl 28 (.ef 29 .done))))))))))))) 19 (.ef 7 (.ef 8 (.ef 14 (.ef 20 (.fl 21 (.fl 22 (.ef 23 (.fl 24 (.fl 25 (.ef 26 (.fl 27 (.fl 28 (.ef 29 .done)))))))))))))) 19 (.two 7 (.two 8 (.ef 13 (.ef 14 (.ef 20 (.fl 21 (.fl 22 (.ef 23 (.fl 24 (.fl 25 (.ef 26 (.fl 27 (.fl 28 (.ef 29 .done)))))))))))) 13 (.ef 8 (.ef 14 (.ef 20 (.fl 21 (.fl 22 (.ef 23 (.fl 24 (.fl 25 (.ef 26 (.fl 27 (.fl 28 (.ef 29 .done))))))))))))) 13 (.ef 7 (.ef 8 (.ef 14 (.ef 20 (.fl 21 (.fl 22 (.ef 23 (.fl 24 (.fl 25 (.ef 26 (.fl 27 (.fl 28 (.ef 29 .done)))))))))))))))))))))))))))))) ([(_,some 23)]) ([_,_,_,_]) lN (by kernel_rfl) (by kernel_rfl) rfl rfl (cD _) (λT=>?_)
   repeat' first
    |refine Y ?_
    |((first|refine Vr ?_|refine Vt ?_ ?_|refine Vs ?_ ?_ ?_)<;>first
     |(refine G5 rfl (qi (by first|exact Ik|exact mj)) ?_;rintro _ _ L ⟨_,rfl,rfl⟩;refine⟨_,eg.symm,?_⟩)
     |(refine G5 rfl (Vx (by first|exact Ik|exact mj)) ?_;rintro _ _ L ⟨⟨_,_,rfl⟩,rfl⟩;refine⟨_,cD _,?_⟩)
     |(refine Rj rfl (gD 0) ?_;rintro _ _ L rfl;refine⟨_,(by first|exact cD _|exact de [] _ rfl),?_⟩))
    |(refine VB [0] [0,3,3,3,3] ?_;exact⟨_,_,_,_,_,_,rfl,by rw[N9,G1,G1];rfl⟩)
  rintro _ _ T ⟨u,s,t,w,y,z,rfl,rfl⟩;refine Y ?_;refine mm 13 [5,7,8,9,12] [(_,some 12)] [_,_,_,_] (cD _) λap=>?_;refine df ?_;refine gY rfl (mP [J 0,vQ]) ?_;rintro _ _ ak ⟨ad,rfl,rfl⟩;refine⟨_,eg.symm,?_⟩;refine Y ?_;refine gY rfl (di 1 (b:=[_,_])).Pb ?_;rintro _ _ _ ⟨rfl,rfl⟩;refine⟨_,cD _,?_⟩;refine gY rfl (qi Um) ?_;rintro _ _ al ⟨ae,rfl,rfl⟩;refine⟨_,eg.symm,?_⟩;refine gY rfl (jo 6 Um (hr:=λL c=>Rd.dM c (l:=1) rfl)) ?_;rintro _ _ am ⟨⟨P,ab,rfl⟩,rfl⟩;refine⟨_,cD _,?_⟩;refine cC ?_;refine jC rfl (gD 0) ?_;rintro _ _ X rfl;refine⟨_,cD _,?_⟩;refine sQ [0] [0,2,2,2,2] ?_;refine N [2] ?_;refine dG (d:=[]) [_,_,_,_,_] ?_;refine dP results387 ?_;refine⟨a.length,_,?_,rfl,PA u (a.length+1) w,PA s (a.length+1) y,PA t (a.length+1) z,PA P (a.length+1) ab,a++[false],f++[-1],i++[-1],l++[(eT).zero],?_,d.more (by omega) _ _ _,by simp,d.fresh (by simp) b⟩
  .show Value.int .i64 _=_;congr 1;omega
  .rw[jE,cX,U3];rfl
def yj {a:C Nat}(b:dC (-1) a= -1):a=[]:=by
 cases a with
 |nil=>rfl
 |cons c d=>simp only[dC]at b;omega
def yi {a:C Nat}(d:¬dC (-1) a= -1):∃b c,a=b::c:=by
 cases a with
 |nil=>exact absurd rfl d
 |cons b c=>exact⟨b,c,rfl⟩
def yC {c:C Int}{a f:C Nat}{b:Nat}{d:Int}(e:a.reverse=b::f):lO c a d=c.set b d:=by unfold lO;rw[e]
def aca (x v:Nat)(c d:C (Nat×(Int)))(l:Int)(r:V)(w:O)(hn:v<=8192)(P:iZ fD x v (c++d) r)(T:Hl w r):
 Sr 386 [Z x,F (dC (-1) (c4 c).reverse),F (dC (-1) (c4 d)),(fD).val l] w r λu H=>
  ((c++d).length=v/\u=.tuple #[F 0,F 7]/\H=[r])\/((c++d).length≠v/\∃(b:Nat)(ag:V),uH (c4 (c++d)) b/\u=.tuple #[F b,F 0]/\H=[ag]/\iZ fD x v (c++(b,l)::d) ag):=by
 obtain⟨ah,ab,ae,ai,k,ad,af,vs,rfl,X⟩:=id P
 have am:=X.le
 have an:=X.len
 refine sP func386 T ?_
 refine eu (jE fD x v (c++d) ah ab ae ai k ad af vs) ?_
 refine cL ?_
 refine cH [0,1,2,3] ?_
 refine cC ?_
 refine kB 9 [] λaK=>?_
 refine iq ?_
 refine cN rfl (e9 rfl rfl) ?_
 refine cZ (λal=>?_) λal=>?_
 .refine N [8,9] ?_;refine cK [0,0,0,0,0] ?_;refine dG (d:=[]) (jE fD x v (c++d) ah ab ae ai k ad af vs) ?_;refine dP results386 ?_;exact .inl ⟨by omega,rfl,rfl⟩
 .refine dG (d:=[]) (jE fD x v (c++d) ah ab ae ai k ad af vs) ?_;have ao:(c++d).length<v:=by omega
  refine Pw 0 func388 (λw q T=>ab9 x v (c++d) _ w hn ao P T) ?_;rintro _ _ w3 ⟨b,ag,rfl,rfl,av,ar,au,aw,a,h,j,g,rfl,f,s,W⟩;clear X am an T P;have aD:=f.le;refine CK (d:=[]) (jE fD x v (c++d) av ar au aw a h j g) ?_;refine kq λq=>?_;obtain⟨E,z,rfl⟩:=fs q (q:=1) rfl;obtain⟨G,A,rfl⟩:=fs q (q:=2) rfl;obtain⟨K,B,rfl⟩:=fs q (q:=3) rfl;obtain⟨L,D,rfl⟩:=fs q (q:=4) rfl;clear q;have aJ:=f.lx;have aH:=f.lp;have aI:=f.lv;have ap:=EO fD Cb g;have aq:(fD).sz=1:=rfl;rw[aq]at ap;refine N [0,1,2,3,10] ?_;refine Y ?_;refine eO 31 [24,26,28,30] [_] [_,_,_,_] (cD _) λaL=>?_;refine fh ?_;refine fh ?_;refine df ?_;refine cN rfl (cR (ab:=b) (ad:=s)) ?_;refine jW rfl (fK 1 (y:=m3 (a.set b true)) (hl:=by simp[m3];omega) (ae:=map_set Value.bool true s)) ?_;rintro _ _ az rfl;refine⟨_,cD _,?_⟩;refine cN rfl (cR (ab:=b) (ad:=s)) ?_;refine jW rfl (fK 3 (y:=iv (j.set b (dC (-1) (c4 c).reverse))) (hl:=by simp[iv];omega) (ae:=map_set (Value.int .i64) _ (by omega))) ?_;rintro _ _ aA rfl;refine⟨_,cD _,?_⟩;refine cN rfl (cR (ab:=b) (ad:=s)) ?_;refine jW rfl (fK 2 (y:=iv (h.set b (dC (-1) (c4 d)))) (hl:=by simp[iv];omega) (ae:=map_set (Value.int .i64) _ (by omega))) ?_;rintro _ _ aB rfl;refine⟨_,cD _,?_⟩;refine cN rfl (cR (ab:=b) (ad:=s)) ?_;refine jW rfl (fK 4 (y:=iP fD (g.set b l)) (h1:=by simp[Value.oneCell',fD]) (hl:=by show 0+b*1+1<=(iP fD g).length;omega) (ae:=EP fD Cb l (by omega))) ?_;rintro _ _ aC rfl;refine⟨_,cD _,?_⟩;refine Ax [0,1,2,10] [0,0,0,0,0] ?_;refine cL ?_;refine I (e9 rfl rfl) ?_;refine cH [0,1,2,10,50] ?_;refine eS (λm H w'=>m=[(0,Z x),(2,F (dC (-1) (c4 d))),(10,F b)]/\H=[cF x [F v,F ((c++d).length:Int),F (dC (-1) (c4 (c++(b,l)::d))),F (dC (-1) (c4 (c++d)).reverse),vS E a.length z,vS G a.length A,vS K a.length B,vS L a.length D] (fD).list,row (vS E a.length z) 4 1 a.length (m3 (a.set b true)),row (vS G a.length A) 3 1 a.length (iv (lO (h.set b (dC (-1) (c4 d))) (c4 c) b)),row (vS K a.length B) 3 1 a.length (iv (j.set b (dC (-1) (c4 c).reverse))),row (vS L a.length D) (fD).elem (fD).sz a.length (iP fD (g.set b l))]) ?_ ?_
  .refine jc rfl (λR=>?_) (λR=>?_)
   .have n:c=[]:=by simpa using yj R
    subst n;refine KW 0 λaE=>?_;refine cH [0,2,10] ?_;exact⟨rfl,rfl⟩
   .obtain⟨y,t,n⟩:=yi R;have Q:y<a.length:=f.lt y (by
     have:y∈(c4 c).reverse:=by rw[n];simp
     rw[c4,dE];exact gI _ (za.1 this))
    have aj:dC (-1) (c4 (c++(b,l)::d))=dC (-1) (c4 (c++d)):=by
     cases c with
     |nil=>simp at n
     |cons p c=>rfl
    refine fw ?_;refine I (cR (ab:=y) (hi:=by rw[n];rfl) (ad:=Q)) ?_;refine iQ (fK 2 (y:=iv ((h.set b (dC (-1) (c4 d))).set y b)) (hl:=by simp[iv];omega) (ae:=map_set (Value.int .i64) _ (by simp;omega))) ?_;rintro _ _ aF rfl;refine cH [0,2,10] ?_;exact⟨rfl,by rw[yC n,aj];rfl⟩
  .rintro _ _ w ⟨rfl,rfl⟩;refine cL ?_;refine I (e9 rfl rfl) ?_;refine cH [0,2,10,63] ?_;refine eS (λm H w'=>m=[(0,Z x),(10,F b)]/\H=[cF x [F v,F ((c++d).length:Int),F (dC (-1) (c4 (c++(b,l)::d))),F (dC (-1) (c4 (c++(b,l)::d)).reverse),vS E a.length z,vS G a.length A,vS K a.length B,vS L a.length D] (fD).list,row (vS E a.length z) 4 1 a.length (m3 (a.set b true)),row (vS G a.length A) 3 1 a.length (iv (lO (h.set b (dC (-1) (c4 d))) (c4 c) b)),row (vS K a.length B) 3 1 a.length (iv (lO (j.set b (dC (-1) (c4 c).reverse)) (c4 d).reverse b)),row (vS L a.length D) (fD).elem (fD).sz a.length (iP fD (g.set b l))]) ?_ ?_
   .refine jc rfl (λS=>?_) (λS=>?_)
    .have o:d=[]:=by simpa using yj S
     subst o;refine KW 0 λaG=>?_;refine cH [0,10] ?_;have e:dC (-1) (c4 (c++(b,l)::[])).reverse=b:=by simp[c4,dC]
     rw[e];exact⟨rfl,rfl⟩
    .obtain⟨y,t,o⟩:=yi S;have Q:y<a.length:=f.lt y (by
      have:y∈c4 d:=by rw[o];simp
      rw[c4,dE];exact iA _ this)
     have ak:dC (-1) (c4 (c++(b,l)::d)).reverse=dC (-1) (c4 (c++d)).reverse:=by
      rcases yY d with rfl|⟨B',p,rfl⟩
      .simp at o
      .simp[dC]
     refine fw ?_;refine I (cR (ab:=y) (hi:=by rw[o];rfl) (ad:=Q)) ?_;refine iQ (fK 3 (y:=iv ((j.set b (dC (-1) (c4 c).reverse)).set y b)) (hl:=by simp[iv];omega) (ae:=map_set (Value.int .i64) _ (by simp;omega))) ?_;rintro _ _ ax rfl;refine cH [0,10] ?_;exact⟨rfl,by rw[yC (a:=(c4 d).reverse) (by rw[C3];exact o),ak];rfl⟩
   .rintro _ _ w ⟨rfl,rfl⟩;refine KW 0 λay=>?_;refine cH [10] ?_;refine N [8,9] ?_;refine dG (d:=[]) [_,_,_,_,_] ?_;refine dP results386 ?_;refine .inr ⟨by omega,b,_,W,rfl,rfl,vS E a.length z,vS G a.length A,vS K a.length B,vS L a.length D,_,_,_,_,?_,f.insert W.1 s l⟩;have e1:(((c++(b,l)::d).length:Nat):Int)=((c++d).length:Int)+1:=by simp;omega
    rw[jE,fy,e1];rfl
def N3 (x v:Nat)(c d:C (Nat×(Nat×cG Nat)))(l:Nat×cG Nat)(r:V)(w:O)(hn:v<=8192)(P:iZ eT x v (c++d) r)(T:Hl w r):
 Sr 385 [Z x,F (dC (-1) (c4 c).reverse),F (dC (-1) (c4 d)),(eT).val l] w r λu H=>
  ((c++d).length=v/\u=.tuple #[F 0,F 7]/\H=[r])\/((c++d).length≠v/\∃(b:Nat)(ag:V),uH (c4 (c++d)) b/\u=.tuple #[F b,F 0]/\H=[ag]/\iZ eT x v (c++(b,l)::d) ag):=by
 obtain⟨ah,ab,ae,ai,k,ad,af,vs,rfl,X⟩:=id P
 have am:=X.le
 have an:=X.len
 refine sP func385 T ?_
 refine eu (jE eT x v (c++d) ah ab ae ai k ad af vs) ?_
 refine Mf λaD aF=>?_
 refine cC ?_
 refine fu [1,1,1,1,1,0] ?_
 refine cH [0,1,2,7] ?_
 refine cC ?_
 refine kB 9 [] λaM=>?_
 refine iq ?_
 refine cN rfl (e9 rfl rfl) ?_
 refine cZ (λal=>?_) λal=>?_
 .refine N [8,9] ?_;refine cK [0,0,0,0,0] ?_;refine dG (d:=[]) (jE eT x v (c++d) ah ab ae ai k ad af vs) ?_;refine dP results385 ?_;exact .inl ⟨by omega,rfl,rfl⟩
 .refine dG (d:=[_]) (jE eT x v (c++d) ah ab ae ai k ad af vs) ?_;have ao:(c++d).length<v:=by omega
  refine Pw 0 func387 (λw q T=>Xv x v (c++d) _ w hn ao P T) ?_;rintro _ _ w3 ⟨b,ag,rfl,rfl,av,ar,au,aw,a,h,j,g,rfl,f,s,W⟩;clear X am an T P;have aE:=f.le;refine CK (d:=[_]) (jE eT x v (c++d) av ar au aw a h j g) ?_;refine kq λq=>?_;obtain⟨E,z,rfl⟩:=fs q (q:=1) rfl;obtain⟨G,A,rfl⟩:=fs q (q:=2) rfl;obtain⟨K,B,rfl⟩:=fs q (q:=3) rfl;obtain⟨L,D,rfl⟩:=fs q (q:=4) rfl;clear q;have aL:=f.lx;have aJ:=f.lp;have aK:=f.lv;have ap:=EO eT Ca g;have aq:(eT).sz=2:=rfl;rw[aq]at ap;refine N [0,1,2,7,10] ?_;refine Y ?_;refine eO 31 [24,26,28,30] [_,_] [_,_,_,_] (de [0,4] _ rfl) λaN=>?_;refine fh ?_;refine fh ?_;refine cL ?_;refine cN rfl (di 1 (b:=[_,_])) ?_;refine cN rfl (cR (ab:=b) (ad:=s)) ?_;refine jW rfl (fK 2 (y:=m3 (a.set b true)) (hl:=by simp[m3];omega) (ae:=map_set Value.bool true s)) ?_;rintro _ _ az rfl;refine⟨_,cD _,?_⟩;refine cN rfl (cR (ab:=b) (ad:=s)) ?_;refine jW rfl (fK 4 (y:=iv (j.set b (dC (-1) (c4 c).reverse))) (hl:=by simp[iv];omega) (ae:=map_set (Value.int .i64) _ (by omega))) ?_;rintro _ _ aA rfl;refine⟨_,cD _,?_⟩;refine cN rfl (cR (ab:=b) (ad:=s)) ?_;refine jW rfl (fK 3 (y:=iv (h.set b (dC (-1) (c4 d)))) (hl:=by simp[iv];omega) (ae:=map_set (Value.int .i64) _ (by omega))) ?_;rintro _ _ aB rfl;refine⟨_,cD _,?_⟩;refine cN rfl (cR (ab:=b) (ad:=s)) ?_;refine jW rfl (fK 5 (y:=iP eT (g.set b l)) (h1:=by simp[Value.oneCell',eT]) (hl:=by show 0+b*2+2<=(iP eT g).length;omega) (ae:=EP eT Ca l (by omega))) ?_;rintro _ _ aC rfl;refine⟨_,cD _,?_⟩;refine Ax [0,1,2,10] [0,1,1,1,1] ?_;refine cL ?_;refine I (e9 rfl rfl) ?_;refine cH [0,1,2,10,50] ?_;refine eS (λm H w'=>m=[(0,Z x),(2,F (dC (-1) (c4 d))),(10,F b)]/\H=[cF x [F v,F ((c++d).length:Int),F (dC (-1) (c4 (c++(b,l)::d))),F (dC (-1) (c4 (c++d)).reverse),vS E a.length z,vS G a.length A,vS K a.length B,vS L a.length D] (eT).list,row (vS E a.length z) 4 1 a.length (m3 (a.set b true)),row (vS G a.length A) 3 1 a.length (iv (lO (h.set b (dC (-1) (c4 d))) (c4 c) b)),row (vS K a.length B) 3 1 a.length (iv (j.set b (dC (-1) (c4 c).reverse))),row (vS L a.length D) (eT).elem (eT).sz a.length (iP eT (g.set b l))]) ?_ ?_
  .refine jc rfl (λR=>?_) (λR=>?_)
   .have n:c=[]:=by simpa using yj R
    subst n;refine KW 0 λaG=>?_;refine cH [0,2,10] ?_;exact⟨rfl,rfl⟩
   .obtain⟨y,t,n⟩:=yi R;have Q:y<a.length:=f.lt y (by
     have:y∈(c4 c).reverse:=by rw[n];simp
     rw[c4,dE];exact gI _ (za.1 this))
    have aj:dC (-1) (c4 (c++(b,l)::d))=dC (-1) (c4 (c++d)):=by
     cases c with
     |nil=>simp at n
     |cons p c=>rfl
    refine fw ?_;refine I (cR (ab:=y) (hi:=by rw[n];rfl) (ad:=Q)) ?_;refine iQ (fK 2 (y:=iv ((h.set b (dC (-1) (c4 d))).set y b)) (hl:=by simp[iv];omega) (ae:=map_set (Value.int .i64) _ (by simp;omega))) ?_;rintro _ _ aH rfl;refine cH [0,2,10] ?_;exact⟨rfl,by rw[yC n,aj];rfl⟩
  .rintro _ _ w ⟨rfl,rfl⟩;refine cL ?_;refine I (e9 rfl rfl) ?_;refine cH [0,2,10,63] ?_;refine eS (λm H w'=>m=[(0,Z x),(10,F b)]/\H=[cF x [F v,F ((c++d).length:Int),F (dC (-1) (c4 (c++(b,l)::d))),F (dC (-1) (c4 (c++(b,l)::d)).reverse),vS E a.length z,vS G a.length A,vS K a.length B,vS L a.length D] (eT).list,row (vS E a.length z) 4 1 a.length (m3 (a.set b true)),row (vS G a.length A) 3 1 a.length (iv (lO (h.set b (dC (-1) (c4 d))) (c4 c) b)),row (vS K a.length B) 3 1 a.length (iv (lO (j.set b (dC (-1) (c4 c).reverse)) (c4 d).reverse b)),row (vS L a.length D) (eT).elem (eT).sz a.length (iP eT (g.set b l))]) ?_ ?_
   .refine jc rfl (λS=>?_) (λS=>?_)
    .have o:d=[]:=by simpa using yj S
     subst o;refine KW 0 λaI=>?_;refine cH [0,10] ?_;have e:dC (-1) (c4 (c++(b,l)::[])).reverse=b:=by simp[c4,dC]
     rw[e];exact⟨rfl,rfl⟩
    .obtain⟨y,t,o⟩:=yi S;have Q:y<a.length:=f.lt y (by
      have:y∈c4 d:=by rw[o];simp
      rw[c4,dE];exact iA _ this)
     have ak:dC (-1) (c4 (c++(b,l)::d)).reverse=dC (-1) (c4 (c++d)).reverse:=by
      rcases yY d with rfl|⟨B',p,rfl⟩
      .simp at o
      .simp[dC]
     refine fw ?_;refine I (cR (ab:=y) (hi:=by rw[o];rfl) (ad:=Q)) ?_;refine iQ (fK 3 (y:=iv ((j.set b (dC (-1) (c4 c).reverse)).set y b)) (hl:=by simp[iv];omega) (ae:=map_set (Value.int .i64) _ (by simp;omega))) ?_;rintro _ _ ax rfl;refine cH [0,10] ?_;exact⟨rfl,by rw[yC (a:=(c4 d).reverse) (by rw[C3];exact o),ak];rfl⟩
   .rintro _ _ w ⟨rfl,rfl⟩;refine KW 0 λay=>?_;refine cH [10] ?_;refine N [8,9] ?_;refine dG (d:=[]) [_,_,_,_,_] ?_;refine dP results385 ?_;refine .inr ⟨by omega,b,_,W,rfl,rfl,vS E a.length z,vS G a.length A,vS K a.length B,vS L a.length D,_,_,_,_,?_,f.insert W.1 s l⟩;have e1:(((c++(b,l)::d).length:Nat):Int)=((c++d).length:Int)+1:=by simp;omega
    rw[jE,fy,e1];rfl
end Go.Proofs.YtdlpoonfcdoiiaaGreat
