/- What the code does, step by step, and plain facts: part 15. They have no conditions. -/
import Derived.Test.YtdlpoonfcdoiiaaGreatMB14
namespace Go.Proofs.YtdlpoonfcdoiiaaGreat
open Go.RowKit Go.Proofs.Tryz
set_option maxHeartbeats 40000000
set_option linter.all false
def zo (c b a:Int)(h:O)(e:b<=c:=by omega)(f:c<=a:=by omega):Sn 155 [F c,F b,F a] h λg d=>g=.bool true/\d=[]:=by refine hJ func155 hS ?_;refine db results155 ?_;exact⟨rfl,rfl⟩
section
variable{b:PC}{a:O}{c:C (Nat×Nat)}
def ajK (d:b.Ok)(t:b.mode=1)(f g:M):Sn 116 [gV b f g] a λA r=>A=.bool true/\r=[]:=by
 have s:=d.queue;have u:=d.et;have v:=d.exact;have w:=d.depth;have x:=d.width;have y:=d.top;have z:=d.key;refine enter (g:=46) func116 rfl rfl [(0,.agg (cP b f g).toArray)] rfl ⟨rfl,trivial⟩ hS ?_;refine cC ?_;refine dw (O4 (A:=cP b f g) rfl rfl) ?_;rintro _ _ p ⟨o,rfl,rfl⟩;refine cB ?_;refine dw (DG rfl func155 (by kernel_rfl) (λa e=>zo _ _ _ a)) ?_;rintro _ _ q ⟨_,rfl,rfl,rfl⟩;refine cQ ?_;refine dZ rfl rfl (cU (z:=.bool true) (e9 rfl rfl) (dq Value.bool (gb (show(b.mode:Int)=1 by omega)))) ?_;refine cQ ?_
 first|refine M5 rfl rfl ?_|refine dZ rfl rfl (cU (z:=.bool true) (e9 rfl rfl) (dq Value.bool (gb (show(b.mode:Int)=2 by omega)))) ?_
 refine df ?_;refine nh rfl rfl (DG rfl func155 (by kernel_rfl) (λa e=>zo _ _ _ a)) ?_;rintro _ _ h ⟨_,rfl,rfl,rfl⟩;refine cL ?_;refine nh rfl rfl (DG rfl func155 (by kernel_rfl) (λa e=>zo _ _ _ a)) ?_;rintro _ _ i ⟨_,rfl,rfl,rfl⟩;refine cL ?_;refine nh rfl rfl (DG rfl func155 (by kernel_rfl) (λa e=>zo _ _ _ a)) ?_;rintro _ _ j ⟨_,rfl,rfl,rfl⟩;refine cL ?_;refine nh rfl rfl (DG rfl func155 (by kernel_rfl) (λa e=>zo _ _ _ a)) ?_;rintro _ _ k ⟨_,rfl,rfl,rfl⟩;refine cL ?_;refine nh rfl rfl (DG rfl func155 (by kernel_rfl) (λa e=>zo _ _ _ a)) ?_;rintro _ _ l ⟨_,rfl,rfl,rfl⟩;refine cL ?_;refine nh rfl rfl (DG rfl func155 (by kernel_rfl) (λa e=>zo _ _ _ a)) ?_;rintro _ _ m ⟨_,rfl,rfl,rfl⟩;refine N [2] ?_;refine gT results116 ?_;exact⟨rfl,rfl⟩
def ajL (d:b.Ok)(t:b.mode=2)(f g:M):Sn 116 [gV b f g] a λA r=>A=.bool true/\r=[]:=by
 have s:=d.queue;have u:=d.et;have v:=d.exact;have w:=d.depth;have x:=d.width;have y:=d.top;have z:=d.key;refine enter (g:=46) func116 rfl rfl [(0,.agg (cP b f g).toArray)] rfl ⟨rfl,trivial⟩ hS ?_;refine cC ?_;refine dw (O4 (A:=cP b f g) rfl rfl) ?_;rintro _ _ p ⟨o,rfl,rfl⟩;refine cB ?_;refine dw (DG rfl func155 (by kernel_rfl) (λa e=>zo _ _ _ a)) ?_;rintro _ _ q ⟨_,rfl,rfl,rfl⟩;refine cQ ?_;refine dZ rfl rfl (cU (z:=.bool false) (e9 rfl rfl) (dq Value.bool (fL (show¬(b.mode:Int)=1 by omega)))) ?_;refine cQ ?_
 first|refine M5 rfl rfl ?_|refine dZ rfl rfl (cU (z:=.bool true) (e9 rfl rfl) (dq Value.bool (gb (show(b.mode:Int)=2 by omega)))) ?_
 refine df ?_;refine nh rfl rfl (DG rfl func155 (by kernel_rfl) (λa e=>zo _ _ _ a)) ?_;rintro _ _ h ⟨_,rfl,rfl,rfl⟩;refine cL ?_;refine nh rfl rfl (DG rfl func155 (by kernel_rfl) (λa e=>zo _ _ _ a)) ?_;rintro _ _ i ⟨_,rfl,rfl,rfl⟩;refine cL ?_;refine nh rfl rfl (DG rfl func155 (by kernel_rfl) (λa e=>zo _ _ _ a)) ?_;rintro _ _ j ⟨_,rfl,rfl,rfl⟩;refine cL ?_;refine nh rfl rfl (DG rfl func155 (by kernel_rfl) (λa e=>zo _ _ _ a)) ?_;rintro _ _ k ⟨_,rfl,rfl,rfl⟩;refine cL ?_;refine nh rfl rfl (DG rfl func155 (by kernel_rfl) (λa e=>zo _ _ _ a)) ?_;rintro _ _ l ⟨_,rfl,rfl,rfl⟩;refine cL ?_;refine nh rfl rfl (DG rfl func155 (by kernel_rfl) (λa e=>zo _ _ _ a)) ?_;rintro _ _ m ⟨_,rfl,rfl,rfl⟩;refine N [2] ?_;refine gT results116 ?_;exact⟨rfl,rfl⟩
def ajM (e:b.Ok)(d f:M):Sn 116 [gV b d f] a λi h=>i=.bool true/\h=[]:=by
 rcases e.mode with g|g
 .exact ajK e g d f
 .exact ajL e g d f
structure ni (b:PC)(a:O)(g:Nat->Prop)(e tv:M)(c:C (Nat×Nat)):Prop where
 ok:tC c
 sz:lU (c.map Prod.fst)
 rd:Rd a g 2 e c.length (lI c)
 tv:∃f d,tv=.slice f 16 d
def ni.last {l:Nat->Prop}{h i:M}(k:ni b a l h i c):∃n,c[c.length-1]? =some (256,n):=by
 have m:=k.ok.len;obtain⟨g,f⟩:∃g,c[c.length-1]? =some g:=⟨_,dr (by omega)⟩;have d:(c.map Prod.fst)[c.length-1]? =some g.1:=by rw[eK,f];rfl
 have e:c.length=(c.map Prod.fst).length:=(dL _).symm;refine⟨g.2,?_⟩;rcases k.sz with j|j<;>rw[j]at d e<;>rw[e]at d<;>simp at d<;>exact f.trans (dq some (Prod.ext d.symm rfl))
def ni.at {h:O}{d:Nat->Prop}{l e Hr:C V}{f g:M}(i:ni b h d f g c)(j:cI h d l a)(k:l.Perm (e++Hr)):ni b a (gO e) f g c:=⟨i.ok,i.sz,i.rd.rJ j k,i.tv⟩
def ni.dx {f:O}{i:Nat->Prop}{j:C V}{d e:M}(g:ni b f i d e c)(h:cI f i j a):ni b a cW d e c:=⟨g.ok,g.sz,g.rd.dx h,g.tv⟩
def Ud {k o:M}(f:b.Ok)(j:ni b a cW k o c):Sn 74 [gV b k o] a λE z=>E=F 0/\z=[]:=by have D:=j.ok.len;obtain⟨H,t⟩:=j.last;have A:=f.width;have B:=f.key;obtain⟨At,d,rfl⟩:=j.tv;have m:=j.rd;obtain⟨G,e,rfl,-,-,s⟩:=id j.rd;obtain⟨l,n,rfl,-,-,g⟩:=s.resolve_left (by omega);refine enter (g:=38) func74 rfl rfl [(0,.agg (cP b (.slice (some ⟨l,n,.none⟩) c.length e) (.slice At 16 d)).toArray)] rfl ⟨rfl,trivial⟩ hS ?_;refine Mf (f:=cP b (.slice (some ⟨l,n,.none⟩) c.length e) (.slice At 16 d)) λr u=>?_;refine K3 0 (f:=cP b (.slice (some ⟨l,n,.none⟩) c.length e) (.slice At 16 d)) ?_;refine dd func66 (λa h=>Oi f _ _ a) ?_;rintro _ _ w ⟨rfl,rfl⟩;refine cC ?_;refine dZ rfl rfl (di 0 (b:=cP b (.slice (some ⟨l,n,.none⟩) c.length e) (.slice At 16 d))) ?_;refine nh rfl rfl (eB func115 (λa h=>HS f _ At d a)) ?_;rintro _ _ x ⟨_,rfl,rfl,rfl⟩;refine cQ ?_;refine dZ rfl rfl (di 0 (b:=cP b (.slice (some ⟨l,n,.none⟩) c.length e) (.slice At 16 d))) ?_;refine nh rfl rfl (eB func116 (λa h=>ajM f _ _)) ?_;rintro _ _ p ⟨_,rfl,rfl,rfl⟩;refine df ?_;refine nh rfl rfl (eB func73 (λa h=>NA c _ a j.ok (m.dx h))) ?_;rintro _ _ q ⟨_,rfl,rfl,rfl⟩;refine N [1,21] ?_;refine cL ?_;refine eO 16 [] [_] [] (ik _) λy=>?_;refine eL ?_;refine cN rfl (cR (ab:=c.length-1) (hi:=by omega)) ?_;refine Y ?_;refine cN rfl (KA (k:=F 256) rfl underlying3 rfl (by have:=tT g t 0 (F 256) rfl;simpa using this) id) ?_;refine df ?_;refine cN rfl (PY (t2:=((max (max (8*b.width) 32) b.key:Nat):Int)) rfl rfl rfl rfl (by unfold yh;(repeat' split)<;>omega)) ?_;refine N [37] ?_;refine N [2] ?_;refine gT results74 ?_;exact⟨rfl,rfl⟩
def MF {g i:M}(h:b.Ok)(v:ni b a cW g i c):Sn 46 [gV b g i] a λy t=>y=F b.ie/\t=[]:=by
 have o:=h.dm;have p:=h.ga;have w:=h.et;have x:=h.exact;obtain⟨j,e⟩:∃d,d=b.dm*b.ga:=⟨_,rfl⟩;have m:j<=16:=by rw[e];exact mb o.2 p.2
 obtain⟨k,f⟩:∃d,d=j*(b.et+b.exact):=⟨_,rfl⟩;have u:k<=16*7:=by rw[f];exact mb m (by omega)
 refine enter (g:=17) func46 rfl rfl [(0,.agg (cP b g i).toArray)] rfl ⟨rfl,trivial⟩ hS ?_;refine Mf (f:=cP b g i) λl r=>?_;refine K3 0 (f:=cP b g i) ?_;refine dd func74 (λa q=>Ud h (v.dx q)) ?_;rintro _ _ s ⟨rfl,rfl⟩;refine N [1,5] ?_;refine iq ?_;refine I (cU (z:=F j) (oh rfl rfl (by rw[<-nH,<-e];omega)) (by rw[<-nH,<-e])) ?_;refine df ?_;refine I (cU (z:=F k) (oh rfl rfl (by rw[<-gR,<-nH,<-f];omega)) (by rw[<-gR,<-nH,<-f])) ?_;refine N [2] ?_;refine gT results46 ?_;exact⟨by rw[f,e];rfl,rfl⟩
end
def ph (a:C Nat):Nat->Nat
 |0=>1
 |b+1=>a.getD b 0+1
def jG (a:PC)(b:C Nat)(d:Nat):C (Nat×Nat):=(List.range d).map λc=>(ph b c,a.ie+a.ix)
def ky (a:PC):C (Nat×Nat):=[(8*a.width,a.lu),(32,a.ie),(24,a.ix)]
def Cj (a:PC)(b:C Nat)(c:Nat):jG a b (c+1)=jG a b c++[(ph b c,a.ie+a.ix)]:=by unfold jG;rw[pL,dE];rfl
section
variable{a:PC}{c:O}{b:C (Nat×Nat)}
def adS (e f:M):Sn 114 [gV a e f] c λj i=>∃d,j=.func (.func 153) #[] #[Z d]/\i=[cF d (cP a e f) 27]:=by refine enter (g:=4) func114 rfl rfl [(0,.agg (cP a e f).toArray)] rfl ⟨rfl,trivial⟩ hS ?_;refine Mf (f:=cP a e f) λg h=>?_;refine cB ?_;refine I (wQ (z:=[]) (y:=[_]) rfl rfl) ?_;refine db results114 ?_;exact⟨_,rfl,rfl⟩
def adR {q g:M}(l d e:Nat)(z K:V)(ah:C (Nat×Nat)->V->Prop)(r:a.Ok)(w:ni a c (gO [z,cF d (cP a q g) 27,K]) q g b)(hk:e<=b.length)(ar:∀j,j<e->lY a (b.map Prod.fst) j=true)(au:e<b.length->lY a (b.map Prod.fst) e=false)(al:ah [] K)(X:∀(pre:C (Nat×Nat))(t:Nat×Nat)(ak:C (Nat×Nat))(B:V)(w':O),ky a++jG a (b.map Prod.fst) e=pre++t::ak->ah pre B->ni a w' (gO [z,cF d (cP a q g) 27,B]) q g b->atV w' [z,cF d (cP a q g) 27,B]->Dj prog l [F t.1,F t.2] w' (gO [z,cF d (cP a q g) 27,B]) λv D=>v=.bool true/\∃G,D.Perm [z,cF d (cP a q g) 27,G]/\ah (pre++[t]) G)(hs:atV c [z,cF d (cP a q g) 27,K]):mz prog 153 [.func (.yield l) #[] #[],Z d] c (gO [z,cF d (cP a q g) 27,K]) λ_ D=>∃B,D.Perm [z,cF d (cP a q g) 27,B]/\ah (ky a++jG a (b.map Prod.fst) e) B:=by
 have hl:=w.ok.len;have af:=r.dm;have aC:=r.ga;have aB:=r.queue;have aK:=r.width;have ap:=r.depth;have aH:=r.key;have ag:=w.ok.kI;obtain⟨A,k,rfl,-,-,hA⟩:=id w.rd;obtain⟨E,p,rfl,aq,-,P⟩:=hA.resolve_left (by omega);obtain⟨ai,s⟩:∃i,i=a.dm*a.ga:=⟨_,rfl⟩;have b1:ai<=16:=by rw[s];exact mb af.2 aC.2
 have b2:a.lu<=16*3:=by unfold PC.lu;rw[<-s];exact mb b1 ap.2
 have b3:a.ix<=4*64:=mb af.2 aB.2;have b4:a.ie<=16*7:=by unfold PC.ie;rw[<-s];exact mb b1 (by have:=r.et;have:=r.exact;omega)
 have e2:(ai:Int)*(a.depth:Int)=(a.lu:Int):=by rw[<-nH,s];rfl
 have e3:(a.dm:Int)*(a.queue:Int)=(a.ix:Int):=by rw[<-nH];rfl
 have ay:∀{L:C (Nat×Nat)}{t:Nat×Nat},ky a++jG a (b.map Prod.fst) e=L++t::((ky a++jG a (b.map Prod.fst) e).drop (L.length+1))↔(ky a++jG a (b.map Prod.fst) e).take (L.length+1)=L++[t]:=λ{L t}=>by
  constructor
  .intro w;have h2:=dq (List.take (L.length+1)) w;rw[h2,show L++t::(ky a++jG a (b.map Prod.fst) e).drop (L.length+1)=(L++[t])++(ky a++jG a (b.map Prod.fst) e).drop (L.length+1) by simp,C7 (by simp)]
  .intro w
   conv=>lhs;rw[<-gJ (L.length+1) (ky a++jG a (b.map Prod.fst) e),w]
   simp
 refine BY (d:=64) func153 rfl rfl [(0,_),(1,_)] rfl ⟨rfl,rfl,trivial⟩ hs ?_
 iterate 6 (first|refine fG ?_|refine Y ?_)
 refine I (cU (z:=F a.ix) (oh rfl rfl (by rw[e3];omega)) (by rw[e3])) ?_;refine N [0,1,3] ?_
 iterate 2 (first|refine fG ?_|refine Y ?_)
 refine GI ?_
 iterate 3 refine sg ?_
 refine wT (by simp) (cU (z:=F ((8*a.width:Nat):Int)) (oh rfl rfl) (by rw[nH];rfl)) ?_
 iterate 4 refine sg ?_
 refine wT (by simp) (cU (z:=F ai) (oh rfl rfl (by rw[<-nH,<-s];omega)) (by rw[<-nH,<-s])) ?_
 iterate 2 refine sg ?_
 refine wT (by simp) (cU (z:=F a.lu) (oh rfl rfl (by rw[e2];omega)) (by rw[e2])) ?_;refine QB [z,cF d (cP a (.slice (some ⟨E,p,.none⟩) b.length k) g) 27,K] [] rfl rfl (cD _) (λo h=>X [] (8*a.width,a.lu) _ K _ rfl al (w.at o (Hr:=[]) (cD _)) h) ?_;rintro _ D w4 ⟨rfl,q1,aw,am⟩;refine D1 _ (aw.append_right _) ?_
 iterate 3 refine sg ?_
 refine GN rfl rfl (by simp) (di 1 (b:=cP a (.slice (some ⟨E,p,.none⟩) b.length k) g)) ?_;refine QA rfl rfl (by simp) (eB func46 (λc o=>MF r (w.dx o))) ?_;rintro _ _ w5 ⟨_,rfl,rfl,rfl⟩;refine K0 [z,cF d (cP a (.slice (some ⟨E,p,.none⟩) b.length k) g) 27,q1] [] rfl rfl rfl rfl (cD _) (λo h=>X [(8*a.width,a.lu)] (32,a.ie) _ q1 _ rfl am (w.at o (Hr:=[]) (cD _)) h) ?_;rintro _ D w6 ⟨rfl,x,W,R⟩;refine D1 _ (W.append_right _) ?_
 iterate 5 refine sg ?_
 refine K0 [z,cF d (cP a (.slice (some ⟨E,p,.none⟩) b.length k) g) 27,x] [] rfl rfl rfl rfl (cD _) (λo h=>X [(8*a.width,a.lu),(32,a.ie)] (24,a.ix) _ x _ rfl R (w.at o (Hr:=[]) (cD _)) h) ?_;rintro _ D w7 ⟨rfl,q3,ax,an⟩;refine D1 _ (ax.append_right _) ?_
 iterate 2 refine sg ?_
 refine Qz [0,1,3,38] rfl ?_;refine yf rfl ?_
 iterate 4 (first|refine fG ?_|refine Y ?_)
 refine cH [0,1,3,4] ?_
 iterate 3 (first|refine fG ?_|refine Y ?_)
 refine I (dH 1 (n:=.slice (some ⟨E,p,.none⟩) b.length k)) ?_
 iterate 2 (first|refine fG ?_|refine Y ?_)
 refine cH [0,1,3,4,40,41,42] ?_;refine fG ?_;refine GG (λkk ds m H c=>ds=[]/\∃(f:Nat)(B:V),m=[(0,.func (.yield l) #[] #[]),(1,Z d),(3,F a.ix),(4,F (ph (b.map Prod.fst) f:Int)),(40,.slice (some ⟨E,p,.none⟩) b.length k),(41,F b.length),(42,F f)]/\H=[z,cF d (cP a (.slice (some ⟨E,p,.none⟩) b.length k) g) 27,B]/\kk+f=b.length/\f<=e/\ah (ky a++jG a (b.map Prod.fst) f) B) b.length ⟨rfl,0,q3,rfl,rfl,rfl,gK _,an⟩ ?_;rintro kk _ _ _ w2 ⟨rfl,f,B,rfl,rfl,aG,aF,hQ⟩
 iterate 3 (first|refine fG ?_|refine Y ?_)
 refine cH [0,1,3,4,40,41,42,43] ?_;refine fG ?_;refine zE rfl (λao=>?_) (λao=>?_)
 .obtain⟨t,hx⟩:∃t,b[f]? =some t:=⟨_,dr (by omega)⟩;have aL:=ag t (eH hx);have aj:ph (b.map Prod.fst) (f+1)=t.1+1:=by show(b.map Prod.fst).getD f 0+1=_;rw[jM,eK,hx];rfl
  have aI:ph (b.map Prod.fst) f<=4097:=by
   cases f with
   |zero=>show 1<=4097;omega
   |succ f=>show(b.map Prod.fst).getD f 0+1<=_;obtain⟨y,hy⟩:∃y,b[f]? =some y:=⟨_,dr (by omega)⟩;rw[jM,eK,hy];have:=(ag y (eH hy)).2.1;show y.1+1<=_;omega
  have ab:lY a (b.map Prod.fst) f=true↔ph (b.map Prod.fst) f<=a.key:=by
   cases f with
   |zero=>have:ph (b.map Prod.fst) 0=1:=rfl;rw[this];exact⟨λ_=>by omega,λ_=>rfl⟩
   |succ f=>show decide ((b.map Prod.fst).getD f 0<a.key)=true↔(b.map Prod.fst).getD f 0+1<=a.key;rw[fU];exact Nat.lt_iff_add_one_le
  iterate 5 (first|refine fG ?_|refine Y ?_)
  refine I (cR (ab:=f)) ?_;refine I (kY (b:=oK t) (hc:=λj u hu=>tT P hx j u hu) (hF:=aq)) ?_;refine dj [F 0,F 0] λQ aD=>?_;refine cO 0 (u:=oK t) (H:=oK t) (h1:=by simp[oK,Value.oneCell']) λaE=>?_;refine cH [0,1,3,4,6,40,41,42] ?_
  iterate 2 (first|refine fG ?_|refine Y ?_)
  refine KX (λds m H c=>ds=[]/\∃(G:V),m=[(0,.func (.yield l) #[] #[]),(1,Z d),(3,F a.ix),(6,Z Q),(40,.slice (some ⟨E,p,.none⟩) b.length k),(41,F b.length),(42,F f),(59,.bool (decide (e<=f)))]/\H=[cF Q (oK t) 68,z,cF d (cP a (.slice (some ⟨E,p,.none⟩) b.length k) g) 27,G]/\(f<e->ah (ky a++jG a (b.map Prod.fst) (f+1)) G)/\(e<=f->ah (ky a++jG a (b.map Prod.fst) f) G)) ?_ ?_
  .by_cases T:f<e
   .have ad:=ab.1 (ar f T);rw[fL (show¬e<=f by omega)];refine GI ?_
    iterate 5 refine sg ?_
    iterate 2 refine sg ?_
    refine GN rfl rfl (by simp) (di 2 (b:=cP a (.slice (some ⟨E,p,.none⟩) b.length k) g)) ?_;refine QA rfl rfl (by simp) (eB func46 (λc o=>MF r (w.dx o))) ?_;rintro _ _ w5 ⟨_,rfl,rfl,rfl⟩;refine sg ?_;refine GN rfl rfl (by simp) (cU (z:=F ((a.ie+a.ix:Nat):Int)) (kH rfl rfl) (by rw[gR])) ?_;refine K0 [z,cF d (cP a (.slice (some ⟨E,p,.none⟩) b.length k) g) 27,B] [_] rfl rfl rfl rfl (lF (l₁:=[_]) (l₂:=[_,_,_])) (λo h=>X (ky a++jG a (b.map Prod.fst) f) (ph (b.map Prod.fst) f,a.ie+a.ix) _ B _ (ay.2 (by
     have av:(ky a++jG a (b.map Prod.fst) f).length+1=3+(f+1):=by simp[ky,jG];omega
     rw[av,dJ,<-Cj];have h3:(ky a).length=3:=rfl;rw[<-h3,Nq];unfold jG;rw[<-uN,List.take_range,o5 (by omega)])) hQ (w.at o (Hr:=[_]) (lF (l₁:=[_]) (l₂:=[_,_,_]))) h) ?_
    rintro _ D w6 ⟨rfl,x,W,R⟩;refine D1 _ ((W.append_right [_]).trans (lF (l₁:=[_,_,_]) (l₂:=[_]))) ?_
    iterate 2 refine sg ?_
    refine Qz [0,1,3,6,40,41,42,59] rfl ?_;exact⟨rfl,x,rfl,rfl,λ_=>by rw[Cj,<-dJ];exact R,λw=>absurd T (by omega)⟩
   .have aJ:¬ph (b.map Prod.fst) f<=a.key:=λw=>by
     have h1:=ab.2 w;have:f=e:=by omega
     subst this;rw[au (by omega)]at h1;cases h1
    rw[gb (show e<=f by omega)];refine jF (jB rfl) ?_
    iterate 14 (first|refine fG ?_|refine Y ?_)
    refine cH [0,1,3,6,40,41,42,59] ?_;exact⟨rfl,B,rfl,rfl,λw=>absurd w T,λ_=>hQ⟩
  rintro _ _ _ w8 ⟨rfl,x,rfl,rfl,az,aA⟩;refine KV rfl (λS=>?_) (λS=>?_)
  .have ad:e<=f:=nr S;obtain rfl:f=e:=by omega
   refine mx [1,1,1] rfl ?_;refine vn ?_;refine⟨_,[z,cF d (cP a (.slice (some ⟨E,p,.none⟩) b.length k) g) 27,x],_,λi w2 ha o=>im results153 rfl i ha _,gq _,⟨x,cD _,aA ad⟩,.inl ⟨rfl,rfl⟩⟩;done
  .have ae:f<e:=by have:¬e<=f:=FD (by simpa using S);omega
   iterate 4 (first|refine fG ?_|refine Y ?_)
   refine I (cU (z:=F (ph (b.map Prod.fst) (f+1):Int)) (kH rfl rfl) (by rw[aj,gR];rfl)) ?_;refine N [0,1,3,4,40,41,42] ?_;refine mx [1,1,1] rfl ?_
   iterate 3 (first|refine fG ?_|refine Y ?_)
   refine cH [0,1,3,4,40,41,42] ?_;exact⟨kk-1,by omega,rfl,f+1,x,rfl,rfl,by omega,ae,az ae⟩
 .obtain rfl:f=e:=by omega
  refine KT ?_;refine⟨_,[z,cF d (cP a (.slice (some ⟨E,p,.none⟩) b.length k) g) 27,B],_,λi w2 ha o=>im (p:=[]) results153 rfl i ha _,gq _,⟨B,cD _,hQ⟩,.inl ⟨rfl,rfl⟩⟩
end
def abK {l:dX}{p:Nat}{g:O}{c:Nat->Prop}{q:cG Nat}{i m:jq}{n:Nat->jq}{a:C Deferred}{j:dD}{h:C V}{k:O}{id b:Nat}{e d:jq}(o:i a j h k)(f:Nat.beq id b=false):G l p g c q (.exit id) d m (xU b e (xU id i n)) a j h k:=Qu (by simp only[xU,pN,n0,f,oG];exact o)
def abH {s:dX}{w:Nat}{f:O}{e:Nat->Prop}{x:cG Nat}{r t:jq}{u:Nat->jq}{g:dD}{m:O}{v:Code}{b c j d h:V}(a:V)(p:∀g m,r [] g [d,h,cz [b,c,a]] m)(y:∀d,G s w f e x v (λk _ i _=>k=[]/\i=[b,c,a,d,h]) t u [] g [b,c,j,d,h] m):G s w f e x v r t u [] g [b,c,j,d,h] m:=KU _ (y d) λk g i l ⟨n,o⟩=>by subst n;subst o;exact⟨[d,h,cz [b,c,a]],λq=>((cI.cz.1 (show cI f e ([b,c,a]++[d,h]) l from q)).perm (de [1,1,0] _ rfl)).perm (by simp),p g l⟩
def se (b:C Nat)(c:C Nat)(a:Nat×Nat):C Nat:=c.modify (fC b a.1) (·+a.2)
def Zm (b a:C Nat)(c:Nat×Nat):(se b a c).length=a.length:=Fk ..
def OK (c:C Nat):∀(a:C (Nat×Nat))(b:C Nat),(a.foldl (se c) b).length=b.length
 |[],_=>rfl
 |d::a,b=>by rw[oZ,OK c a,Zm]
def jS (c:PC)(a:C Nat)(b:C (Nat×Nat)):C Nat:=b.foldl (se a) (List.replicate a.length 0)
def tU (b:PC)(a:C Nat)(c:C (Nat×Nat)):(jS b a c).length=a.length:=by unfold jS;rw[OK,o3]
def J4 (b:C Nat):∀(d:C (Nat×Nat))(a:C Nat),(d.foldl (se b) a).sum<=a.sum+(d.map Prod.snd).sum
 |[],a=>by simp
 |e::d,a=>by
  have f:=J4 b d (se b a e);have h:(se b a e).sum<=a.sum+e.2:=by
   unfold se;generalize fC b e.1=c;clear f;induction a generalizing c with
   |nil=>simp
   |cons i a g=>
    cases c with
    |zero=>simp only[List.modify_zero_cons,iE];omega
    |succ c=>simp only[List.modify_succ_cons,iE];have:=g c;omega
  rw[oZ,dA,iE];omega
def Qx {a:C Nat}{d b:Nat}(c:a[d]? =some b):b<=a.sum:=by obtain⟨e,f,rfl⟩:=pJ (eH c);simp only[mV,iE];omega
def OI {h f:C Nat}{g:Nat×Nat}{c j:Nat}(i:f[c]? =some j)(e:fC h g.1=c):se h f g=f.set c (j+g.2):=by
 unfold se;rw[e];refine qo λk=>?_;rw[y9,oD];by_cases a:c=k
 .subst a;have b:=(da.1 i).1;have d:=(da.1 i).2;simp[b,d]
 .simp[a]
def OM (b:PC)(a:C Nat)(c:C (Nat×Nat))(d:Nat×Nat):jS b a (c++[d])=se a (jS b a c) d:=by unfold jS;rw[uK];rfl
section
variable{b:PC}{c:O}{a:C (Nat×Nat)}
def adP {h:C Nat}(i:b.Ok)(hS:lU h){g:Nat}(m:g<=h.length)(j:∀f,f<g->lY b h f=true):∀k∈ky b++jG b h g,1<=k.1/\k.1<=256:=λk d=>by
 have n:=i.width;have l:=i.key;rcases dV.1 d with d|d
 .simp only[ky,dh,nn,o6]at d;rcases d with rfl|rfl|rfl
  .exact⟨by show 1<=8*b.width;omega,by show 8*b.width<=256;omega⟩
  .exact⟨by show 1<=32;omega,by show 32<=256;omega⟩
  .exact⟨by show 1<=24;omega,by show 24<=256;omega⟩
 .obtain⟨f,e,rfl⟩:=dz.1 d;have e:=lE.1 e;cases f with
  |zero=>exact⟨dT _,by show 1<=256;omega⟩
  |succ f=>have:=nr (j _ e);exact⟨by show 1<=h.getD f 0+1;omega,by show h.getD f 0+1<=256;omega⟩
def R3 (d:b.Ok){r:C Nat}{h:Nat}(p:h<=8):((ky b++jG b r h).map Prod.snd).sum<=10000:=by
 have g:=d.dm;have l:=d.ga;have k:=d.queue;have j:=d.depth;obtain⟨n,e⟩:∃f,f=b.dm*b.ga:=⟨_,rfl⟩;have i:n<=16:=by rw[e];exact mb g.2 l.2
 have s:b.lu<=16*3:=by unfold PC.lu;rw[<-e];exact mb i j.2
 have t:b.ix<=4*64:=mb g.2 k.2;have u:b.ie<=16*7:=by unfold PC.ie;rw[<-e];exact mb i (by have:=d.et;have:=d.exact;omega)
 have o:∀m,((jG b r m).map Prod.snd).sum=m*(b.ie+b.ix):=λm=>by
  induction m with
  |zero=>simp[jG]
  |succ m q=>rw[Cj,dE,mV,q,mu];simp
 rw[dE,mV,o];have v:h*(b.ie+b.ix)<=8*368:=mb p (by omega);have w:((ky b).map Prod.snd).sum=b.lu+(b.ie+(b.ix+0)):=rfl;omega
def Zo {cv j:M}{r:Nat}(ab:b.Ok)(h:ni b c cW cv j a)(al:r<=a.length)(af:∀t,t<r->lY b (a.map Prod.fst) t=true)(au:r<a.length->lY b (a.map Prod.fst) r=false):Sn 70 [gV b cv j] c λu H=>∃A e,u=PF [.slice A a.length e,F 0]/\H=[row (.slice A a.length e) 3 1 a.length (ec (jS b (a.map Prod.fst) (ky b++jG b (a.map Prod.fst) r)))]:=by
 have hl:=h.ok.len;have aw:=adP ab h.sz (by rw[dL];exact al) af;have av:=R3 (b:=b) (r:=a.map Prod.fst) ab (gF al hl.2);have p:(a.map Prod.fst).length=a.length:=dL _;obtain⟨A,e,rfl,-,-,hA⟩:=id h.rd;obtain⟨W,k,rfl,-,-,az⟩:=hA.resolve_left (by omega);refine mz.spec ?_;refine BY (d:=44) func70 rfl rfl [(0,.agg (cP b (.slice (some ⟨W,k,.none⟩) a.length e) j).toArray)] rfl ⟨rfl,trivial⟩ hS ?_
 iterate 2 (first|refine fG ?_|refine Y ?_)
 refine dK (l:=cP b (.slice (some ⟨W,k,.none⟩) a.length e) j) λf aB=>?_
 iterate 2 (first|refine fG ?_|refine Y ?_)
 refine cH [1] ?_
 iterate 3 (first|refine fG ?_|refine Y ?_)
 refine I (di 0 (b:=cP b (.slice (some ⟨W,k,.none⟩) a.length e) j)) ?_;refine dd func74 (λc Q=>Ud ab (h.dx Q)) ?_;rintro _ _ aC ⟨rfl,rfl⟩;refine N [1,4] ?_
 iterate 4 (first|refine fG ?_|refine Y ?_)
 refine cH [1,4,13] ?_;refine yf rfl ?_
 iterate 6 (first|refine fG ?_|refine Y ?_)
 refine dw (qy (y:=a.length) (B:=ec (List.replicate a.length 0)) rfl rfl mj (by omega) (by omega) (by rw[fT];unfold ec;rw[List.map_replicate];exact(toList_madeCells_one _ _).symm)) ?_;rintro _ _ aD ⟨d,rfl,rfl⟩;refine CN vN λg aE=>?_;refine cO 0 λaF=>?_;refine cH [1,5] ?_
 iterate 3 (first|refine fG ?_|refine Y ?_)
 refine I (di 2 (b:=cP b (.slice (some ⟨W,k,.none⟩) a.length e) j)) ?_;refine dd func114 (λc Q=>adS _ _) ?_;rintro _ _ aG ⟨X,rfl,rfl⟩;refine cH [1,5,20] ?_;refine KX (λag m H c=>∃D:Nat,ag=[wX D]/\m=[(1,Z f),(5,Z g),(20,.func (.func 153) #[] #[Z X])]/\H=[ob D (.deferred (some [])),cF X (cP b (.slice (some ⟨W,k,.none⟩) a.length e) j) 27,cz [cF f (cP b (.slice (some ⟨W,k,.none⟩) a.length e) j) 27,cF g [(vS d a.length a.length)] 22,row (vS d a.length a.length) 3 1 a.length (ec (jS b (a.map Prod.fst) (ky b++jG b (a.map Prod.fst) r)))]]) ?_ ?_
 .refine fG ?_;refine mx [3,1,1,0] rfl ?_;refine ye (f:=[_]) [_,_,_] ?_;refine GH [_,_] [] rfl func153 (by kernel_rfl) (de [1,0] _ rfl) ?_;intro fn z l D w6 ah Q ad;refine mz.mono (adR l X r _ _ (λpre q=>q=cz [cF f (cP b (.slice (some ⟨W,k,.none⟩) a.length e) j) 27,cF g [(vS d a.length a.length)] 22,row (vS d a.length a.length) 3 1 a.length (ec (jS b (a.map Prod.fst) pre))]) ab (h.at Q (Hr:=[_]) (cD _)) al af au (by unfold jS;rw[p];rfl) ?_ ad) ?_
  .rintro pre x aA q w7 R hq ap T;subst hq;have ay:x∈ky b++jG b (a.map Prod.fst) r:=by rw[R];simp
   obtain⟨aN,ax⟩:=aw x ay;obtain⟨ae,K⟩:∃ae,ae=fC (a.map Prod.fst) x.1:=⟨_,rfl⟩;have L:ae<a.length:=by rw[K,<-p];exact h.sz.fit ax
   obtain⟨A2,aH,aj,-,-,an⟩:=ap.rd;injection aj with B e2 e3;subst B;subst e3;obtain⟨g2,aO,aq,ar,-,G⟩:=an.resolve_left (by omega);injection aq with B;injection B with B e2;subst B;subst e2;have ai:∀(t:Nat)(s:Nat×Nat),t<ae->a[t]? =some s->s.1<x.1:=λt s hj y=>by rw[K]at hj;have E:=Fp hj;rw[wb]at E;obtain⟨P,rfl⟩:=da.1 y;simpa using E
   have ao:∀s:Nat×Nat,a[ae]? =some s->x.1<=s.1:=λs y=>by
    have E:fC (a.map Prod.fst) x.1<(a.map Prod.fst).length:=by rw[<-K,p];exact L
    have P:decide (x.1<=(a.map Prod.fst)[fC (a.map Prod.fst) x.1])=true:=CW (w:=E);have h3:a[fC (a.map Prod.fst) x.1]? =some s:=by rw[<-K];exact y
    have h6:=(da.1 (show(a.map Prod.fst)[fC (a.map Prod.fst) x.1]? =some s.1 by rw[eK,h3];rfl)).2;rw[h6]at P;simpa using P
   obtain⟨v,am⟩:∃v,(jS b (a.map Prod.fst) pre)[ae]? =some v:=⟨_,dr (by rw[tU,p];exact L)⟩;have aM:v+x.2<=10000:=by
    have E:=Qx am;have P:=J4 (a.map Prod.fst) pre (List.replicate (a.map Prod.fst).length 0);have h3:(List.replicate (a.map Prod.fst).length 0).sum=0:=by simp
    have h4:(jS b (a.map Prod.fst) pre).sum<=(pre.map Prod.snd).sum:=by unfold jS;omega
    have h5:=av;rw[R,dE,mV,dA,iE]at h5;omega
   refine IL (d:=44) ah rfl rfl T ?_
   iterate 3 (first|refine fG ?_|(first|refine fG ?_|refine Y ?_))
   refine cH [1,5,6,22] ?_
   iterate 2 (first|refine fG ?_|(first|refine fG ?_|refine Y ?_))
   refine cH [1,5,6,7] ?_;refine⟨rfl,_,cD _,λw8=>?_⟩;refine mx [2,0,0] rfl ?_;refine yg [_,_,_] ?_;refine abH (row (vS d a.length a.length) 3 1 a.length (ec (jS b (a.map Prod.fst) (pre++[x])))) (λm c=>⟨rfl,_,cD _,rfl,_,cD _,rfl⟩) λo=>?_
   iterate 7 (first|refine fG ?_|(first|refine fG ?_|refine Y ?_))
   refine cH [1,5,6,7,24,25,26] ?_;refine fG ?_;refine GG (λkk ag m H c=>ag=[]/\∃t:Nat,m=[(1,Z f),(5,Z g),(6,F x.1),(7,F x.2),(24,.slice (some ⟨W,k,.none⟩) a.length e),(25,F a.length),(26,F t)]/\H=[cF f (cP b (.slice (some ⟨W,k,.none⟩) a.length e) j) 27,cF g [(vS d a.length a.length)] 22,row (vS d a.length a.length) 3 1 a.length (ec (jS b (a.map Prod.fst) pre)),o,cF X (cP b (.slice (some ⟨W,k,.none⟩) a.length e) j) 27]/\kk+t=a.length/\t<=ae) a.length ⟨rfl,0,rfl,rfl,rfl,gK _⟩ ?_;rintro kk _ _ _ w9 ⟨rfl,t,rfl,rfl,aK,aJ⟩;obtain⟨s,y⟩:∃s,a[t]? =some s:=⟨_,dr (by omega)⟩
   iterate 3 (first|refine fG ?_|(first|refine fG ?_|refine Y ?_))
   refine cH [1,5,6,7,24,25,26,27] ?_
   iterate 8 (first|refine fG ?_|(first|refine fG ?_|refine Y ?_))
   refine I (cR (ab:=t)) ?_;refine I (kY (b:=oK s) (hc:=λi u hu=>tT G y i u hu) (hF:=ar)) ?_;refine dj [F 0,F 0] λb9 aP=>?_;refine KW 0 (t:=oK s) (G:=oK s) (h1:=by simp[oK,Value.oneCell']) λaQ=>?_;refine cH [1,5,6,7,8,9,24,25,26] ?_;by_cases ak:t=ae
   .subst ak;have aI:=ao s y
    iterate 6 (first|refine fG ?_|(first|refine fG ?_|refine Y ?_))
    refine cH [1,5,6,7,8,9,24,25,26,34] ?_
    iterate 6 (first|refine fG ?_|(first|refine fG ?_|refine Y ?_))
    refine I (gj 3 (n:=F v) (hv:=by unfold ec;rw[dU,fT,eK,am];rfl)) ?_;refine Y ?_;refine I (cU (z:=F ((v+x.2:Nat):Int)) (kH rfl rfl) (by rw[gR])) ?_;refine Y ?_;refine iQ (Ki 3 (v:=[_]) (x:=ec (jS b (a.map Prod.fst) (pre++[x]))) rfl rfl rfl rfl (by kernel_rfl) (by simp[Value.oneCell']) (by unfold ec;rw[dL,tU,p,lD];omega) (by rw[OM,OI am K.symm];refine map_set (λn:Nat=>Value.int .i64 (n:Int)) _ ?_;rw[tU,p];exact L)) ?_;rintro _ _ aR rfl;refine cH [] ?_;refine mx [1,1,1,1,1] rfl ?_;refine abK ?_ rfl;exact⟨rfl,rfl⟩
   .have aL:=ai t s (by omega) y
    iterate 6 (first|refine fG ?_|(first|refine fG ?_|refine Y ?_))
    refine cH [1,5,6,7,8,9,24,25,26,34] ?_
    iterate 2 (first|refine fG ?_|(first|refine fG ?_|refine Y ?_))
    refine mx [1,1,1,1,1] rfl ?_
    iterate 3 (first|refine fG ?_|(first|refine fG ?_|refine Y ?_))
    refine cH [1,5,6,7,24,25,26] ?_;exact⟨kk-1,by omega,rfl,t+1,rfl,rfl,by omega,by omega⟩
  .rintro _ H1 ⟨q,hp,rfl⟩;refine⟨_,hp,λw'=>?_⟩;exact⟨D,rfl,rfl,rfl⟩
 .rintro _ _ _ c ⟨D,rfl,rfl,rfl⟩;refine mx [2,0,0] rfl ?_;refine yg [_,_,_] ?_
  iterate 5 (first|refine fG ?_|refine Y ?_)
  refine cH [2,3] ?_;refine mx [3,2] rfl ?_;refine vn ?_;refine⟨_,[_],[_],λz w2 ah Q=>im results70 rfl z ah _,gq _,⟨_,_,rfl,rfl⟩,.inr ⟨D,rfl,cD _⟩⟩;done
end
section
variable{b:PC}{d:O}{c:C (Nat×Nat)}{a:C Nat}
def sf (a:C Nat)(g:C (Nat×Nat))(f:Nat):Nat:=(g.map λe=>if fC a e.1=f then e.2 else 0).sum
def OJ (a:C Nat):∀(h:C (Nat×Nat))(f:C Nat){e g:Nat},f[e]? =some g->(h.foldl (se a) f)[e]? =some (g+sf a h e)
 |[],f,e,g,j=>by simpa[sf]using j
 |i::h,f,e,g,j=>by
  have k:(se a f i)[e]? =some (g+if fC a i.1=e then i.2 else 0):=by unfold se;rw[y9,j];by_cases l:fC a i.1=e<;>simp[l]
  rw[oZ,OJ a h _ k];unfold sf;rw[dA,iE,ma]
def Qe (hS:lU a):∀e,e<a.length->fC a (ph a e)=e:=by rcases hS with rfl|rfl<;>decide
def acZ (hS:lU a){h g:Nat}(m:g<a.length)(i:h<=g)(j:lY b a g=true):lY b a h=true:=by
 cases h with
 |zero=>rfl
 |succ h=>
  cases g with
  |zero=>omega
  |succ g=>
   have k:a.getD g 0<b.key:=nr j;have l:a.getD h 0<=a.getD g 0:=by
    have:∀f,f<a.length->∀e,e<a.length->e<=f->a.getD e 0<=a.getD f 0:=by rcases hS with rfl|rfl<;>decide
    exact this g (by omega) h (by omega) (by omega)
   exact gb (by omega)
def Zz (hS:lU a){e:Nat}(l:e<=a.length)(f:Nat):sf a (jG b a e) f=if f<e then b.ie+b.ix else 0:=by
 induction e with
 |zero=>simp[sf,jG]
 |succ g j=>
  have i:sf a (jG b a (g+1)) f=sf a (jG b a g) f+if fC a (ph a g)=f then b.ie+b.ix else 0:=by unfold sf;rw[Cj,dE,mV];simp
  rw[i,j (by omega),Qe hS g (by omega)];by_cases k:g=f
  .subst k;simp
  .rw[cJ k];by_cases h:f<g
   .rw[cM h,cM (by omega)];omega
   .rw[cJ h,cJ (by omega)]
def PI (k:Nat->Bool):∀j:Nat,∃e,e<=j/\(∀i,i<e->k i=true)/\(e<j->k e=false)
 |0=>⟨0,dT _,λi h=>by omega,λh=>by omega⟩
 |j+1=>by
  obtain⟨e,o,f,l⟩:=PI k j;by_cases n:e=j
  .subst n;cases h:k e with
   |false=>exact⟨e,by omega,f,λ_=>h⟩
   |true=>exact⟨e+1,dT _,λi m=>by
    rcases o4 (wj m)with g|g
    .exact f i g
    .subst g;exact h,λh=>by omega⟩
  .exact⟨e,by omega,f,λ_=>l (by omega)⟩
def OL (hS:lU a){e:Nat}(p:e<=a.length)(k:∀q,q<e->lY b a q=true)(l:e<a.length->lY b a e=false):jS b a (ky b++jG b a e)=jZ b a:=by
 refine qo λf=>?_;by_cases i:f<a.length
 .have n:(List.replicate a.length 0)[f]? =some 0:=by rw[CZ,cM i]
  unfold jS jZ;rw[OJ a _ _ n,eK,AS i];refine dq some ?_;have o:sf a (ky b++jG b a e) f=sf a (ky b) f+sf a (jG b a e) f:=by unfold sf;rw[dE,mV]
  rw[o,Zz hS p];have j:(f<e)↔lY b a f=true:=by
   refine⟨k f,λm=>?_⟩;rcases np f e with g|g
   .exact g
   .have:=acZ hS i g m;rw[l (by omega)]at this;cases this
  have g:sf a (ky b) f=(if fC a (8*b.width)=f then b.lu else 0)+((if fC a 32=f then b.ie else 0)+((if fC a 24=f then b.ix else 0)+0)):=rfl;rw[g];unfold BC;by_cases h:f<e
  .rw[cM h,cM (j.1 h)];omega
  .rw[cJ h,cJ (λm=>h (j.2 m))];omega
 .rw[nZ (by rw[tU];omega),nZ (by rw[x3];omega)]
def Zn {f k:M}(l:b.Ok)(o:ni b d cW f k c):Sn 70 [gV b f k] d λq p=>∃n e,q=PF [.slice n c.length e,F 0]/\p=[row (.slice n c.length e) 3 1 c.length (ec (jZ b (c.map Prod.fst)))]:=by
 obtain⟨m,g,h,i⟩:=PI (lY b (c.map Prod.fst)) c.length;have j:(c.map Prod.fst).length=c.length:=dL _;have:=Zo (r:=m) l o g h i
 rwa [OL o.sz (by rw[j];exact g) h (by rw[j];exact i)]at this
def OH (e:b.Ok)(q:Nat):BC b a q<=10000:=by
 have h:=e.dm;have l:=e.ga;have k:=e.queue;have j:=e.depth;obtain⟨m,f⟩:∃g,g=b.dm*b.ga:=⟨_,rfl⟩;have i:m<=16:=by rw[f];exact mb h.2 l.2
 have n:b.lu<=16*3:=by unfold PC.lu;rw[<-f];exact mb i j.2
 have o:b.ix<=4*64:=mb h.2 k.2;have p:b.ie<=16*7:=by unfold PC.ie;rw[<-f];exact mb i (by have:=e.et;have:=e.exact;omega)
 unfold BC;split<;>split<;>split<;>split<;>omega
def Gb:(fM b a).map Prod.fst=a:=by unfold fM;exact List.map_fst_zip (by rw[x3];exact dT _)
def J0 (o:b.Ok)(hS:lU a):tC (fM b a):=by
 have q:(fM b a).length=a.length:=xW;refine⟨?_,λj i=>?_,λs j t i r=>?_⟩
 .rw[q];rcases hS with rfl|rfl<;>decide
 .obtain⟨s,p⟩:=ka.1 i;obtain⟨g,h⟩:=Dx (i:=j.1) (h:=j.2) p;have k:=OH (a:=a) o s;have f:∀u∈a,1<=u/\u<=4096:=by rcases hS with rfl|rfl<;>decide
  obtain⟨l,m⟩:=f j.1 (eH g);exact⟨l,m,by omega⟩
 .obtain⟨g,-⟩:=Dx (i:=j.1) (h:=j.2) i;obtain⟨h,-⟩:=Dx (i:=t.1) (h:=t.2) r;have k:∀e,e+1<a.length->a.getD e 0<a.getD (e+1) 0:=by
   have:∀e,e<a.length->e+1<a.length->a.getD e 0<a.getD (e+1) 0:=by rcases hS with rfl|rfl<;>decide
   exact λe v=>this e (by omega) v
  have f:=k s (da.1 h).1;rw[jM,jM,g,h]at f;exact f
def asZ {t i:M}(w:b.Ok)(r:lU a)(L:Rd d cW 2 t (fM b a).length (lI (fM b a)))(Q:∃A g,i=.slice A 16 g):Sn 41 [gV b t i] d λu R=>u=F 0/\R=[]:=by
 have D:=J0 w r;have hl:=D.len;have G:ni b d cW t i (fM b a):=⟨D,by rw[Gb];exact r,L,Q⟩;obtain⟨A,g,rfl,-,-,P⟩:=id L;obtain⟨B,l,rfl,-,-,o⟩:=P.resolve_left (by omega);have fV:(jZ b a).length=(fM b a).length:=by rw[x3,xW]
 have H:∀x∈jZ b a,x<=10000:=λx ad=>by obtain⟨k,_,rfl⟩:=dz.1 ad;exact OH w k
 refine enter (g:=31) func41 rfl rfl [(0,.agg (cP b (.slice (some ⟨B,l,.none⟩) (fM b a).length g) i).toArray)] rfl ⟨rfl,trivial⟩ hS ?_;refine Mf (f:=cP b (.slice (some ⟨B,l,.none⟩) (fM b a).length g) i) λj af=>?_;refine K3 0 (f:=cP b (.slice (some ⟨B,l,.none⟩) (fM b a).length g) i) ?_;refine dd func70 (λd p=>Zn w (G.dx p)) ?_;rintro _ _ w2 ⟨z,q,rfl,rfl⟩;rw[Gb];refine K4 [1,15,16,17] ?_;refine dB (λae m R w'=>∃k:Nat,m=[(1,Z j),(15,.slice z (fM b a).length q),(16,F ((fM b a).length:Int)),(17,F k)]/\R=[row (.slice z (fM b a).length q) 3 1 (fM b a).length (ec (jZ b a)),cF j (cP b (.slice (some ⟨B,l,.none⟩) (fM b a).length g) i) 27]/\ae+k=(fM b a).length) (fM b a).length ⟨0,rfl,rfl,rfl⟩ ?_;rintro ae _ _ w3 ⟨k,rfl,rfl,hq⟩;refine cZ (λE=>?_) λE=>?_
 .obtain⟨y,K⟩:∃y,(fM b a)[k]? =some y:=⟨_,dr (by omega)⟩;obtain⟨f,h⟩:∃f,(jZ b a)[k]? =some f:=⟨_,dr (by omega)⟩;have ah:y.2=f:=by
   have X:=(Dx (i:=y.1) (h:=y.2) K).2;have ab:k<a.length:=by rw[<-xW (b:=b) (a:=a)];omega
   unfold jZ at h;rw[eK,AS ab]at h;injection h with h;rw[X,<-h]
  have ag:=H f (eH h);refine eQ λp=>?_;obtain⟨g2,c2,e⟩:=fs p (q:=0) rfl;injection e with T _ W;subst T;subst W;clear p;refine eL ?_;refine I (cR (ab:=k)) ?_;refine I (gj 0 (n:=F f) (hv:=by unfold ec;rw[dU,fT,eK,h];rfl)) ?_;refine N [1,5,6,15,16,17] ?_;refine cQ ?_;refine I (dH 1 (n:=.slice (some ⟨B,l,.none⟩) (fM b a).length g)) ?_;refine Y ?_;refine I (cR (ab:=k)) ?_;refine Y ?_;refine I (jd (n:=F y.2) (hc:=tT o K 1 (F y.2) rfl)) ?_;refine ir [1,15,16,17] ?_;exact⟨ae-1,by omega,k+1,rfl,rfl,by omega⟩
 .refine dI ?_;refine N [2] ?_;refine gT results41 ?_;exact⟨rfl,rfl⟩
end
section
open Go.RowKit Go.Shelf
def ajk:Go.Shelf.Ren:=⟨λ|6=>180|8=>151|9=>244|19=>198|20=>199|21=>280|22=>281|23=>282|24=>283|25=>284|26=>285|27=>286|28=>287|29=>288|36=>308|31=>249|32=>250|37=>309|38=>310|39=>311|41=>319|a=>a,λ|27=>264|29=>9|3=>3|32=>110|26=>264|0=>0|44=>333|46=>23|4=>4|36=>326|35=>325|41=>330|5=>5|9=>9|53=>394|57=>397|63=>446|64=>447|a=>a,λ|a=>a⟩
def To:SlLaysM.n6 prog ajk where
 mixed:=by kernel_rfl
 f6:=⟨"slices.Sort[[]string,string]",by decide,func180.trans (dq some (by kernel_rfl))⟩
 f8:=func151.trans (dq some (by kernel_rfl))
 f9:=⟨"slices.pdqsortOrdered[string]",by decide,func244.trans (dq some (by kernel_rfl))⟩
 f19:=func198.trans (dq some (by kernel_rfl))
 f20:=func199.trans (dq some (by kernel_rfl))
 f21:=⟨"slices.insertionSortOrdered[string]",by decide,func280.trans (dq some (by kernel_rfl))⟩
 f22:=⟨"slices.heapSortOrdered[string]",by decide,func281.trans (dq some (by kernel_rfl))⟩
 f23:=⟨"slices.breakPatternsOrdered[string]",by decide,func282.trans (dq some (by kernel_rfl))⟩
 f24:=⟨"slices.choosePivotOrdered[string]",by decide,func283.trans (dq some (by kernel_rfl))⟩
 f25:=⟨"slices.reverseRangeOrdered[string]",by decide,func284.trans (dq some (by kernel_rfl))⟩
 f26:=⟨"slices.partialInsertionSortOrdered[string]",by decide,func285.trans (dq some (by kernel_rfl))⟩
 f27:=⟨"cmp.Less[string]",by decide,func286.trans (dq some (by kernel_rfl))⟩
 f28:=⟨"slices.partitionEqualOrdered[string]",by decide,func287.trans (dq some (by kernel_rfl))⟩
 f29:=⟨"slices.partitionOrdered[string]",by decide,func288.trans (dq some (by kernel_rfl))⟩
 f31:=func249.trans (dq some (by kernel_rfl))
 f32:=func250.trans (dq some (by kernel_rfl))
 f36:=⟨"slices.siftDownOrdered[string]",by decide,func308.trans (dq some (by kernel_rfl))⟩
 f37:=⟨"slices.medianAdjacentOrdered[string]",by decide,func309.trans (dq some (by kernel_rfl))⟩
 f38:=⟨"slices.medianOrdered[string]",by decide,func310.trans (dq some (by kernel_rfl))⟩
 f39:=⟨"cmp.isNaN[string]",by decide,func311.trans (dq some (by kernel_rfl))⟩
 f41:=⟨"slices.order2Ordered[string]",by decide,func319.trans (dq some (by kernel_rfl))⟩
 t0:=underlying0
 a0:=Tryz.isAgg0
 z0:=Tryz.sizeOf0
 v0:=Tryz.zeroValue0
 t3:=underlying3
 a3:=Tryz.isAgg3
 z3:=Tryz.sizeOf3
 v3:=Tryz.zeroValue3
 t4:=underlying4
 a4:=Tryz.isAgg4
 z4:=Tryz.sizeOf4
 v4:=Tryz.zeroValue4
 t5:=underlying5
 a5:=Tryz.isAgg5
 z5:=Tryz.sizeOf5
 v5:=Tryz.zeroValue5
 t9:=underlying9
 a9:=Tryz.isAgg9
 z9:=Tryz.sizeOf9
 v9:=Tryz.zeroValue9
 t26:=underlying264
 a26:=Tryz.isAgg264
 z26:=Tryz.sizeOf264
 v26:=Tryz.zeroValue264
 t27:=underlying264
 a27:=Tryz.isAgg264
 z27:=Tryz.sizeOf264
 v27:=Tryz.zeroValue264
 t29:=underlying9
 a29:=Tryz.isAgg9
 z29:=Tryz.sizeOf9
 v29:=Tryz.zeroValue9
 t32:=underlying110
 a32:=Tryz.isAgg110
 z32:=Tryz.sizeOf110
 v32:=Tryz.zeroValue110
 t35:=underlying325
 a35:=Tryz.isAgg325
 z35:=Tryz.sizeOf325
 v35:=Tryz.zeroValue325
 t36:=underlying326
 a36:=Tryz.isAgg326
 z36:=Tryz.sizeOf326
 v36:=Tryz.zeroValue326
 t41:=underlying330
 a41:=Tryz.isAgg330
 z41:=Tryz.sizeOf330
 v41:=Tryz.zeroValue330
 t44:=underlying333
 a44:=Tryz.isAgg333
 z44:=Tryz.sizeOf333
 v44:=Tryz.zeroValue333
 t46:=underlying23
 a46:=Tryz.isAgg23
 z46:=Tryz.sizeOf23
 v46:=Tryz.zeroValue23
 t53:=underlying394
 a53:=Tryz.isAgg394
 z53:=Tryz.sizeOf394
 v53:=Tryz.zeroValue394
 t57:=underlying397
 a57:=Tryz.isAgg397
 z57:=Tryz.sizeOf397
 v57:=Tryz.zeroValue397
 t63:=underlying446
 a63:=Tryz.isAgg446
 z63:=Tryz.sizeOf446
 v63:=Tryz.zeroValue446
 t64:=underlying447
 a64:=Tryz.isAgg447
 z64:=Tryz.sizeOf447
 v64:=Tryz.zeroValue447
def ajh:Go.Shelf.Ren:=⟨λ|194=>181|a=>a,λ|31=>264|9=>9|3=>3|4=>4|0=>0|a=>a,λ|a=>a⟩
def Tj:Lays.n194 prog ajh where
 mixed:=by kernel_rfl
 f194:=func181.trans (dq some (by kernel_rfl))
 t0:=underlying0
 a0:=Tryz.isAgg0
 z0:=Tryz.sizeOf0
 v0:=Tryz.zeroValue0
 t3:=underlying3
 a3:=Tryz.isAgg3
 z3:=Tryz.sizeOf3
 v3:=Tryz.zeroValue3
 t4:=underlying4
 a4:=Tryz.isAgg4
 z4:=Tryz.sizeOf4
 v4:=Tryz.zeroValue4
 t9:=underlying9
 a9:=Tryz.isAgg9
 z9:=Tryz.sizeOf9
 v9:=Tryz.zeroValue9
 t31:=underlying264
 a31:=Tryz.isAgg264
 z31:=Tryz.sizeOf264
 v31:=Tryz.zeroValue264
def ajj:Go.Shelf.Ren:=⟨λ|5=>130|8=>151|7=>174|19=>198|20=>199|10=>224|11=>225|12=>226|13=>227|14=>228|15=>229|16=>230|17=>231|18=>232|30=>265|31=>249|32=>250|33=>266|34=>267|35=>268|40=>296|a=>a,λ|23=>22|25=>3|3=>3|32=>110|22=>22|0=>0|44=>333|46=>23|4=>4|36=>326|35=>325|41=>330|5=>5|9=>9|53=>394|57=>397|63=>446|64=>447|a=>a,λ|a=>a⟩
def Tn:SlLaysM.n5 prog ajj where
 mixed:=by kernel_rfl
 f5:=⟨"slices.Sort[[]int,int]",by decide,func130.trans (dq some (by kernel_rfl))⟩
 f7:=⟨"slices.pdqsortOrdered[int]",by decide,func174.trans (dq some (by kernel_rfl))⟩
 f8:=func151.trans (dq some (by kernel_rfl))
 f10:=⟨"slices.insertionSortOrdered[int]",by decide,func224.trans (dq some (by kernel_rfl))⟩
 f11:=⟨"slices.heapSortOrdered[int]",by decide,func225.trans (dq some (by kernel_rfl))⟩
 f12:=⟨"slices.breakPatternsOrdered[int]",by decide,func226.trans (dq some (by kernel_rfl))⟩
 f13:=⟨"slices.choosePivotOrdered[int]",by decide,func227.trans (dq some (by kernel_rfl))⟩
 f14:=⟨"slices.reverseRangeOrdered[int]",by decide,func228.trans (dq some (by kernel_rfl))⟩
 f15:=⟨"slices.partialInsertionSortOrdered[int]",by decide,func229.trans (dq some (by kernel_rfl))⟩
 f16:=⟨"cmp.Less[int]",by decide,func230.trans (dq some (by kernel_rfl))⟩
 f17:=⟨"slices.partitionEqualOrdered[int]",by decide,func231.trans (dq some (by kernel_rfl))⟩
 f18:=⟨"slices.partitionOrdered[int]",by decide,func232.trans (dq some (by kernel_rfl))⟩
 f19:=func198.trans (dq some (by kernel_rfl))
 f20:=func199.trans (dq some (by kernel_rfl))
 f30:=⟨"slices.siftDownOrdered[int]",by decide,func265.trans (dq some (by kernel_rfl))⟩
 f31:=func249.trans (dq some (by kernel_rfl))
 f32:=func250.trans (dq some (by kernel_rfl))
 f33:=⟨"slices.medianAdjacentOrdered[int]",by decide,func266.trans (dq some (by kernel_rfl))⟩
 f34:=⟨"slices.medianOrdered[int]",by decide,func267.trans (dq some (by kernel_rfl))⟩
 f35:=⟨"cmp.isNaN[int]",by decide,func268.trans (dq some (by kernel_rfl))⟩
 f40:=⟨"slices.order2Ordered[int]",by decide,func296.trans (dq some (by kernel_rfl))⟩
 t0:=underlying0
 a0:=Tryz.isAgg0
 z0:=Tryz.sizeOf0
 v0:=Tryz.zeroValue0
 t3:=underlying3
 a3:=Tryz.isAgg3
 z3:=Tryz.sizeOf3
 v3:=Tryz.zeroValue3
 t4:=underlying4
 a4:=Tryz.isAgg4
 z4:=Tryz.sizeOf4
 v4:=Tryz.zeroValue4
 t5:=underlying5
 a5:=Tryz.isAgg5
 z5:=Tryz.sizeOf5
 v5:=Tryz.zeroValue5
 t9:=underlying9
 a9:=Tryz.isAgg9
 z9:=Tryz.sizeOf9
 v9:=Tryz.zeroValue9
 t22:=underlying22
 a22:=Tryz.isAgg22
 z22:=Tryz.sizeOf22
 v22:=Tryz.zeroValue22
 t23:=underlying22
 a23:=Tryz.isAgg22
 z23:=Tryz.sizeOf22
 v23:=Tryz.zeroValue22
 t25:=underlying3
 a25:=Tryz.isAgg3
 z25:=Tryz.sizeOf3
 v25:=Tryz.zeroValue3
 t32:=underlying110
 a32:=Tryz.isAgg110
 z32:=Tryz.sizeOf110
 v32:=Tryz.zeroValue110
 t35:=underlying325
 a35:=Tryz.isAgg325
 z35:=Tryz.sizeOf325
 v35:=Tryz.zeroValue325
 t36:=underlying326
 a36:=Tryz.isAgg326
 z36:=Tryz.sizeOf326
 v36:=Tryz.zeroValue326
 t41:=underlying330
 a41:=Tryz.isAgg330
 z41:=Tryz.sizeOf330
 v41:=Tryz.zeroValue330
 t44:=underlying333
 a44:=Tryz.isAgg333
 z44:=Tryz.sizeOf333
 v44:=Tryz.zeroValue333
 t46:=underlying23
 a46:=Tryz.isAgg23
 z46:=Tryz.sizeOf23
 v46:=Tryz.zeroValue23
 t53:=underlying394
 a53:=Tryz.isAgg394
 z53:=Tryz.sizeOf394
 v53:=Tryz.zeroValue394
 t57:=underlying397
 a57:=Tryz.isAgg397
 z57:=Tryz.sizeOf397
 v57:=Tryz.zeroValue397
 t63:=underlying446
 a63:=Tryz.isAgg446
 z63:=Tryz.sizeOf446
 v63:=Tryz.zeroValue446
 t64:=underlying447
 a64:=Tryz.isAgg447
 z64:=Tryz.sizeOf447
 v64:=Tryz.zeroValue447
def Tm:Go.Shelf.Ren:=⟨λ|7=>92|10=>131|a=>a,λ|23=>161|26=>3|3=>23|28=>199|0=>0|27=>198|33=>209|4=>4|a=>a,λ|a=>a⟩
def Tl:SlLaysZI.n7 prog Tm where
 mixed:=by kernel_rfl
 f7:=⟨"maps.Keys[map[int]uint64,int,uint64]",by decide,func92.trans (dq some (by kernel_rfl))⟩
 f10:=⟨f131.name,by decide,func131.trans (dq some (by kernel_rfl))⟩
 t0:=underlying0
 a0:=Tryz.isAgg0
 z0:=Tryz.sizeOf0
 v0:=Tryz.zeroValue0
 t4:=underlying4
 a4:=Tryz.isAgg4
 z4:=Tryz.sizeOf4
 v4:=Tryz.zeroValue4
 t23:=underlying161
 a23:=Tryz.isAgg161
 z23:=Tryz.sizeOf161
 v23:=Tryz.zeroValue161
 t26:=underlying3
 a26:=Tryz.isAgg3
 z26:=Tryz.sizeOf3
 v26:=Tryz.zeroValue3
 t27:=underlying198
 a27:=Tryz.isAgg198
 z27:=Tryz.sizeOf198
 v27:=Tryz.zeroValue198
 t28:=underlying199
 a28:=Tryz.isAgg199
 z28:=Tryz.sizeOf199
 v28:=Tryz.zeroValue199
 t33:=underlying209
 a33:=Tryz.isAgg209
 z33:=Tryz.sizeOf209
 v33:=Tryz.zeroValue209
def Tk:Go.Shelf.Ren:=⟨λ|6=>91|8=>129|9=>130|11=>173|13=>151|12=>174|23=>198|24=>199|14=>224|15=>225|16=>226|17=>227|18=>228|19=>229|20=>230|21=>231|22=>232|25=>265|26=>249|27=>250|28=>266|29=>267|30=>268|31=>296|a=>a,λ|26=>3|28=>199|24=>22|0=>0|3=>3|37=>110|48=>333|50=>23|4=>4|40=>326|39=>325|45=>330|5=>5|9=>9|51=>394|55=>397|57=>446|58=>447|33=>209|a=>a,λ|a=>a⟩
def aji:SlLaysZI.n6 prog Tk where
 mixed:=by kernel_rfl
 f6:=⟨"slices.Sorted[int]",by decide,func91.trans (dq some (by kernel_rfl))⟩
 f8:=⟨"slices.Collect[int]",by decide,func129.trans (dq some (by kernel_rfl))⟩
 f11:=⟨"slices.AppendSeq[[]int,int]",by decide,func173.trans (dq some (by kernel_rfl))⟩
 t0:=underlying0
 a0:=Tryz.isAgg0
 z0:=Tryz.sizeOf0
 v0:=Tryz.zeroValue0
 t24:=underlying22
 a24:=Tryz.isAgg22
 z24:=Tryz.sizeOf22
 v24:=Tryz.zeroValue22
 t26:=underlying3
 a26:=Tryz.isAgg3
 z26:=Tryz.sizeOf3
 v26:=Tryz.zeroValue3
 t28:=underlying199
 a28:=Tryz.isAgg199
 z28:=Tryz.sizeOf199
 v28:=Tryz.zeroValue199
 i26:=by kernel_rfl
end
section
variable{b:O}{a c:Nat}
def aj2 (j:M)(e:C (C UInt8))(i:e.length=a)(u:a<=1000000)(g:Hl b (row j c 1 a (e.map encStr))):Sr 180 [j] b (row j c 1 a (e.map encStr)) λ_ q=>q=[row j c 1 a ((e.mergeSort λo p=>decide (o<=p)).map encStr)]:=by
 obtain⟨f,t,-⟩:=g.2.1;rcases f.2 with⟨rfl,rfl⟩|⟨x,cap,s,rfl,-,h,y,z,v,d⟩
 .obtain rfl:e=[]:=ll i;refine nY (AnyM.slices_Sort_string_none To .none 0 b) λw A l=>?_;obtain⟨rfl,rfl⟩:=l;exact⟨_,_,rfl,g,by simp⟩
 .subst i;have m:=Go.holds_of_block h (by rw[fT]at d;exact d);have n:=TJ (v:=e) (d:=e.length) (K:=.tuple #[]) g (a:=e.mergeSort λo p=>decide (o<=p)) (by simp) (dT _) (AnyM.slices_Sort_string To x 0 cap e b m (mS.1 h).1 (by omega));refine n.mono λB q l=>?_;rw[l.2,gS (by simp)]
def Y1 (d:C (C UInt8)):(Go.Lib.compact d).length<=d.length:=by unfold Go.Lib.compact Go.Lib.compactUpTo;rw[dL];exact gF (AV _ _) (by simp)
def acT (t:M)(d:C (C UInt8))(l:d.length=a)(A:a<=1000000)(h:Hl b (row t c 1 a (d.map encStr))):Sr 181 [t] b (row t c 1 a (d.map encStr)) λu w=>∃D f,u=.slice D (Go.Lib.compact d).length f/\w=[row u c 1 (Go.Lib.compact d).length ((Go.Lib.compact d).map encStr)]:=by
 obtain⟨g,z,-⟩:=h.2.1;rcases g.2 with⟨rfl,rfl⟩|⟨y,cap,x,rfl,-,q,p,E,B,e⟩
 .obtain rfl:d=[]:=ll l;refine nY (Any.slices_Compact_string_empty Tj .none 0 b) λm v i=>?_;obtain⟨rfl,rfl⟩:=i;exact⟨_,_,rfl,h,_,_,rfl,rfl⟩
 .subst l;have n:=Go.holds_of_block q (by rw[fT]at e;exact e);have j:=Y1 d;have o:=TJ (v:=d) (d:=(Go.Lib.compact d).length) (K:=.slice (some ⟨y,0,none⟩) (Go.Lib.compact d).length cap) h (a:=Go.Lib.compact d++List.replicate (d.length-(Go.Lib.compact d).length) []) (by simp;omega) j (nY (Any.slices_Compact_string Tj y 0 cap d b n (by omega) p) λm v i=>⟨i.1,i.2.elim λG s=>⟨G,#[],by rw[s];unfold Go.Sort.grow;rw[E4]⟩⟩);refine o.mono λu w i=>?_;obtain⟨rfl,rfl⟩:=i;exact⟨_,_,rfl,by rw[oF]⟩
end
def yl (a:C U):C M:=a.map Value.string
def ac3 (a b:C U):yl (a++b)=yl a++yl b:=dE
def lq (a:C SV):C U:=a.flatMap λb=>cE b.S.E
def NM {a:C SV}{b g:Nat}{c:SV}(f:a[b]? =some c):(lq (a.take b)++cE (c.S.E.take g)).length<=(lq a).length:=by
 have d:(lq (a.take b)++cE (c.S.E.take g)).Sublist (lq a):=by
  have e:a=a.take b++c::a.drop (b+1):=by obtain⟨h,rfl⟩:=da.1 f;rw[<-jP h,gJ]
  conv=>rhs;rw[e]
  unfold lq;rw[j9,ji];refine List.Sublist.append (gq _) ?_;exact((wg _ _).map _).trans (mr _ _)
 exact d.length_le
section
variable{b:O}{a:C SV}{sv:M}
def RT (j:me b cW sv a)(hn:a.length<=100)(hk:(lq a).length<=100000):Sn 139 [sv] b λr p=>∃A y,r=.slice A (qH (lq a)).length y/\p=[row r 9 1 (qH (lq a)).length (yl (qH (lq a)))]:=by
 obtain⟨A,y,rfl,_,R,L⟩:=id j.1;refine dS func139 hS ?_;refine N [0] ?_;refine N [0,3] ?_;refine N [3,8,9,10] ?_;refine Y ?_;refine gh 9 1 ?_;refine dB (λx P p ab=>∃(d:Nat)(h:M),P=[(3,h),(8,.slice A a.length y),(9,F a.length),(10,F d)]/\p=[row h 9 1 (lq (a.take d)).length (yl (lq (a.take d)))]/\x+d=a.length) a.length ⟨0,_,rfl,rfl,rfl⟩ ?_;rintro x _ _ w1 ⟨d,h,rfl,rfl,ak⟩;refine cZ (λs=>?_) λs=>?_
 .obtain⟨c,f⟩:∃c,a[d]? =some c:=⟨a[d]'(by omega),dr (by omega)⟩;obtain⟨g,o,rfl,_⟩:=L.resolve_left (by omega);obtain⟨f1,f2⟩:=j.form f;have hE:=(j.2 c (eH f)).1;obtain⟨B,K,k,-,z,Q⟩:=id hE;have aj:c.S.E.length<=(lq a).length:=by have:=NM (g:=c.S.E.length) f;rw[j6,cX,cE,dL]at this;omega
  refine df ?_;refine I (cR (ab:=d)) ?_;refine I (kY (b:=nc c) (hc:=λe h m=>j.at_ f m)) ?_;refine dj [J 0,vN,J 0,vN] λD ae=>?_;refine cO 0 (u:=nc c) (H:=nc c) (h1:=Ig f1 f2) λaf=>?_;refine cH [3,5,8,9,10] ?_;refine cQ ?_;refine I (dH 0 (n:=.slice B c.S.E.length K) (hv:=by rw[<-k];rfl)) ?_;refine N [3,8,9,10,15,16,17] ?_;refine Y ?_;refine cK [1] ?_;refine dB (λx P p ab=>∃(e:Nat)(h:M),P=[(3,h),(8,.slice (some ⟨g,o,.none⟩) a.length y),(9,F a.length),(10,F d),(15,.slice B c.S.E.length K),(16,F c.S.E.length),(17,F e)]/\p=[row h 9 1 (lq (a.take d)++cE (c.S.E.take e)).length (yl (lq (a.take d)++cE (c.S.E.take e)))]/\x+e=c.S.E.length) c.S.E.length ⟨0,_,rfl,by simp[cE],rfl⟩ ?_;clear h;rintro W _ _ ad ⟨e,h,rfl,rfl,al⟩;refine cZ (λt=>?_) λt=>?_
  .obtain⟨n,w⟩:∃n,c.S.E[e]? =some n:=⟨c.S.E[e]'(by omega),dr (by omega)⟩;obtain⟨g2,o2,rfl,_⟩:=Q.resolve_left (by omega);have am:=NM (g:=e) f;rw[k]at hE;refine df ?_;refine I (cR (ab:=e)) ?_;refine I (kY (b:=dy (some n)) (hc:=λq h m=>Cr hE w m)) ?_;refine dj [vE,J 0,J 0] λG ag=>?_;refine cO 0 (u:=dy (some n)) (H:=dy (some n)) (h1:=by simp[dy,Value.oneCell']) λah=>?_;refine cB ?_;refine gZ Cy (ae:=by decide) λH ai=>?_;refine dw (jo 2 Cy) ?_;rintro u2 _ w4 ⟨_,rfl⟩;refine fu [2] ?_;refine ir [3,8,9,10,15,16,17] ?_;refine⟨W-1,by omega,e+1,u2,rfl,?_,by omega⟩;have l:lq (a.take d)++cE (c.S.E.take (e+1))=(lq (a.take d)++cE (c.S.E.take e))++[n.1]:=by rw[ia,w,cE,dE,<-dJ];rfl
   rw[l];generalize lq (a.take d)++cE (c.S.E.take e)=X;rw[ac3,cX];rfl
  .obtain rfl:e=c.S.E.length:=by omega
   rw[j6];refine dI ?_;refine N [3,8,9,10] ?_;refine⟨x-1,by omega,d+1,h,rfl,?_,by omega⟩;have l:lq (a.take (d+1))=lq (a.take d)++cE c.S.E:=by rw[ia,f];simp[lq]
   rw[l]
 .obtain rfl:d=a.length:=by omega
  rw[j6];have v:yl (lq a)=((lq a).map b8).map encStr:=(TX _).symm;rw[v];refine dI ?_;refine cQ ?_;refine cY (_) [] func180 (cD _) (λb T i=>aj2 h ((lq a).map b8) (by simp) (by omega) i) ?_;rintro _ _ ad rfl;refine cB ?_;refine cY (_) [] func181 (cD _) (λb T i=>acT h _ (by simp) (by omega) i) ?_;rintro c _ w3 ⟨B,K,rfl,rfl⟩;obtain⟨_,u,-⟩:=Y2 (lq a);rw[u,TX,dL];refine db results139 ?_;exact⟨_,_,rfl,rfl⟩
end
structure qQ (i:O)(a:PC)(b:Nat->PS)(cv f sv:M)(d:C SV):Prop where
 hc:a.Ok
 len:d.length=a.dm
 DR:∀(c:Nat)(e:SV),d[c]? =some e->e.S=b c
 rs:me i cW sv d
 tb:Rd i cW 1 f 16 (dF a.table)
 cv:∃j k a,cv=.slice j k a
 ok:∀e∈d,Dh a e.S
 iC:∀c,c<a.dm->∀h,((b c).iC a h).1<=(b c).total/\((b c).iC a h).2<=(b c).total
 dY:rG a b<=9223372036854775808
 keys:(lq d).length<=39
 RB:fk ((lG a b).take a.top)<=9223372036854775808
 rest:∀g,g<a.dm->qJ a b g a.spread<=9223372036854775808
def qQ.dx {b l:O}{f:Nat->Prop}{m:C V}{h:PC}{k:Nat->PS}{d c sv:M}{g:C SV}(a:qQ b h k d c sv g)(e:cI b f m l)(i:me b f sv g)(j:Rd b f 1 c 16 (dF h.table)):qQ l h k d c sv g:=⟨a.hc,a.len,a.DR,i.dx e,j.dx e,a.cv,a.ok,a.iC,a.dY,a.keys,a.RB,a.rest⟩
def NL {c:PC}{e:Nat->PS}{b:C SV}(h:b.length=c.dm)(hS:∀(a:Nat)(d:SV),b[a]? =some d->d.S=e a):lq b=(List.range c.dm).flatMap λa=>cE (e a).E:=by
 have f:b.map (λd=>cE d.S.E)=(List.range c.dm).map λa=>cE (e a).E:=by
  refine qo λa=>?_;rw[eK,eK];by_cases g:a<c.dm
  .rw[AS g,dr (by omega)];simp only[tK];rw[hS a b[a] (dr (by omega))]
  .rw[nZ (by omega),nZ (by simp;omega)];rfl
 unfold lq;rw[List.flatMap_def,List.flatMap_def,f]
def QR (b:U):∀a:C U,(th b a).length<=a.length+1
 |[]=>by simp[th]
 |c::a=>by
  have:=QR b a;rw[th];split
  .simp only[eE];omega
  .split<;>simp
def RR:∀a:C U,(qH a).length<=a.length
 |[]=>dT _
 |b::a=>by have c:=QR b (qH a);have d:=RR a;show(th b (qH a)).length<=_;rw[eE];omega
section
variable{f:O}{a:PC}{b:Nat->PS}{c d sv h:M}{e:C SV}{g:C Int}
def qQ.ak (i:qQ f a b c d sv e):qH (lq e)=kS a b:=by rw[NL i.len i.DR];rfl
def qQ.NK (i:qQ f a b c d sv e):(kS a b).length<=39:=by rw[<-i.ak];exact gF (RR _) i.keys
def qQ.key (i:qQ f a b c d sv e){m:U}(j:m∈kS a b):m.size<=255:=by rw[<-i.ak,Ed]at j;obtain⟨n,k,j⟩:=rZ.1 j;obtain⟨o,l,rfl⟩:=dz.1 j;exact((i.ok n k).one o l).2.1
def qQ.qd (i:qQ f a b c d sv e):qd e=rG a b:=by
 have k:e.map (λn=>n.S.total)=(List.range a.dm).map λj=>(b j).total:=by
  refine qo λj=>?_;rw[eK,eK];have m:=i.len;by_cases l:j<a.dm
  .rw[AS l,dr (by omega)];simp only[tK];rw[i.DR j e[j] (dr (by omega))]
  .rw[nZ (by omega),nZ (by simp;omega)];rfl
 unfold Go.Proofs.YtdlpoonfcdoiiaaGreat.qd rG;rw[k]
def adA (i:qQ f a b c d sv e)(H:Rd f cW 1 h g.length (oT g))(ad:g.length<=1000000)(D:∀Q∈g,-4611686018427387904<=Q/\Q<=4611686018427387904):Sn 136 [gV a c d,sv,h] f λK T=>T=[row K 48 3 (kS a b).length (dn ((kS a b).map (ot a b)))]:=by
 have E:=i.ak;have ae:=i.NK;obtain⟨A,X,rfl,-⟩:=id i.rs.1;obtain⟨At,t,rfl,-⟩:=id i.tb;obtain⟨p,u,s,rfl⟩:=i.cv;obtain⟨S,B,rfl,-⟩:=id H;have ai:=i.hc.dm;refine enter (g:=27) func136 rfl rfl [(0,.agg (cP a (.slice p u s) (.slice At 16 t)).toArray),(1,_),(2,_)] rfl ⟨rfl,rfl,rfl,trivial⟩ hS ?_;refine Mf (f:=cP a (.slice p u s) (.slice At 16 t)) λl af=>?_;refine cB ?_;refine dd func139 (λf j=>RT (me.dx i.rs j) (by rw[i.len];omega) (by have:=i.keys;omega)) ?_;rintro _ _ w2 ⟨y,z,rfl,rfl⟩;rw[E];refine N [1,2,3,7,11,12,13] ?_;refine Y ?_;refine gh 48 3 ?_;refine dB (λq m T w'=>∃(k:Nat)(K:M),m=[(1,.slice A e.length X),(2,.slice S g.length B),(3,Z l),(7,K),(11,.slice y (kS a b).length z),(12,F ((kS a b).length:Int)),(13,F k)]/\T=[row K 48 3 k (dn (((kS a b).take k).map (ot a b))),row (.slice y (kS a b).length z) 9 1 (kS a b).length (yl (kS a b)),cF l (cP a (.slice p u s) (.slice At 16 t)) 27]/\q+k=(kS a b).length) (kS a b).length ⟨0,_,rfl,rfl,rfl⟩ ?_;rintro q _ _ w1 ⟨k,K,rfl,rfl,hq⟩;refine cZ (λG=>?_) λG=>?_
 .obtain⟨x,w⟩:∃x,(kS a b)[k]? =some x:=⟨(kS a b)[k]'(by omega),dr (by omega)⟩;have ah:=i.key (eH w);refine eQ λj=>?_;obtain⟨R,cap,v⟩:=fs j (q:=1) rfl;injection v with P _ ab;subst P;subst ab;clear j;refine df ?_;refine I (cR (ab:=k)) ?_;refine I (gj 1 (n:=.string x) (hv:=sw Value.string w)) ?_;refine K3 2 (f:=cP a (.slice p u s) (.slice At 16 t)) ?_;refine cQ ?_;refine dd func179 (λf j=>adJ i.hc i.len i.DR (me.dx i.rs j) (i.tb.dx j) ⟨_,_,_,rfl⟩ (λL o=>⟨(i.ok L o).rows,λr hr=>((i.ok L o).row r hr).1,by have:=(i.ok L o).len;omega,λQ hx=>by have h1:=((i.ok L o).one Q hx).2.2.2;have h2:=(i.ok L o).dY;omega⟩) (by omega) (λk hi=>i.iC k hi x) i.dY (H.dx j) ad D) ?_;rintro _ _ w3 ⟨rfl,rfl⟩;refine gZ yF (l:=dy (some (ot a b x))) (ae:=by decide) λW ag=>?_;refine dw (jo 1 yF (h1:=by simp[dy,Value.oneCell'])) ?_;rintro u2 _ w4 ⟨_,rfl⟩;refine fu [1,1,1] ?_;refine ir [1,2,3,7,11,12,13] ?_;refine⟨q-1,by omega,k+1,u2,rfl,?_,by omega⟩;rw[ia,w];show _=[row u2 48 3 (k+1) (dn ((_++[x]).map (ot a b))),_,_];rw[dE,x9];rfl
 .obtain rfl:k=(kS a b).length:=by omega
  rw[j6];refine dI ?_;refine N [6] ?_;refine cK [0] ?_;refine dP results136 ?_;rfl
end
def akO (b:C En)(c:Nat):b.take (min c b.length)=b.take c:=by
 rcases Nat.le_total c b.length with a|a
 .rw[o5 a]
 .rw[Fz a,gS a,gS (dT _)]
def Zt (b:C En)(c:Nat):b.drop (min c b.length)=b.drop c:=by
 rcases Nat.le_total c b.length with a|a
 .rw[o5 a]
 .rw[Fz a,qn a,qn (dT _)]
section
variable{b:O}{c:M}{a:C En}
def ale (j:Nat)(u:Rd b cW 3 c a.length (dn a))(o:(cE a).Nodup)(t:a.length<=39)(G:j<=1000000):Sn 135 [c,F j] b λH B=>∃f g,H=PF [f,g]/\B=[row f 48 3 ((m9 a).take j).length (dn ((m9 a).take j)),row g 48 3 ((m9 a).drop j).length (dn ((m9 a).drop j))]:=by
 have k:(m9 a).length=a.length:=(z8 a).length_eq;obtain⟨d,n⟩:∃d,d=min j a.length:=⟨_,rfl⟩;have y:d<=a.length/\d<=39:=by omega
 have p:(m9 a).take j=(m9 a).take d:=by rw[n,<-k,akO]
 have q:(m9 a).drop j=(m9 a).drop d:=by rw[n,<-k,Zt]
 have v:((m9 a).take d).length=d:=by rw[eD];omega
 have m:((m9 a).drop d).length=a.length-d:=by rw[iz];omega
 rw[p,q,v,m];refine dR func135 hS ?_;refine Ku func178 (λb e=>XH c a (u.dx e) o t) ?_;rintro _ _ K ⟨A,h,rfl,rfl⟩;refine kq λe=>?_;have s:a.length<=h:=by obtain⟨_,_,D,_,E,_⟩:=Rd.dM e (l:=0) rfl;cases D;exact E
 clear e;refine N [1,4,5,6] ?_;refine cQ ?_;refine I (wR (r:=(j:Int)) rfl rfl (by split<;>omega)) ?_;refine cC ?_;refine I (BS (r:=(d:Int)) rfl rfl (by split<;>omega)) ?_;refine N [1,4,5,6] ?_;refine Y ?_;refine gh 48 3 ?_;refine gh 48 3 ?_;refine oW [0,1,2,3,5,6,7,8,1004,1009,10,11] [row (.slice A a.length h) 48 3 a.length (dn (m9 a))] [_,_] (c8 2 rfl) λz=>?_;refine cQ ?_;refine cN rfl (qB 3 (w:=0) (x:=d) rfl underlying43 (by kernel_rfl) rfl ⟨_,rfl⟩) ?_;refine cQ ?_;refine cN rfl (qB 3 (w:=d) (x:=a.length) rfl underlying43 (by kernel_rfl) ⟨_,rfl⟩ rfl) ?_;refine eh rfl (BF 1 (r:=d) (t:=dn ((m9 a).take d)) yF rfl rfl rfl (λb e=>by
  have:=(Rd.dM e (l:=0) rfl).cut (b:=0) (f:=d) (by omega) (by omega)
  rwa [Be,qt,yX,BJ]at this) (ya _) (by omega) (by omega)) ?_
 rintro w _ L ⟨_,rfl⟩;refine⟨_,cD _,?_⟩;refine eh rfl (BF 2 (r:=a.length-d) (t:=dn ((m9 a).drop d)) yF rfl rfl rfl (λb e=>by
  have:=(Rd.dM e (l:=0) rfl).cut (b:=d) (f:=a.length) (by omega) (by omega)
  rwa [DP,<-m,BJ,j6,m]at this) (ya _) (by omega) (by omega)) ?_
 rintro x _ Q ⟨_,rfl⟩;refine⟨_,cD _,?_⟩;refine N [4,5] ?_;refine cK [1,1] ?_;refine dP results135 ?_;exact⟨w,x,rfl,by rw[dU,dU];rfl⟩
end
def iD (a:jg)(c b:M):C M:=[F a.eP,J a.total,c,J a.overflow,F a.ie,J a.rest,b]
section
variable{d:O}{b:PC}{c:Nat->PS}{e h sv g f:M}{j:C SV}{i:C Int}{a:C Nat}
def adf (b:PC)(c:Nat->PS):(cE ((kS b c).map (ot b c))).Nodup:=by
 have k:cE ((kS b c).map (ot b c))=kS b c:=by rw[cE,jj];exact(k5 λl _=>rfl).trans (wc _)
 rw[k];exact Ia (Ef _)
def WU (b:PC)(c:Nat->PS):(lG b c).length=(kS b c).length:=by rw[lG,(z8 _).length_eq,dL]
def JQ (k:qQ d b c e h sv j)(Q:Rd d cW 1 g i.length (oT i))(X:i.length<=1000000)(E:∀x∈i,-4611686018427387904<=x/\x<=4611686018427387904)(m:Nat)(hw:m<=4611686018427387904)(K:Rd d cW 1 f a.length (dF a))(av:a.length<=1000):Sn 95 [gV b e h,F m,sv,f,g] d λu H=>∃o p t w,u=.agg (iD (rF b c m a) (.slice o (rF b c m a).lines.length p) (.slice t a.length w)).toArray/\H=[row (.slice o (rF b c m a).lines.length p) 48 3 (rF b c m a).lines.length (dn (rF b c m a).lines),row (.slice t a.length w) 23 1 a.length (dF a)]:=by
 have G:=k.ak;have ab:=k.NK;have af:=k.dY;have S:=k.qd;have ad:=k.len;have D:=k.RB;have au:=WU b c;have ax:((lG b c).take b.top).length<=39:=by rw[eD];omega
 have fV:((lG b c).drop b.top).length<=39:=by rw[iz];omega
 have ae:=k.hc.top;have R:m9 ((kS b c).map (ot b c))=lG b c:=rfl;have L:((kS b c).map (ot b c)).length=(kS b c).length:=dL _;obtain⟨A,cp,rfl,-⟩:=id k.rs.1;obtain⟨At,y,rfl,-⟩:=id k.tb;obtain⟨s,z,v,rfl⟩:=k.cv;obtain⟨Ap,ar,rfl,-⟩:=id Q;obtain⟨t,w,rfl,-⟩:=id K;have aw:=k.hc.dm;refine enter (g:=59) func95 rfl rfl [(0,.agg (cP b (.slice s z v) (.slice At 16 y)).toArray),(1,_),(2,_),(3,_),(4,_)] rfl ⟨rfl,rfl,rfl,rfl,rfl,trivial⟩ hS ?_;refine Mf (f:=cP b (.slice s z v) (.slice At 16 y)) λT ag=>?_;refine dj [F 0,J 0,vN,J 0,F 0,J 0,vN] λW ah=>?_;refine cH [1,2,3,4,5,10] ?_;refine Y ?_;refine oW [0,1,2,4,5,1003,1006,7,8,9,10,11] [_,_] [] (ik _) λaz=>?_;refine cN rfl (di 1 (b:=cP b (.slice s z v) (.slice At 16 y))) ?_;refine cL ?_;refine eh rfl (eB func136 (λd l=>adA (k.dx l k.rs k.tb) (Q.dx l) X E)) ?_;rintro ua _ w2 ⟨_,rfl,rfl⟩;refine⟨[_],lF (l₁:=[_]) (l₂:=[_,_]),?_⟩;refine eh rfl (eB func135 (λd l=>ale b.top (by rw[L];exact Rd.dM l (l:=2) rfl) (adf b c) (by omega) (by omega))) ?_;rintro _ _ w3 ⟨_,rfl,la,lb,rfl,rfl⟩;rw[R];refine⟨[_,_,_],(lF (l₁:=[_,_]) (l₂:=[_,_])).append_right [_],?_⟩;refine N [1,2,3,5,10,11,12] ?_;refine Y ?_;refine eQ λl=>?_;obtain⟨o,p,rfl⟩:=fS l (p:=2) rfl;clear l;refine cQ ?_;refine dd func137 (λd l=>RY (me.dx k.rs l) (by omega) (by omega)) ?_;rintro _ _ w4 ⟨rfl,rfl⟩;rw[S];refine KW 0 λai=>?_;refine KW 0 λaj=>?_;refine KW 0 λal=>?_;refine cB ?_;refine dd func107 (λd l=>RC (Rd.dM l (l:=2) rfl) (by omega) D) ?_;rintro _ _ w5 ⟨rfl,rfl⟩;refine cB ?_;refine dd func138 (λd l=>S7 (rG b c) (fk ((lG b c).take b.top)) d (by omega)) ?_;rintro _ _ w6 ⟨rfl,rfl⟩;refine KW 0 λam=>?_;refine cB ?_;refine dd func139 (λd l=>RT (me.dx k.rs l) (by omega) (by have:=k.keys;omega)) ?_;rintro _ _ w7 ⟨Ak,ck,rfl,rfl⟩;rw[G];refine KW 1 λan=>?_;refine K3 2 (f:=cP b (.slice s z v) (.slice At 16 y)) ?_;refine Y ?_;refine dd func141 (λd l=>adN k.hc k.len k.DR (me.dx k.rs l) k.ok (by omega) ⟨_,_,rfl⟩ k.rest) ?_;rintro _ _ w8 ⟨rfl,rfl⟩;refine dd func140 (λd l=>ald (Eh b c) lb ((lG b c).drop b.top) d (Rd.dM l (l:=4) rfl) (by omega)) ?_;rintro _ _ w9 ⟨rfl,rfl⟩;refine KW 1 λao=>?_;refine cB ?_;refine dd func72 (λd l=>Dw (.slice t a.length w) a.length (dF a) d (K.dx l) (λu hu=>by obtain⟨x,_,rfl⟩:=dz.1 hu;rfl) (by omega)) ?_;rintro _ _ ay ⟨q,r,rfl,rfl⟩;refine KW 2 λap=>?_;refine K3 2 (f:=iD (rF b c m a) (.slice o ((lG b c).take b.top).length p) (.slice q a.length r)) ?_;refine cO 2 (u:=iD (rF b c m a) (.slice o ((lG b c).take b.top).length p) (.slice q a.length r)) (H:=iD (rF b c m a) (.slice o ((lG b c).take b.top).length p) (.slice q a.length r)) (h1:=by simp[iD,Value.oneCell']) λaq=>?_;refine cH [10] ?_;refine cK [2,3,0] ?_;refine eM ?_;refine⟨_,_,λB P l=>eW results95 (eX (e4 0 rfl underlying45 rfl (by kernel_rfl) rfl) eY) B P _ l,fO _ _,?_⟩;exact⟨_,_,_,_,rfl,rfl⟩
end
def Bu (_:M):cG (DataW Unit×C MemPlace):=some (.nil,[])
def adL {h:dX}{j:dk}(m:h.underlying j=some (.int .i64)){D:TypeDesc}{s:Type}{r:s->M}{B:O}{A clock:Nat}{es:Array MapEntry}{f:C (Int×s)}(v:B.heap[A]? =some (.map es clock))(g:js D (Value.int .i64) r es clock f)(E:f.length<=maxLen)(o:∀a∈f,(Lit.int .i64 a.1).wf=true):∃t:DataW Unit,B.ownsMap h j Bu A f.length t/\(Go.intKeys t).Perm (f.map Prod.fst)/\Maps.size t=f.length:=by
 have q:es.size=f.length:=by have:=dq List.length g.2;simpa using this
 have e:∀b∈es.toList,∃a∈f,b.key=.int .i64 a.1:=λb e=>by
  have i:(b.key,b.val)∈f.map λa=>(Value.int .i64 a.1,r a.2):=by rw[<-g.2];exact dz.2 ⟨b,e,rfl⟩
  obtain⟨a,d,c⟩:=dz.1 i;exact⟨a,d,(dq Prod.fst c).symm⟩
 have p:∀b∈es.toList,∀w:Int,b.key=.int .i64 w->WideElems.rg h j Bu b=(.int .i64 w,.nil):=λb k w n=>by obtain⟨a,d,c⟩:=e b k;rw[c]at n;cases n;obtain⟨y,z,x⟩:=b;dsimp only at c;subst c;exact WideElems.rg_of (WideElems.rd_mk (Maps.keyOf_int_mk m (o a d)) (yv:=(.nil,[])) rfl)
 refine⟨_,⟨es,clock,v,⟨by omega,g.1,λb k=>?_⟩,by omega,rfl⟩,?_,?_⟩
 .obtain⟨a,d,c⟩:=e b k;obtain⟨y,z,x⟩:=b;dsimp only at c;subst c;exact⟨_,WideElems.rd_mk (Maps.keyOf_int_mk m (o a d)) (yv:=(.nil,[])) rfl⟩
 .show(((es.toList.map (WideElems.rg h j Bu)).foldr DataW.insert []).map λa=>Go.intOf a.1).Perm _;refine((WideShapes.sorted_perm _).map _).trans (List.Perm.of_eq ?_);rw[jj];have i:es.toList.map (λc=>c.key)=f.map λa=>Value.int .i64 a.1:=by have:=dq (List.map Prod.fst) g.2;simpa[jj,CS]using this
  have l:(es.toList.map ((λa=>Go.intOf a.1)∘WideElems.rg h j Bu)).map (Value.int .i64)=es.toList.map (λc=>c.key):=by rw[jj];refine k5 λb k=>?_;obtain⟨a,d,c⟩:=e b k;show Value.int .i64 (Go.intOf (WideElems.rg h j Bu b).1)=b.key;rw[p b k a.1 c,c];rfl
  rw[i]at l;have u:=dq (List.map λH:M=>match H with|.int _ G=>G|_=>0) l;simpa[jj,CS]using u
 .show((es.toList.map (WideElems.rg h j Bu)).foldr DataW.insert []).length=_;rw[length_sorted,dL];simpa using q
def ajR {a b:C Int}(e:a.Pairwise (·<=·))(f:b.Pairwise (·<=·))(g:a.Perm b):a=b:=List.Perm.eq_of_pairwise (le:=λa b=>a<=b) (λa b _ _ c d=>Int.le_antisymm c d) e f g
def tx (a:C (Int×Nat)):C Nat:=vF (a.map λb=>b.1.toNat)
def Q1 (b:Nat):∀a:C Nat,(su b a).Perm (b::a)
 |[]=>cD _
 |c::a=>by
  rw[su];split
  .exact((Q1 b a).cons c).trans (List.Perm.swap ..)
  .exact cD _
def H5:∀a:C Nat,(vF a).Perm a
 |[]=>cD _
 |b::a=>(Q1 b (vF a)).trans ((H5 a).cons b)
def atd {b:C (Int×Nat)}{a:C Int}(d:a.Perm (b.map Prod.fst))(g:(b.map Prod.fst).Nodup)(h0:∀e∈b,0<=e.1):(a.mergeSort λi j=>decide (i<=j)).map (Value.int .i64)=ec (tx b):=by
 have f:b.map Prod.fst=(b.map λe=>e.1.toNat).map λo:Nat=>(o:Int):=by rw[jj];exact k5 λe d=>(rY (h0 e d)).symm
 have h:(b.map λe=>e.1.toNat).Nodup:=by rw[f]at g;exact yV _ (λl m k p=>k (by rw[p])) g
 have c:(tx b).map (λo:Nat=>(o:Int))=a.mergeSort λi j=>decide (i<=j):=by
  refine ajR ?_ ?_ ?_
  .exact oE.2 ((Mv h).imp λk=>by omega)
  .have:=Jl (le:=λi j:Int=>decide (i<=j)) (λl m q c n=>by
    simp only[fU]at*;exact Int.le_trans c n) (λl m=>by
    simp only[jh,fU];exact Int.le_total l m) a
   exact this.imp λk=>nr k
  .refine((H5 _).map _).trans ?_;rw[<-f];exact d.symm.trans (Fo _ _).symm
 rw[<-c,jj];rfl
def ac0 (a:Nat)(b:O):Sn 92 [.map (some a)] b λf d=>∃c,f=.func (.func 131) #[] #[Z c]/\d=[cF c [.map (some a)] 161]:=by refine nY (Bf.1 (AnyZI.keys_in Tl Fence.wide 5 trivial rfl (some a) b)) λh g e=>?_;obtain⟨rfl,rfl⟩:=e;exact⟨_,_,rfl,(cI.start b cW).alloc [.map (some a)] 161,_,rfl,rfl⟩
def ajP (f:Nat):AnyZI.SortsIn prog Tk Fence.wide f:=⟨λcF c cap e W d a b=>Bf.2 (AnyM.slices_Sort_int Tn cF c cap e W d a b),λg cap W=>Bf.2 (AnyM.slices_Sort_int_none Tn g cap W)⟩
def ajS {o:O}(p y:Nat){L:TypeDesc}{e:C (Int×Nat)}(v:o.cell? ⟨p,0,.none⟩=some (.map (some y)))(k:∃es clock,o.heap[y]? =some (.map es clock)/\js L (Value.int .i64) Ci es clock e)(R:e.length<=1000000)(s:∀q∈e,0<=q.1/\q.1<=9223372036854775807)(D:(e.map Prod.fst).Nodup):Sn 91 [.func (.func 131) #[] #[Z p]] o λS K=>K=[row S 3 1 (tx e).length (ec (tx e))]:=by
 obtain⟨es,clock,k,B⟩:=k;obtain⟨x,l,d,i⟩:=adL (h:=prog) (j:=3) underlying3 k B (by unfold maxLen;omega) (λq d=>by have:=s q d;have b:IntKind.min .i64= -9223372036854775808:=rfl;have f:IntKind.max .i64=9223372036854775807:=rfl;unfold Lit.wf;simp only[iu,fU,b,f];omega);have w:p<o.heap.size:=Js o ⟨p,0,.none⟩ v;have m:SeqGives Fence.wide 2 prog 131 #[Z p] encZ (λn=>n.Perm (Go.intKeys x)) (Maps.size x) o:=AnyZI.keys_gives (ρ:=Tm) {Tl with} Fence.wide _ trivial rfl (by omega) p y e.length x o w v l;have A:=AnyZI.sorted_in aji Fence.wide 5 trivial trivial trivial trivial rfl (by omega) (ajP _) (enters_of func130 (by kernel_rfl) rfl) 131 #[Z p] trivial (enters_of func131 (by kernel_rfl) rfl) _ _ (by rw[i];unfold maxLen;omega) (by rw[i];omega) _ m;refine nY (Bf.1 A) λT G Q=>?_;obtain⟨H,n,rfl,hS,c,-,a⟩:=Q;have t:=hS.trans d;have r:=atd t D (λq d=>(s q d).1);have u:(tx e).length=n.length:=by have:=dq List.length r;simpa[ec]using this.symm
 refine⟨H,[row H 3 1 (tx e).length (ec (tx e))],rfl,⟨⟨a.os,a.tape,a.output,a.size,λE g _=>a.block E g⟩,⟨?_,?_,by simp⟩,trivial⟩,rfl⟩
 .rw[u,<-r];show G.ownsRow 0 _ _ _ _ _;refine⟨c.1,c.2.imp id ?_⟩;rintro⟨z,cap,h,b,f,j⟩;exact⟨z,cap,h,b,gK _,j⟩
 .intro E g;rcases c.2 with⟨b,_⟩|⟨z,cap,h,b,f,j,_⟩
  .subst b;exact absurd g (by simp[row,Value.ownBlock])
  .subst b;have:z=E:=by simpa[row,Value.ownBlock]using g
   subst this;exact⟨(mS.1 j).1,.inl f⟩
section
variable{i j r e:Nat}{c:PC}{k:C Nat}{g h:M}{l:O}{f n m q:V}{b d p:C SS}{a:SS}{o:dg}
def aaD {t:C PQ}(s:Nat):((t.map PQ.ev).take s)++(t.drop s).map PQ.ev=t.map PQ.ev:=by rw[<-uN,<-dE,gJ]
def tN.drain {t:Nat}{z:C TW}{G:V}(u:tN c e a):tN c e (SS.mk a.s (a.D++(a.Q.map PQ.ev).take t) (a.Q.drop t) z G):=by
 have v:(a.D++(a.Q.map PQ.ev).take t)++(a.Q.drop t).map PQ.ev=a.D++a.Q.map PQ.ev:=by rw[dJ,aaD]
 refine⟨λv w=>?_,λx A=>u.hQ x (tG A),λH=>?_,λK B=>?_⟩
 .rcases dV.1 w with w|w
  .exact u.hD v w
  .obtain⟨L,E,rfl⟩:=dz.1 (qq w);exact(u.hQ L E).1
 .show eA (ez H ((a.D++(a.Q.map PQ.ev).take t)++(a.Q.drop t).map PQ.ev))<=_;rw[v];exact u.sm H
 .have y:K∈(a.D++(a.Q.map PQ.ev).take t)++(a.Q.drop t).map PQ.ev:=B;rw[v]at y;exact u.lo K y
def atu {t:Nat}{b d:C Ev}(s:b.Sublist d):eA (ez t b)<=eA (ez t d):=by unfold eA ez;exact xn (((s.filter _).map _).map _)
def tN.close {v:Nat}{w:C TW}{A:V}(u:tN c e a):tN c e (SS.mk a.s (a.D.filter λt=> !decide (t.1=v)) a.Q w A):=by have x:((a.D.filter λt=> !decide (t.1=v))++a.Q.map PQ.ev).Sublist (a.D++a.Q.map PQ.ev):=vZ.append (gq _);exact⟨λt y=>u.hD t (kE.1 y).1,u.hQ,λB=>gF (atu x) (u.sm B),λE z=>u.lo E (x.subset z)⟩
def RO {y:SS}{v:SS->Prop}(t:∀s∈b++a::d,v s)(x:v y):∀s∈b++y::d,v s:=λs w=>by
 rcases dV.1 w with u|u
 .exact t s (gI _ u)
 .rcases dh.1 u with rfl|u
  .exact x
  .exact t s (iA _ (dN _ u))
def adH {v:SS->Prop}(s:∀t∈b++a::d,v t):∀t∈b++d,v t:=λt u=>s t (by
 rcases dV.1 u with s|s
 .exact gI _ s
 .exact iA _ (dN _ s))
def aj1 (t:Nat)(G:c.Ok)(K:∃b y c,g=.slice b y c)(B:∀z∈b++a::d,qv i j c g h e z)(E:(b++a::d).length=c.dm)(X:fQ i j (nz c k) (lhs (b++a::d)) (nN (b++a::d)) f)(h0:atV l [f,a.r])(P:Rd l (gO [f,a.r]) 1 h 16 (dF c.table)):aAg 93 [na a,F t] l [f,a.r] λ_ H=>∃v x,H=[v,x.r]/\x.s=a.s/\x.sh=a.sh.drain t/\qv i j c g h e x/\fQ i j (nz c k) (lhs (b++x::d)) (nN (b++x::d)) v:=by
 have w:=B _ (iA _ (dQ ..));have W:=Ml (f:=k) G (adH B) (by simp only[cX,eE]at E|-;omega);obtain⟨ab,p2⟩:=wV b d a;refine(ajp (s:=e) t G K W (X.perm ab p2) w.r h0 P w.f.hD w.f.hQ w.f.sm w.f.lo).mono ?_;rintro u H ⟨v,T,A,rfl,rfl,L,R⟩;refine⟨v,SS.mk a.s (a.D++(a.Q.map PQ.ev).take (kK t (a.Q.map PQ.ev))) (a.Q.drop (kK t (a.Q.map PQ.ev))) A T,rfl,rfl,?_,⟨R,w.f.drain⟩,?_⟩
 .unfold SS.sh e8.drain;rw[uM]
 .obtain⟨p3,p4⟩:=wV b d (SS.mk a.s (a.D++(a.Q.map PQ.ev).take (kK t (a.Q.map PQ.ev))) (a.Q.drop (kK t (a.Q.map PQ.ev))) A T);exact L.perm p3.symm p4.symm
def aj0 (v:Nat)(K:c.Ok)(B:∀y∈b++a::d,qv i j c g h e y)(L:fQ i j (nz c k) (lhs (b++a::d)) (nN (b++a::d)) f)(h0:atV l [f,a.r]):aAg 97 [na a,F v] l [f,a.r] λ_ X=>∃w x,X=[w,x.r]/\x.s=a.s/\x.sh=a.sh.close v/\qv i j c g h e x/\fQ i j (nz c k) (lhs (b++x::d)) (nN (b++x::d)) w:=by have G:=B _ (iA _ (dQ ..));obtain⟨R,S⟩:=wV b d a;have P:=K.depth;refine(ajo v (L.perm R S) G.r (by omega) h0).mono ?_;rintro u X ⟨w,H,z,rfl,rfl,A,E⟩;refine⟨w,SS.mk a.s (a.D.filter λt=> !decide (t.1=v)) a.Q z H,rfl,rfl,rfl,⟨E,G.f.close⟩,?_⟩;obtain⟨T,W⟩:=wV b d (SS.mk a.s (a.D.filter λt=> !decide (t.1=v)) a.Q z H);exact A.perm T.symm W.symm
end
def SJ {e:O}{k:M}{l:C (C Nat)}{o:V}(i:Dg k l o)(m:o.ok e):o7 e cW k l:=by
 obtain⟨a,rfl,rfl⟩:=i;have f:(row k 25 1 a.length (a.map Prod.fst)).ok e:=um m (f:=0) rfl;have g:(cz (a.map qa)).ok e:=um m (f:=1) rfl;refine⟨a.map Prod.fst,by simp,by rw[dL];exact xe f,λn r q b d=>?_⟩;rw[eK]at b d;cases c:a[n]?with
 |none=>rw[c]at b;cases b
 |some p=>rw[c]at b d;cases b;cases d;have h:(qa p).ok e:=um g (f:=n) (by rw[eK,c];rfl);exact xe h
def Wi (a:SV)(c b:V):Prop:=c=row a.e 302 3 a.S.E.length (dn a.S.E)/\Dg a.rv a.S.R b
def Nv (d:C SV)(a:C V):Prop:=∀e∈d,∃c b,Wi e c b/\c∈a/\b∈a
def L9 {l:O}{sv:M}{c:C SV}{a:C V}{o:Nat}(j:(row sv o 4 c.length (c.flatMap nc)).ok l)(g:Nv c a)(b:(cz a).ok l):me l cW sv c:=by refine⟨xe j,λp k=>?_⟩;obtain⟨n,m,⟨rfl,d⟩,e,f⟩:=g p k;obtain⟨q,h⟩:=ka.1 e;obtain⟨r,i⟩:=ka.1 f;exact⟨xe (um b h),SJ d (um b i)⟩
def ajJ {c:PC}(d:c.Ok){e:kO}(a:Bm c (jU c e) e)(g:eA e<=9223372036854775808):Dh c (jU c e):=by have h:=d.et;have i:=d.exact;exact⟨by rw[a.total];exact g,a.iO.2,by have:=a.len;omega,a.nD,λf b=>⟨(a.one f b).2.2.2.2.2.1,(a.one f b).2.2.2.2.2.2,(a.one f b).2.2.1,(a.one f b).2.2.2.1⟩,a.owns,a.rows,a.row⟩
def akc {e:Nat}{b:Nat->Nat}{d c:Nat}(g:((List.range e).map b).sum<=d)(a:c<e):b c<=d:=by refine gF ?_ g;obtain⟨h,i,f⟩:=pJ (lE.2 a);rw[f];simp only[dE,dA,mV,iE];omega
def Rs {e:Type}(d:Nat->C e)(c:Nat):∀a:Nat,(∀b,b<a->(d b).length<=c)->((List.range a).flatMap d).length<=a*c
 |0,_=>by simp
 |a+1,f=>by have h:=Rs d c a λb g=>f b (by omega);have:=f a (by omega);rw[pL,j9,cX,ji,CX,eN,mu];omega
def LL {L:O}{b:PC}{c:Nat->kO}{o y sv:M}{z:C SV}(f:b.Ok)(i:z.length=b.dm)(hS:∀(a:Nat)(B:SV),z[a]? =some B->B.S=jU b (c a))(r:∀a,a<b.dm->∀D∈c a,lQ D)(h:((List.range b.dm).map λa=>eA (c a)).sum<=9223372036854775808)(v:∀a,a<b.dm->∀A,wt (c a) A≠0->a∈b.set A)(u:me L cW sv z)(w:Rd L cW 1 y 16 (dF b.table))(s:∃W n b,o=.slice W n b):qQ L b (λa=>jU b (c a)) o y sv z:=by
 have x:∀a,a<b.dm->eA (c a)<=9223372036854775808:=λa d=>akc h d;have e:∀a,a<b.dm->Bm b (jU b (c a)) (c a):=λa d=>T5 f (r a d) (x a d);have R:=f.dm;have k:rG b (λa=>jU b (c a))=((List.range b.dm).map λa=>eA (c a)).sum:=by unfold rG;congr 1;exact k5 λa d=>(e a (lE.1 d)).total
 have m:=SN (a:=b) (b:=λa=>jU b (c a)) (c:=c) f e v 0 [];refine⟨f,i,hS,u,w,s,λB K=>?_,λa d A=>?_,by rw[k];exact h,?_,?_,λp X=>?_⟩
 .obtain⟨a,d⟩:=ka.1 K;have Q:=(da.1 d).1;rw[hS a B d];exact ajJ f (e a (by omega)) (x a (by omega))
 .have:=(e a d).iC A;exact⟨gF (gF this.1 this.2.1) this.2.2.2,this.2.2.2⟩
 .rw[NL (e:=λa=>jU b (c a)) i hS];have j:=f.et;have q:=f.exact;refine gF (Rs _ 7 b.dm λa d=>?_) (by omega);have:=(e a d).len;rw[cE,dL];omega
 .have j:fk ((lG b (λa=>jU b (c a))).take b.top)+_=_:=m.RH;omega
 .unfold qJ;have T:=f.spread;have j:((List.range b.spread).map λa=>(jU b (c ((p+a) % b.dm))).iO).sum<=((List.range b.spread).map λa=>(jU b (c ((p+a) % b.dm))).total).sum:=vG _ λa _=>(e _ (uQ _ (by omega))).iO.2;have q:((List.range b.spread).map λa=>(jU b (c ((p+a) % b.dm))).total)=((List.range b.spread).map λa=>(p+a) % b.dm).map λa=>(jU b (c a)).total:=by rw[jj];rfl
  have E:=T3 (h:=b.dm) (d:=λa=>(jU b (c a)).total) (c:=(List.range b.spread).map λa=>(p+a) % b.dm) (oE.2 (List.Pairwise.imp_of_mem (λ{a P} d H t D=>t (RU (by have:=lE.1 d;omega) (by have:=lE.1 H;omega) D)) zb)) (λa d=>by obtain⟨P,_,rfl⟩:=dz.1 d;exact uQ _ (by omega));have G:((List.range b.dm).map λa=>(jU b (c a)).total).sum<=9223372036854775808:=by
   have:rG b (λa=>jU b (c a))<=9223372036854775808:=by rw[k];exact h
   exact this
  rw[q]at j;exact gF j (gF E G)
def Tp {a:C e8}{g:e8->e8}{f o:C SS}{p e:SS}{b:Nat}(h:(f++p::o).map SS.sh=(a.take b).map g++a.drop b)(q:f.length=b)(n:e.sh=g p.sh):(f++e::o).map SS.sh=(a.take (b+1)).map g++a.drop (b+1):=by
 have d:b<a.length:=by have:=dq List.length h;simp only[dL,cX,eE,eD,iz]at this;omega
 have k:a.drop b=a[b]::a.drop (b+1):=jP d;have m:a.take (b+1)=a.take b++[a[b]]:=by rw[ia,dr d];rfl
 rw[k,dE,dA]at h;have l:(f.map SS.sh).length=((a.take b).map g).length:=by rw[dL,dL,eD];omega
 obtain⟨i,c⟩:=List.append_inj h l;injection c with c j;rw[dE,dA,i,n,c,j,m,dE,dJ];rfl
def ake (a:C SV)(b:SV):(a++[b]).flatMap nc=a.flatMap nc++nc b:=by rw[j9,ji,CX,eN]
def Es:C M:=[F 0,J 0,vN,J 0,F 0,J 0,vN]
def Ui:fB prog 201 206 4 64 (.agg #[J 0,vN,J 0,vN]):=.mk' underlying201 (by kernel_rfl) rfl (by decide)
section
variable{j:Nat}{b:PC}{n:C Nat}{c d m:M}{i:O}{h f g:V}{k:CA}{e:C SS}{a:dg}{l:C Int}
def YK (t:Nat)(ay:t<=4611686018427387904)(hc:b.Ok)(aA:∃ai aS b,c=.slice ai aS b)(hI:jr b n c d j k e h f a)(h7:a.fN.length=7)(hp:Rd i (cz (dO b c d k e h f g)).fq 1 m l.length (oT l))(hP:l.length<=1000000)(aJ:∀ab∈l,-4611686018427387904<=ab/\ab<=4611686018427387904)(ax:((List.range b.dm).map λo=>eA (ez t ((a.iI o).drain t).D)).sum<=9223372036854775808)(aN:∀o,o<b.dm->∀w,wt (ez t ((a.iI o).drain t).D) w≠0->o∈b.set w)(h0:Hl i (cz (dO b c d k e h f g))):Sr 58 [Z k.k,F t,m] i (cz (dO b c d k e h f g)) λu H=>∃ak a0 ag G K A Q,u=.agg (iD (a.close b t).2 (.slice G (a.close b t).2.lines.length K) (.slice A a.fN.length Q)).toArray/\H=[cz (dO b c d k ag ak a0 g),row (.slice G (a.close b t).2.lines.length K) 48 3 (a.close b t).2.lines.length (dn (a.close b t).2.lines),row (.slice A a.fN.length Q) 23 1 a.fN.length (dF a.fN)]/\jr b n c d j k ag ak a0 (a.close b t).1:=by
 obtain⟨w,x,p,lg,sv,bv,skip,T,wm⟩:=k;obtain⟨aV,am,aX,aQ,aD,aM⟩:=id hI;have bh:=hc.dm;have a4:a.sh.length=b.dm:=by rw[aX,dL,am]
 obtain⟨W,cp,aY⟩:=pD ((In.here (w0:=i) (F0:=(cz (dO b c d ⟨w,x,p,lg,sv,bv,skip,T,wm⟩ e h f g)).fq) (H:=[cz (dO b c d ⟨w,x,p,lg,sv,bv,skip,T,wm⟩ e h f g)]) (i:=0) rfl).cz (j:=4) rfl i h0);dsimp only at aY aV aQ aD aM;subst aY;obtain⟨Ap,aT,rfl,-⟩:=id hp;refine hJ func58 h0 ?_;refine eu (dO b c d ⟨w,x,p,lg,vS W e.length cp,bv,skip,T,wm⟩ e h f g) ?_;refine NV Es λad bi=>?_;refine K4 [0,1,2,6,7,18,19,20] ?_;refine dB (λq P H w'=>∃(o:Nat)(ak:V)(ag:C SS),P=[(0,Z w),(1,F t),(2,.slice Ap l.length aT),(6,Z ad),(7,vN),(18,vS W e.length cp),(19,F e.length),(20,F o)]/\H=cF ad Es 45::dO b c d ⟨w,x,p,lg,vS W e.length cp,bv,skip,T,wm⟩ ag ak f g/\q+o=e.length/\ag.length=e.length/\ag.map SS.sh=(a.sh.take o).map (λs=>s.drain t)++a.sh.drop o/\(∀q∈ag,qv x p b c d j q)/\fQ x p (nz b n) (lhs ag) (nN ag) ak) e.length ⟨0,h,e,rfl,rfl,rfl,rfl,by simpa using aX.symm,aV,aM⟩ ?_;rintro q _ _ w1 ⟨o,aF,l1,rfl,rfl,hq,aC,aB,aj,aL⟩;refine cZ (λa5=>?_) λa5=>?_
 .obtain⟨ai,ab,B,rfl,hA⟩:=EF (f:=l1) (r:=o) (by omega);rw[<-aC];refine df ?_;refine I (cR (ab:=o)) ?_;refine I (gj 5 (n:=na ab) (hv:=by rw[dU,fT,<-hA];exact EG ai B ab)) ?_;refine N [0,1,2,6,7,9,18,19,20] ?_;refine cK [6,0,0,0,0,0,0,0] ?_;refine lh (wG (e:=ab.r) (d:=(ai++B).map (·.r)) ((eg (a:=ab) (l₁:=ai) (l₂:=B)).map (·.r))) ?_;refine cQ ?_;refine dw (ox [aF,ab.r] [_,_,_,_,_,_,_] func93 (de [5,0] _ rfl) (λi z af=>aj1 t hc aA aj (aC.trans am) aL af (Rd.held (sz:=1) (n:=16) (e:=23) z (de [5,0] _ rfl) (by simp)))) ?_;rintro _ _ w2 ⟨_,rfl,aG,x2,rfl,aP,aw,aR,aE⟩;refine cH [0,1,2,6,7,18,19,20] ?_;refine cK [1,1,1,1,1,0,0,0,0] ?_;refine lh (qZ (e:=x2.r) (d:=(ai++B).map (·.r)) ((eg (a:=x2) (l₁:=ai) (l₂:=B)).map (·.r))) ?_;refine cK [1,1,1,1,1,1,0,0] ?_;refine N [0,1,2,6,7,18,19,20] ?_;refine⟨q-1,by omega,o+1,aG,ai++x2::B,rfl,?_,by omega,by simp,Tp aB hA aw,RO aj aR,aE⟩;unfold dO;rw[Ib aP,show(ai++x2::B).length=(ai++ab::B).length by simp]
 .obtain rfl:o=e.length:=by omega
  rw[am,<-a4,j6,Jd,eN]at aB;have aI:∀(o:Nat)(ab:SS),l1[o]? =some ab->ab.sh=(a.iI o).drain t:=λo ab hx=>by
   have h1:(l1.map SS.sh)[o]? =some ab.sh:=by rw[eK,hx];rfl
   rw[aB,eK]at h1;unfold dg.iI;rw[jM];cases h2:a.sh[o]?with
   |none=>rw[h2]at h1;cases h1
   |some y=>rw[h2]at h1;simp only[tK,ln]at h1;exact h1.symm
  have az:∀o,o<b.dm->∀ah∈ez t ((a.iI o).drain t).D,lQ ah:=λo hi ah he=>by obtain⟨ab,hx⟩:∃ab,l1[o]? =some ab:=⟨_,dr (by omega)⟩;rw[<-aI o ab hx]at he;obtain⟨e2,h1,rfl⟩:=dz.1 he;exact(aj ab (eH hx)).f.hD e2 (kE.1 h1).1
  have bj:(a.close b t).2=rF b (λo=>jU b (ez t ((a.iI o).drain t).D)) t a.fN:=rfl;refine dI ?_;refine N [0,1,2,6,7,31,32,33] ?_;refine Y ?_;refine dG [] ?_;refine gh 206 4 ?_;refine dB (λq P H w'=>∃(o:Nat)(u:M)(L:C SV)(RS:C V),P=[(0,Z w),(1,F t),(2,.slice Ap l.length aT),(6,Z ad),(7,u),(31,vS W e.length cp),(32,F e.length),(33,F o)]/\H=row u 206 4 o (L.flatMap nc)::cz RS::cF ad Es 45::dO b c d ⟨w,x,p,lg,vS W e.length cp,bv,skip,T,wm⟩ l1 aF f g/\q+o=e.length/\L.length=o/\Nv L RS/\(∀(X:Nat)(v:SV),L[X]? =some v->v.S=jU b (ez t ((a.iI X).drain t).D))) e.length ⟨0,_,[],[],rfl,rfl,rfl,rfl,λv an=>(by cases an),λX v an=>(by cases an)⟩ ?_;rintro q _ _ w1 ⟨o,u,L,RS,rfl,rfl,hq,al,ap,aq⟩;refine cZ (λa6=>?_) λa6=>?_
  .obtain⟨ai,ab,B,aH,hA⟩:=EF (f:=l1) (r:=o) (by omega);have bb:ab∈l1:=by rw[aH];simp
   have aZ:l1[o]? =some ab:=by rw[aH,<-hA,nm (dT _),nK];rfl
   have ba:ez t ab.D=ez t ((a.iI o).drain t).D:=by rw[<-aI o ab aZ];rfl
   have hx:=aj ab bb;rw[<-aC];have aW:(l1.map (·.r)).Perm (ab.r::(ai++B).map (·.r)):=by rw[aH];exact(eg (a:=ab) (l₁:=ai) (l₂:=B)).map (·.r)
   refine df ?_;refine I (cR (ab:=o)) ?_;refine I (gj 7 (n:=na ab) (hv:=by rw[dU,fT,eK,aZ];rfl)) ?_;refine N [0,1,2,6,7,11,31,32,33] ?_;refine cK [8,0,0,0,0,0,0,0,0,0] ?_;refine lh (wG (e:=ab.r) (d:=(ai++B).map (·.r)) aW) ?_;refine Pw 0 func94 (λi z af=>ajx t hc hx.f.hD (IJ (hx.f.sm t)) hx.r af) ?_;rintro _ _ w2 ⟨re,r9,⟨ah,rv,rfl,rfl,aO⟩,rfl⟩;rw[ba]at aO|-;refine kq λz=>?_;obtain⟨Ae,ce,rfl⟩:=fS z (p:=1) rfl;obtain⟨Ar,cr,a2⟩:∃ai c0,rv=.slice ai (jU b (ez t ((a.iI o).drain t).D)).R.length c0:=by obtain⟨vs,-,⟨ai,b,ah,-⟩,-⟩:=SJ aO (z.ok (i:=2) rfl);exact⟨ai,b,ah⟩
   subst a2;clear z;refine gZ Ui (l:=nc ⟨jU b (ez t ((a.iI o).drain t).D),.slice Ae (jU b (ez t ((a.iI o).drain t).D)).E.length ce,.slice Ar (jU b (ez t ((a.iI o).drain t).D)).R.length cr⟩) (ae:=by decide) λbe bf=>?_;refine dw (jo 5 Ui (h1:=Ig ⟨_,_,_,rfl⟩ ⟨_,_,_,rfl⟩)) ?_;rintro u2 _ w4 ⟨_,rfl⟩;refine N [0,1,2,6,7,31,32,33] ?_;refine cK [1,3,2,3,1,1,1,1,1,1,1,1,1] ?_;refine lh (qZ (e:=ab.r) (d:=(ai++B).map (·.r)) aW) ?_;refine cK [1,1,1,0,0,0,0,0,0,0,0,0] ?_;refine lh (qZ (j:=r9::RS) (cD _)) ?_;refine cK [1,0,0,0,0,0,0,0,0,0,0] ?_;refine lh (qZ (cD _)) ?_;refine cK [2,0,1,1,1,1,1,1,0,0] ?_;refine N [0,1,2,6,7,31,32,33] ?_;refine⟨q-1,by omega,o+1,u2,L++[⟨jU b (ez t ((a.iI o).drain t).D),.slice Ae (jU b (ez t ((a.iI o).drain t).D)).E.length ce,.slice Ar (jU b (ez t ((a.iI o).drain t).D)).R.length cr⟩],_,rfl,by rw[ake];rfl,by omega,by simp[al],λv hv=>?_,λX v hv=>?_⟩
   .rcases dV.1 hv with hv|hv
    .obtain⟨e1,e2,h1,h2,h3⟩:=ap v hv;exact⟨e1,e2,h1,dN _ (dN _ h2),dN _ (dN _ h3)⟩
    .rw[fI]at hv;subst hv;exact⟨_,r9,⟨rfl,aO⟩,dQ ..,dN _ (dQ ..)⟩
   .by_cases hj:X<L.length
    .rw[nk hj]at hv;exact aq X v hv
    .have a8:=(da.1 hv).1;rw[cX,lD]at a8;obtain rfl:X=o:=by omega
     rw[nm (by omega),al,nK]at hv;cases hv;rfl
  .obtain rfl:o=e.length:=by omega
   refine dI ?_;refine Y ?_;refine eS (λP H w'=>∃(ao:Nat)(G:cG Addr)(K:Nat)(A:cG Addr)(Q:Nat),P=[(0,Z w),(1,F t),(6,Z ad),(12,Z ao)]/\H=[cF ao (iD (a.close b t).2 (.slice G (a.close b t).2.lines.length K) (.slice A a.fN.length Q)) 45,cF ad Es 45]++dO b c d ⟨w,x,p,lg,vS W e.length cp,bv,skip,T,wm⟩ l1 aF f g++[row (.slice G (a.close b t).2.lines.length K) 48 3 (a.close b t).2.lines.length (dn (a.close b t).2.lines),row (.slice A a.fN.length Q) 23 1 a.fN.length (dF a.fN)]) ?_ ?_
   .refine xr (.fl 0 (.fl 1 (.fl 2 (.fl 3 (.fl 4 (.fl 5 (.fl 6 (.fl 7 (.fl 8 (.fl 9 (.fl 11 (.two 10 (.two 12 (.ef 13 (.ef 14 .done)) 13 (.ef 12 (.ef 14 .done))) 13 (.ef 10 (.ef 12 (.ef 14 .done))))))))))))))) ([_,_,_,_,_,_,_,_,_]) ([_]) lN (by kernel_rfl) (by kernel_rfl) rfl (de [0,0,0,0,0,0,1,1,1] _ rfl) (λa3=>?_);refine cQ ?_;refine nW rfl (di 3 (b:=cP b c d)) ?_;refine df ?_;refine nW rfl (dH 3 (n:=Z lg)) ?_;refine Y ?_;refine rV ?_ ?_
    .refine fF rfl (ft (f) _ func96 (c8 9 rfl) (λi z af=>Rv aD af h7)) ?_;rintro _ _ w4 ⟨_,rfl,Ay,cy,rfl,rfl⟩;refine⟨_,de [2,2,2,2,2,2,2,2,2] _ rfl,?_⟩;refine rV ?_ ?_
     .refine fF rfl (eB func95 (λi z=>JQ (LL (c:=λo=>ez t ((a.iI o).drain t).D) hc (by omega) aq az ax aN (L9 (by rw[al];exact z.ok (i:=0) rfl) ap (z.ok (i:=1) rfl)) (Rd.dM z (l:=4) rfl) aA) (hp.dx z) hP aJ t ay (by rw[h7];exact Rd.dM z (l:=9) rfl) (by omega))) ?_;rintro _ _ w5 ⟨_,rfl,G,K,A,Q,rfl,rfl⟩;refine⟨_,de [2,2,2,2,2,2,2,2,2] _ rfl,?_⟩;refine fY (fF rfl (mP [F 0,J 0,vN,J 0,F 0,J 0,vN]) ?_);rintro _ _ ar ⟨ae,rfl,rfl⟩;refine⟨_,eg.symm,?_⟩;refine fY (lK rfl (gD 9 (q:=iD (a.close b t).2 (.slice G (a.close b t).2.lines.length K) (.slice A a.fN.length Q)) (y:=iD (a.close b t).2 (.slice G (a.close b t).2.lines.length K) (.slice A a.fN.length Q)) (h1:=by simp[iD,Value.oneCell'])) ?_);rintro _ _ au rfl;refine⟨_,cD _,?_⟩;refine oy [0,1,6,12] [9,2,2,2,2,8,2,2,2,2,2] ?_;exact⟨ae,G,K,A,Q,rfl,rfl⟩
     .refine fF rfl (mP [F 0,J 0,vN,J 0,F 0,J 0,vN]) ?_;rintro _ _ ar ⟨ae,rfl,rfl⟩;refine⟨_,eg.symm,?_⟩;refine fY (fF rfl (eB func95 (λi z=>JQ (LL (c:=λo=>ez t ((a.iI o).drain t).D) hc (by omega) aq az ax aN (L9 (by rw[al];exact z.ok (i:=0) rfl) ap (z.ok (i:=1) rfl)) (Rd.dM z (l:=4) rfl) aA) (hp.dx z) hP aJ t ay (by rw[h7];exact Rd.dM z (l:=10) rfl) (by omega))) ?_);rintro _ _ w5 ⟨_,rfl,G,K,A,Q,rfl,rfl⟩;refine⟨_,de [2,2,2,2,2,2,2,2,2] _ rfl,?_⟩;refine fY (lK rfl (gD 11 (q:=iD (a.close b t).2 (.slice G (a.close b t).2.lines.length K) (.slice A a.fN.length Q)) (y:=iD (a.close b t).2 (.slice G (a.close b t).2.lines.length K) (.slice A a.fN.length Q)) (h1:=by simp[iD,Value.oneCell'])) ?_);rintro _ _ au rfl;refine⟨_,cD _,?_⟩;refine oy [0,1,6,12] [11,2,2,2,2,8,2,2,2,2,2] ?_;exact⟨ae,G,K,A,Q,rfl,rfl⟩
    .refine fF rfl (mP [F 0,J 0,vN,J 0,F 0,J 0,vN]) ?_;rintro _ _ ar ⟨ae,rfl,rfl⟩;refine⟨_,eg.symm,?_⟩;refine fY (fF rfl (ft (f) _ func96 (c8 10 rfl) (λi z af=>Rv aD af h7)) ?_);rintro _ _ w4 ⟨_,rfl,Ay,cy,rfl,rfl⟩;refine⟨_,de [2,2,2,2,2,2,2,2,2] _ rfl,?_⟩;refine fY (fF rfl (eB func95 (λi z=>JQ (LL (c:=λo=>ez t ((a.iI o).drain t).D) hc (by omega) aq az ax aN (L9 (by rw[al];exact z.ok (i:=0) rfl) ap (z.ok (i:=1) rfl)) (Rd.dM z (l:=4) rfl) aA) (hp.dx z) hP aJ t ay (by rw[h7];exact Rd.dM z (l:=9) rfl) (by omega))) ?_);rintro _ _ w5 ⟨_,rfl,G,K,A,Q,rfl,rfl⟩;refine⟨_,de [2,2,2,2,2,2,2,2,2] _ rfl,?_⟩;refine fY (lK rfl (gD 13 (q:=iD (a.close b t).2 (.slice G (a.close b t).2.lines.length K) (.slice A a.fN.length Q)) (y:=iD (a.close b t).2 (.slice G (a.close b t).2.lines.length K) (.slice A a.fN.length Q)) (h1:=by simp[iD,Value.oneCell'])) ?_);rintro _ _ au rfl;refine⟨_,cD _,?_⟩;refine oy [0,1,6,12] [13,2,2,2,2,8,2,2,2,2,2] ?_;exact⟨ae,G,K,A,Q,rfl,rfl⟩
   rintro _ _ a3 ⟨ao,G,K,A,Q,rfl,rfl⟩;refine K4 [0,1,6,12,60,61,62] ?_;refine dB (λq P H w'=>∃(o:Nat)(ak:V)(ag:C SS),P=[(0,Z w),(1,F t),(6,Z ad),(12,Z ao),(60,vS W e.length cp),(61,F e.length),(62,F o)]/\H=[cF ao (iD (a.close b t).2 (.slice G (a.close b t).2.lines.length K) (.slice A a.fN.length Q)) 45,cF ad Es 45]++dO b c d ⟨w,x,p,lg,vS W e.length cp,bv,skip,T,wm⟩ ag ak f g++[row (.slice G (a.close b t).2.lines.length K) 48 3 (a.close b t).2.lines.length (dn (a.close b t).2.lines),row (.slice A a.fN.length Q) 23 1 a.fN.length (dF a.fN)]/\q+o=e.length/\ag.length=e.length/\ag.map SS.sh=((a.sh.map λs=>s.drain t).take o).map (λs=>s.close t)++(a.sh.map λs=>s.drain t).drop o/\(∀q∈ag,qv x p b c d j q)/\fQ x p (nz b n) (lhs ag) (nN ag) ak) e.length ⟨0,aF,l1,rfl,rfl,rfl,aC,by simpa using aB,aj,aL⟩ ?_;clear aj aL aI az aq ap al;rintro q _ _ w1 ⟨o,aG,l2,rfl,rfl,hq,aU,aK,av,aE⟩;refine cZ (λa7=>?_) λa7=>?_
   .obtain⟨ai,ab,B,rfl,hA⟩:=EF (f:=l2) (r:=o) (by omega);rw[<-aU];refine df ?_;refine I (cR (ab:=o)) ?_;refine I (gj 6 (n:=na ab) (hv:=by rw[dU,fT,<-hA];exact EG ai B ab)) ?_;refine N [0,1,6,12,14,60,61,62] ?_;refine cK [7,0,0,0,0,0,0,0,0,0,0] ?_;refine lh (wG (e:=ab.r) (d:=(ai++B).map (·.r)) ((eg (a:=ab) (l₁:=ai) (l₂:=B)).map (·.r))) ?_;refine cQ ?_;refine dw (ox [aG,ab.r] [_,_,_,_,_,_,_,_,_,_] func97 (de [6,0] _ rfl) (λi z af=>aj0 t hc av aE af)) ?_;rintro _ _ w2 ⟨_,rfl,bd,x2,rfl,aP,aw,aR,a9⟩;refine cH [0,1,6,12,60,61,62] ?_;refine cK [1,1,1,1,1,1,0,0,0,0,0,0] ?_;refine lh (qZ (e:=x2.r) (d:=(ai++B).map (·.r)) ((eg (a:=x2) (l₁:=ai) (l₂:=B)).map (·.r))) ?_;refine cK [1,1,1,1,1,1,1,0,0,0,0] ?_;refine N [0,1,6,12,60,61,62] ?_;refine⟨q-1,by omega,o+1,bd,ai++x2::B,rfl,?_,by omega,by simp,Tp aK hA aw,RO av aR,a9⟩;unfold dO;rw[Ib aP,show(ai++x2::B).length=(ai++ab::B).length by simp];rfl
   .obtain rfl:o=e.length:=by omega
    refine dI ?_;refine Pw 5 func98 (λi z af=>ac9 t aD af) ?_;rintro _ _ w4 ⟨bc,rfl,a1⟩;refine K3 1 (f:=iD (a.close b t).2 (.slice G (a.close b t).2.lines.length K) (.slice A a.fN.length Q)) ?_;refine cO 2 (u:=iD (a.close b t).2 (.slice G (a.close b t).2.lines.length K) (.slice A a.fN.length Q)) (H:=iD (a.close b t).2 (.slice G (a.close b t).2.lines.length K) (.slice A a.fN.length Q)) (h1:=by simp[iD,Value.oneCell']) λbg=>?_;refine cH [6] ?_;refine cK [3,3,3,0,2,2,2,2,2,1] ?_;refine dG (d:=[_,_,_]) [_,_,_,_,_,_,_] ?_;refine eM ?_;refine⟨_,_,λx ha z=>eW results58 (eX (e4 3 rfl underlying45 rfl (by kernel_rfl) rfl) eY) x ha _ z,mr [_,_,_] [_],?_⟩;refine⟨aG,bc,l2,G,K,A,Q,rfl,rfl,av,aU.trans am,?_,aQ,a1,aE⟩;have h1:((a.sh.map λs=>s.drain t).take e.length).map (λs=>s.close t)++(a.sh.map λs=>s.drain t).drop e.length=a.sh.map λs=>(s.drain t).close t:=by rw[gS (by rw[dL];omega),qn (by rw[dL];omega),eN,jj];rfl
    rw[h1]at aK;exact aK.symm
end
structure RV where
 R:jg
 La:cG Addr
 Lc:Nat
 Ja:cG Addr
 Jc:Nat
def fm (a:RV):C M:=iD a.R (.slice a.La a.R.lines.length a.Lc) (.slice a.Ja a.R.pC.length a.Jc)
def jw (a:RV):C V:=[row (.slice a.La a.R.lines.length a.Lc) 48 3 a.R.lines.length (dn a.R.lines),row (.slice a.Ja a.R.pC.length a.Jc) 23 1 a.R.pC.length (dF a.R.pC)]
def zT (b:M)(a:C RV):C V:=[row b 45 7 a.length (a.flatMap fm),cz (a.flatMap jw)]
def Cz:fB prog 32 45 7 88 (.agg #[F 0,J 0,vN,J 0,F 0,J 0,vN]):=.mk' underlying32 (by kernel_rfl) rfl (by decide)
def Xz {b f:Nat}{d:M}{a:C M}{e:O}(c:(cF b (d::a) f).ok e):e.cell? ⟨b,0,.none⟩=some d:=by have c:e.heap[b]? =some (.cells (d::a).toArray f (0,0)):=c;simp[World.cell?,c]
def ade {n b:Nat}{a:C (Int×Nat)}{c:C Nat}{f:V}{e:O}(l:sS n a b c f)(j:a.length<=1000000)(h:∀o∈a,0<=o.1/\o.1<=9223372036854775807)(k:(a.map Prod.fst).Nodup)(m:Hl e f):Sr 57 [Z n] e f λp q=>q=[f,row p 3 1 (tx a).length (ec (tx a))]:=by obtain⟨g,rfl⟩:=l;refine dS func57 m ?_;refine eu (rC n g a b c) ?_;refine Ku func92 (λe d=>ac0 g e) ?_;rintro _ _ r ⟨t,rfl,rfl⟩;refine dd func91 (λe d=>ajS t g (Xz (d.ok (i:=0) rfl)) (d.ok (i:=2) rfl) j h k) ?_;rintro p _ s rfl;refine N [2] ?_;refine cK [2,2,0] ?_;refine dG (d:=[_]) [_,_] ?_;refine dP results57 ?_;rfl
def Ov (a:PC):∀(c:C Nat)(b:dg)(d:Nat),b.jR a (c++[d])=(((b.jR a c).1.close a d).1,(b.jR a c).2++[((b.jR a c).1.close a d).2])
 |[],b,d=>rfl
 |e::c,b,d=>by rw[kP,dg.jR,Ov a c,dg.jR];rfl
def Ga (b:PC):∀(c:C Nat)(a:dg),(a.jR b c).1.fN=a.fN/\(a.jR b c).1.wm=a.wm
 |[],a=>⟨rfl,rfl⟩
 |d::c,a=>Ga b c (a.close b d).1
def JZ (c:PC):∀(a:C Nat)(b:dg),(b.jR c a).2.length=a.length
 |[],b=>rfl
 |d::a,b=>by rw[dg.jR,eE,JZ c a,eE]
section
variable{o:Nat}{a:PC}{l:C Nat}{c d n:M}{e:O}{g f i:V}{j:CA}{k:C SS}{b:dg}{m:C Int}{h:gP}
def jr.aih (p:jr a l c d o j k g f b)(x:jx a b h):jr a l c d (a.low b.wm) j k g f b:=by
 refine⟨λz s=>⟨(p.ok z s).r,?_⟩,p.len,p.sh,p.wm,p.lg,p.mem⟩;obtain⟨q,y⟩:=ka.1 s;have u:b.sh[q]? =some z.sh:=by rw[p.sh,eK,y];rfl
 obtain⟨v,w⟩:=Oh x u;have t:=(p.ok z s).f;exact⟨t.hD,t.hQ,v,w⟩
def ac1 {low s:Nat}{L:C Nat}(K:a.Ok)(A:∀z∈h,lQ z.2.2/\z.1∈a.set z.2.2.1)(v:∀e,eA (ib h e)<=9223372036854775808)(t:tB a b h 0 low (s::L)):((List.range a.dm).map λp=>eA (ez s ((b.iI p).drain s).D)).sum<=9223372036854775808/\∀p,p<a.dm->∀r,wt (ez s ((b.iI p).drain s).D) r≠0->p∈a.set r:=by
 have u:=Rh t;constructor
 .have q:((List.range a.dm).map λp=>eA (ez s ((b.iI p).drain s).D))=(List.range a.dm).map λp=>eA (nv h p s):=k5 λp x=>by rw[u p (lE.1 x)]
  rw[q,(PH (j:=a.dm) s h λz y=>PC.xj K (A z y).2).2];exact v s
 .intro p x r E;rw[u p x]at E;obtain⟨q,w,rfl⟩:∃q∈nv h p s,q.1=r:=by
   refine pI λG=>E ?_;unfold wt;rw[CV.2]
   .rfl
   .intro q w B;exact G ⟨q,w,by simpa using B⟩
  obtain⟨z,y,rfl,H⟩:=Kw w;have:=(A z y).2;rw[H]at this;exact this
def JV (Q:a.Ok)(p:jx a b h):(∀q∈b.dY,0<=q.1/\q.1<((a.low b.wm+a.ga:Nat):Int))/\b.dY.length<=a.ga:=by
 have y:∀q∈b.dY,a.low b.wm<=q.1.toNat/\q.1.toNat<a.low b.wm+a.ga:=λq r=>by
  have h0:=p.qM q r;have u:=p.dY q.1.toNat;rw[rY h0]at u;by_cases v:ib h q.1.toNat=[]\/q.1.toNat<a.low b.wm
  .rw[cM v]at u;exact absurd (gu r) (Br.1 u)
  .have E:∃x∈h,x.2.1=q.1.toNat:=pI λA=>v (.inl (Kx.2 λx t s=>A ⟨x,t,s⟩));obtain⟨x,t,s⟩:=E;have:=p.BX x t;exact⟨by
    rcases np q.1.toNat (a.low b.wm)with w|w
    .exact absurd (.inr w) v
    .exact w,by omega⟩
 refine⟨λq r=>⟨p.qM q r,by have:=(y q r).2;have:=p.qM q r;omega⟩,?_⟩;have K:(b.dY.map λq=>q.1.toNat).Nodup:=by
  have:(b.dY.map λq=>q.1.toNat)=(b.dY.map Prod.fst).map Int.toNat:=by rw[jj];rfl
  rw[this];refine oE.2 (p.uC.imp_of_mem λ{B D} G H z s=>z ?_);obtain⟨q,r,rfl⟩:=dz.1 G;obtain⟨x,t,rfl⟩:=dz.1 H;have:=p.qM q r;have:=p.qM x t;omega
 have:=Hp a.ga (a.low b.wm) K λR L=>by obtain⟨q,r,rfl⟩:=dz.1 L;exact y q r
 rwa [dL]at this
def CA.at (j:CA)(p:Nat):CA:={j with wm:=max j.wm p}
def m5 (a:PC)(b:dg)(q:C Nat)(low p:Nat):dg×C jg:=b.jR a ((q.take p).filter λe=>decide (e<low))
def Kb {r:C Nat}{low p t:Nat}(s:r[p]? =some t)(q:¬t<low):m5 a b r low (p+1)=m5 a b r low p:=by unfold m5;rw[ia,s,qT];simp[q]
def Kc {q:C Nat}{low p s:Nat}(t:q[p]? =some s)(r:s<low):m5 a b q low (p+1)=(((m5 a b q low p).1.close a s).1,(m5 a b q low p).2++[((m5 a b q low p).1.close a s).2]):=by
 unfold m5;rw[ia,t,qT];have:((some s:cG Nat).toList.filter λe=>decide (e<low))=[s]:=by simp[r]
 rw[this,Ov]
def J1 (t:Nat)(ht:t<=1099511627776)(aJ:j.wm<=1099511627776)(hc:a.Ok)(aH:∃h ax a,c=.slice h ax a)(hI:jr a l c d (a.low b.wm) j k g f b)(hA:jx a b h){rs:C jg}(hR:s3 a (a.low b.wm) h rs)(hp:Rd e (cz (dO a c d j k g f i)).fq 1 n m.length (oT m))(hP:m.length<=1000000)(aE:∀x∈m,-4611686018427387904<=x/\x<=4611686018427387904)(h0:Hl e (cz (dO a c d j k g f i))):Sr 29 [Z j.k,F t,n] e (cz (dO a c d j k g f i)) λu H=>∃Q K ag ul D,u=PF [ul,F 0]/\H=zT ul D++[cz (dO a c d (j.at t) ag Q K i)]/\D.map RV.R=(b.tick a t).2/\jr a l c d (a.low (b.tick a t).1.wm) (j.at t) ag Q K (b.tick a t).1/\jx a (b.tick a t).1 h:=by
 obtain⟨z,A,p,S,sv,bv,skip,y,wm⟩:=j;have ao:b.wm=wm:=hI.wm;dsimp only at aJ;obtain⟨W,hW⟩:∃W,W=max wm t:=⟨_,rfl⟩;have aM:(CA.mk z A p S sv bv skip y wm).at t=CA.mk z A p S sv bv skip y W:=by rw[hW];rfl
 obtain⟨aA,ak,aR⟩:=UK (a:=W) hA (by omega);obtain⟨B,X⟩:∃B:dg,B={b with wm:=W}:=⟨_,rfl⟩;obtain⟨w,T⟩:∃w,w=tx b.dY:=⟨_,rfl⟩;have av:b.tick a t=B.jR a (w.filter λe=>decide (e<a.low W)):=by unfold dg.tick;rw[X,T,ao,<-hW];rfl
 have ai:b.due a W=w.filter λe=>decide (e<a.low W):=by rw[T];rfl
 have aC:jr a l c d (a.low b.wm) (CA.mk z A p S sv bv skip y W) k g f B:=by rw[X];exact⟨hI.ok,hI.len,hI.sh,rfl,hI.lg,hI.mem⟩
 rw[<-X,ai]at aA;have az:jx a (b.tick a t).1 h:=(MM hc hA hR t).1;obtain⟨an,aW⟩:=JV hc hA;have aV:a.low b.wm<=wm:=by rw[ao];exact gF (C9 _ _) (Nat.sub_le _ _)
 have aX:=hc.ga;have aS:w.length<=4:=by
  have h3:w.length=b.dY.length:=by rw[T,tx,(H5 _).length_eq,dL]
  omega
 rw[aM];obtain⟨Ap,ay,rfl,-⟩:=id hp;refine hJ func29 h0 ?_;refine eu (dO a c d ⟨z,A,p,S,sv,bv,skip,y,wm⟩ k g f i) ?_;refine N [0,1,2] ?_;refine MZ ?_;refine N [0,1,2,13] ?_;refine N [0,1,2,19] ?_;refine fh ?_;refine Y ?_;refine I (wR (r:=(W:Int)) rfl rfl (by show(if(t:Int)>(wm:Int)then(t:Int)else(wm:Int))=(W:Int);split<;>omega)) ?_;refine KW 0 (G:=xY a c d ⟨z,A,p,S,sv,bv,skip,y,W⟩) λaT=>?_;refine cH [0,2] ?_;refine Y ?_;refine eO 10 [8] [_,_,_,_,_,_,_] [] (ik _) λaY=>?_;refine cQ ?_;refine cN rfl (di 0 (b:=cP a c d)) ?_;refine cL ?_;refine eh rfl (eB func56 (λe P=>Oj hc c d W e (by omega))) ?_;rintro _ _ w2 ⟨_,rfl,rfl,rfl⟩;refine⟨_,cD _,?_⟩;refine N [0,2,8] ?_;refine N [0,2,8,9] ?_;refine Y ?_;refine U9 ?_;refine fw ?_;refine cY (f) [_,_,_,_,_,_] func57 (c8 3 rfl) (λe P am=>ade hI.lg (by omega) (λp hp=>⟨(an p hp).1,by have:=(an p hp).2;omega⟩) hA.uC am) ?_;rintro uw _ w3 rfl;rw[<-T];refine fu [2,2,2,0,1,1,1,0] ?_;refine qh (d:=[_]) [_,_,_,_,_,_,_] ?_;refine kq λP=>?_;obtain⟨Aw,cw,rfl⟩:=fS P (p:=1) rfl;clear P;refine N [0,2,8,9,42,43,44] ?_;refine Y ?_;refine dG [] ?_;refine gh 45 7 ?_;refine dB (λq ad H w'=>∃(s:Nat)(u:M)(D:C RV)(Q K:V)(ag:C SS),ad=[(0,Z z),(2,.slice Ap m.length ay),(8,F (a.low W:Int)),(9,u),(42,.slice Aw w.length cw),(43,F w.length),(44,F s)]/\H=zT u D++[cz (dO a c d ⟨z,A,p,S,sv,bv,skip,y,W⟩ ag Q K i),row (.slice Aw w.length cw) 3 1 w.length (ec w)]/\q+s=w.length/\D.map RV.R=(m5 a B w (a.low W) s).2/\jr a l c d (a.low b.wm) ⟨z,A,p,S,sv,bv,skip,y,W⟩ ag Q K (m5 a B w (a.low W) s).1/\tB a (m5 a B w (a.low W) s).1 h 0 (a.low W) ((w.drop s).filter λe=>decide (e<a.low W))) w.length ⟨0,_,[],g,f,k,rfl,rfl,rfl,rfl,aC,aA⟩ ?_;rintro q _ _ w1 ⟨s,u,D,ar,ap,l1,rfl,rfl,hq,af,ah,ae⟩;refine cZ (λaF=>?_) λaF=>?_
 .obtain⟨x,ab⟩:∃x,w[s]? =some x:=⟨_,dr (by omega)⟩;have al:w.drop s=x::w.drop (s+1):=by obtain⟨E,rfl⟩:=da.1 ab;exact jP E
  have aK:x<=4611686018427387904:=by have E:=eH ab;rw[T]at E;obtain⟨p,hp,rfl⟩:=dz.1 (Hf.1 E);have:=(an p hp).2;omega
  refine eQ λP=>?_;obtain⟨gw,c2,aw⟩:=fs P (q:=3) rfl;injection aw with e1 _ e3;subst e1;subst e3;clear P;refine cC ?_;refine eS (λad H w'=>∃(u:M)(D:C RV)(Q K:V)(ag:C SS),ad=[(0,Z z),(2,.slice Ap m.length ay),(8,F (a.low W:Int)),(9,u),(42,vS gw w.length cw),(43,F w.length),(44,F s)]/\H=zT u D++[cz (dO a c d ⟨z,A,p,S,sv,bv,skip,y,W⟩ ag Q K i),row (vS gw w.length cw) 3 1 w.length (ec w)]/\D.map RV.R=(m5 a B w (a.low W) (s+1)).2/\jr a l c d (a.low b.wm) ⟨z,A,p,S,sv,bv,skip,y,W⟩ ag Q K (m5 a B w (a.low W) (s+1)).1/\tB a (m5 a B w (a.low W) (s+1)).1 h 0 (a.low W) ((w.drop (s+1)).filter λe=>decide (e<a.low W))) ?_ ?_
  .refine cQ ?_;refine I (cR (ab:=s)) ?_;refine I (gj 3 (n:=F x) (hv:=by unfold ec;rw[dU,fT,eK,ab];rfl)) ?_;refine cZ (λaG=>?_) λaG=>?_
   .have aj:¬x<a.low W:=by omega
    refine kw [0,2,8,9,42,43,44] rfl ?_;refine dI ?_;refine⟨u,D,ar,ap,l1,rfl,rfl,?_,?_,?_⟩
    .rw[Kb ab aj];exact af
    .rw[Kb ab aj];exact ah
    .rw[Kb ab aj];rw[al,nI (by simpa using aj)]at ae;exact ae
   .have G:x<a.low W:=by omega
    have aU:D.length<=4:=by
     have E:=dq List.length af;rw[dL]at E;unfold m5 at E;rw[JZ]at E;have h2:=AV (λe=>decide (e<a.low W)) (w.take s);rw[eD]at h2;have h3:w.length=b.dY.length:=by rw[T,tx,(H5 _).length_eq,dL]
     omega
    rw[al,oC (by simpa using G)]at ae;obtain⟨aN,aO⟩:=ac1 hc hA.ok hA.cap ae;have h7:(m5 a B w (a.low W) s).1.fN.length=7:=by unfold m5;rw[(Ga a _ B).1,X];exact hA.fN
    have aL:x∉(w.drop (s+1)).filter λe=>decide (e<a.low W):=λhm=>by rw[ai]at ak;have E:((w.drop s).filter λe=>decide (e<a.low W)).Pairwise (·<·):=ak.sublist ((List.drop_sublist _ _).filter _);rw[al,oC (by simpa using G)]at E;exact Fx _ ((jD.1 E).1 x hm)
    refine eL ?_;refine cY ((cz (dO a c d ⟨z,A,p,S,sv,bv,skip,y,W⟩ l1 ar ap i))) [_,_,_] func58 (c8 2 rfl) (λe P am=>YK x aK hc aH ah h7 (by rw[<-ud];exact hp.rJ P (c8 2 rfl)) hP aE aN aO am) ?_;rintro _ _ w4 ⟨au,aq,l2,La,Lc,Aj,cj,rfl,rfl,aD⟩;refine gZ Cz (l:=fm ⟨((m5 a B w (a.low W) s).1.close a x).2,La,Lc,Aj,cj⟩) (ae:=by decide) λaP aQ=>?_;refine dw (jo 4 Cz (h1:=by simp[fm,iD,Value.oneCell'])) ?_;rintro u2 _ w5 ⟨_,rfl⟩;refine fu [3,4,2,2,1,1] ?_;refine vL (qZ (cD _)) ?_;refine fu [1,0,0,0,0] ?_;refine vL (qZ (j:=D.flatMap jw++jw ⟨((m5 a B w (a.low W) s).1.close a x).2,La,Lc,Aj,cj⟩) lF) ?_;refine fu [1,0,0,0] ?_;refine N [0,2,8,9,42,43,44] ?_;refine⟨u2,D++[⟨((m5 a B w (a.low W) s).1.close a x).2,La,Lc,Aj,cj⟩],au,aq,l2,rfl,?_,?_,?_,?_⟩
    .unfold zT;simp only[j9,ji,CX,eN,cX];rfl
    .rw[Kc ab G,dE,af];rfl
    .rw[Kc ab G];exact aD
    .rw[Kc ab G];exact Rg ae G aL
  .rintro _ _ w8 ⟨u2,aB,au,aq,l2,rfl,rfl,E,h2,h3⟩;refine N [0,2,8,9,42,43,44] ?_;exact⟨q-1,by omega,s+1,u2,aB,au,aq,l2,rfl,rfl,by omega,E,h2,h3⟩
 .obtain rfl:s=w.length:=by omega
  have aI:m5 a B w (a.low W) w.length=b.tick a t:=by rw[av];unfold m5;rw[j6]
  rw[aI]at af ah;refine dI ?_;refine N [6,7] ?_;refine cK [0,0,0] ?_;refine dP results29 ?_;exact⟨ar,ap,l1,u,D,rfl,rfl,af,ah.aih az,az⟩
end
section
variable{b:PC}{c:O}{a:C (Nat×Nat)}{d:C Nat}
def YJ {p s:M}(q:Rd c cW 2 p a.length (lI a))(r:Rd c cW 1 s 16 (dF b.table))(G:a.length<=8):Sn 42 [gV b p s] c λw E=>∃j e k f,w=gV b (.slice j a.length e) (.slice k 16 f)/\E=[row (.slice j a.length e) 68 2 a.length (lI a),row (.slice k 16 f) 23 1 16 (dF b.table)]:=by obtain⟨m,o,rfl,-⟩:=id q;obtain⟨l,d0,rfl,-⟩:=id r;refine enter (g:=12) func42 rfl rfl [(0,.agg (cP b (.slice m a.length o) (.slice l 16 d0)).toArray)] rfl ⟨rfl,trivial⟩ hS ?_;refine Mf (f:=cP b (.slice m a.length o) (.slice l 16 d0)) λt x=>?_;refine dj [F 0,F 0,F 0,F 0,F 0,F 0,F 0,F 0,F 0,J 0,F 0,F 0,F 0,F 0,vN,vN,J 0] λu y=>?_;refine cH [1,2] ?_;refine Y ?_;refine CM [0,1,3,4,1002,6,1005,1007,8,1009] [(_,none),(_,some 7)] [] (cD _) λD=>?_;refine cL ?_;refine gY rfl (DG rfl func71 (by kernel_rfl) (λc h=>YO _ a.length (lI a) c (q.dx h) (λw g=>by obtain⟨L,_,g⟩:=rZ.1 g;simp only[oK,dh,nn,o6]at g;rcases g with rfl|rfl<;>rfl) (by omega))) ?_;rintro _ _ H ⟨_,rfl,j,e,rfl,rfl⟩;refine⟨_,jQ [_] [_,_] [],?_⟩;refine Y ?_;refine gY rfl (eB func72 (λc h=>Dw _ 16 (dF b.table) c (r.dx h) (λw g=>by obtain⟨Q,_,rfl⟩:=dz.1 g;rfl) (by omega))) ?_;rintro _ _ K ⟨_,rfl,k,f,rfl,rfl⟩;refine⟨_,jQ [_] [_,_] [_],?_⟩;refine jC rfl (gD 1 (y:=cP b (.slice j a.length e) (.slice l 16 d0))) ?_;rintro _ _ z rfl;refine⟨_,cD _,?_⟩;refine Y ?_;refine jC rfl (gD 1 (y:=cP b (.slice j a.length e) (.slice k 16 f))) ?_;rintro _ _ A rfl;refine⟨_,cD _,?_⟩;refine K3 1 (f:=cP b (.slice j a.length e) (.slice k 16 f)) ?_;refine cO 0 (u:=cP b (.slice j a.length e) (.slice k 16 f)) (H:=cP b (.slice j a.length e) (.slice k 16 f)) (h1:=by simp[cP,Value.oneCell']) λB=>?_;refine cH [2] ?_;refine cK [0,2,1] ?_;refine eM ?_;refine⟨_,_,λi v h=>eW results42 (eX (e4 0 rfl underlying27 rfl (by kernel_rfl) rfl) eY) i v _ h,fO _ _,?_⟩;exact⟨_,_,_,_,rfl,rfl⟩
end
end Go.Proofs.YtdlpoonfcdoiiaaGreat
