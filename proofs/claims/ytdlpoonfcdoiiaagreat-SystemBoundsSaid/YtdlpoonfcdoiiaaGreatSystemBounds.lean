/- The law SystemBounds returns true whatever comes in, and leaves what came in as it was: the given statement SystemBoundsSaid. It has no conditions. -/
import Derived.Test.YtdlpoonfcdoiiaaGreatMB17
import Derived.Test.YtdlpoonfcdoiiaaGreatMB18
import Derived.Test.YtdlpoonfcdoiiaaGreatRows
namespace Go.Proofs.YtdlpoonfcdoiiaaGreat
open Go.RowKit Go.Proofs.Tryz
set_option maxHeartbeats 40000000
set_option linter.all false
section
variable{l:dX}{m:Nat}{f:O}{b:Nat->Prop}{c:dD}{k:C V}{v:O}{e:dk}{i j p:fj}{u n o:M}{q:IntKind}{a d r:Int}
variable{g h:dk}
def P2 (w:ev c i=some (.int .u64 a))(x:ev c j=some (.int .u64 d))(h0:0<=a/\a<=18446744073709551615/\1<=d):dp l m f b (.binOp .quo g i j h) e c k (.int .u64 (a/d)):=KE w x (by omega) (IntWalk.u64_quo _ _ h0)
variable{s t:U}
end
def jL.law {d:PC}{h:dg}{c:C jg}{a:C gH}{g:gP}(f:jL d h c a g){b:jg}(e:b∈c):wx d b (wt (Go.Proofs.YtdlpoonfcdoiiaaGreat.seen d a b.eP)) (eA (Go.Proofs.YtdlpoonfcdoiiaaGreat.seen d a b.eP)):=by rw[f.seen];exact(f.rep.ok b e).2.2
def jL.cap {c:PC}{g:dg}{b:C jg}{a:C gH}{f:gP}(d:jL c g b a f)(e:Nat):eA (Go.Proofs.YtdlpoonfcdoiiaaGreat.seen c a e)<=9223372036854775808:=by rw[d.seen];exact d.inv.cap e
def wx.adQ {b:PC}{e:jg}{f:U->Nat}{W:Nat}(c:1<=b.n)(g:wx b e f W){a:En}(d:a∈e.lines):a.2.2-a.2.1<=W/b.n:=by rw[Nat.le_div_iff_mul_le c,ze];exact(g.bounds a d).2.2.1
def Td (c:PC)(a:C gH)(b:gH)(e:Nat):seen c (a++[b]) e=seen c a e++if c.gx b.time=e then[(b.key,b.weight)]else[]:=by
 unfold seen ez;rw[dE,qT,dE];congr 1;by_cases d:c.gx b.time=e
 .rw[cM d];simp[gH.ev,d]
 .rw[cJ d];simp[gH.ev,d]
def Vn (b:kO)(a:U×Nat):eA (b++[a])=eA b+a.2:=by unfold eA;rw[dE,mV];simp
def att (a b:kO):eA (a++b)=eA a+eA b:=by unfold eA;rw[dE,mV]
def ai6 (a:PC)(c d:C gH)(b:Nat):seen a (c++d) b=seen a c b++seen a d b:=by unfold seen ez;rw[dE,qT,dE]
def Tc (b:PC)(a:C gH)(d c:Nat):eA (seen b (a.take d) c)<=eA (seen b a c):=by
 have e:seen b a c=seen b (a.take d) c++seen b (a.drop d) c:=by rw[<-ai6,gJ]
 rw[e,att];omega
def Na (c:kO)(a:U×Nat)(b:U):wt (c++[a]) b=wt c b+if a.1=b then a.2 else 0:=by unfold wt;rw[qT];by_cases d:a.1=b<;>simp[d]
def Vq (b:U):∀a:kO,wt a b<=eA a
 |[]=>dT _
 |d::a=>by
  have:=Vq b a;unfold wt eA at*;by_cases c:d.1=b
  .simp[c]at this|-;omega
  .simp[c]at this|-;omega
section
variable{a:PC}{b:O}
def Hn {g h iv s r:M}{c:C gH}(W:Nat)(D:a.Ok)(j:Rd b cW 3 iv c.length (c.flatMap fH))(E:∀i∈c,i.time<=2000)(hl:c.length<=1000)(hs:eA (seen a c W)<=9223372036854775808):Sn 12 [PE [iv,s,r],gV a g h,F W] b λu t=>u=J (eA (seen a c W):Int)/\t=[]:=by
 obtain⟨q,l,rfl,-⟩:=id j;refine enter (g:=29) func12 rfl rfl [(0,PE [.slice q c.length l,s,r]),(1,.agg (cP a g h).toArray),(2,_)] rfl ⟨rfl,rfl,rfl,trivial⟩ hS ?_;refine Mf (f:=[.slice q c.length l,s,r]) λz S=>?_;refine dK (l:=cP a g h) λe T=>?_;refine N [2,3,4] ?_;refine N [2,3,4,7] ?_;refine N [2,4,7,11,12,13] ?_;refine Y ?_;refine cK [0] ?_;refine dB (λQ L t R=>∃f:Nat,L=[(2,F W),(4,Z e),(7,J (eA (seen a (c.take f) W):Int)),(11,.slice q c.length l),(12,F c.length),(13,F f)]/\t=[cF e (cP a g h) 27]/\Q+f=c.length) c.length ⟨0,rfl,rfl,rfl⟩ ?_;rintro Q _ _ w1 ⟨f,rfl,rfl,hq⟩;refine cZ (λv=>?_) λv=>?_
 .obtain⟨i,p⟩:∃i,c[f]? =some i:=⟨_,dr (by omega)⟩;obtain⟨H,K,rfl,x,y⟩:=j.at_ (i:=f) (by omega);have ad:=E i (eH p);have B:c.take (f+1)=c.take f++[i]:=by rw[ia,p];rfl
  have d:=Td a (c.take f) i W;rw[<-B]at d;have m:=Tc a c (f+1) W;refine cC ?_;refine eS (λL t R=>L=[(2,F W),(4,Z e),(7,J (eA (seen a (c.take (f+1)) W):Int)),(11,.slice (some ⟨H,K,.none⟩) c.length l),(12,F c.length),(13,F f)]/\t=[cF e (cP a g h) 27]) ?_ ?_
  .refine cQ ?_;refine I (cR (ab:=f)) ?_;refine I (kY (b:=fH i) (hc:=λk u G=>by rw[ma];exact y _ _ (qC Cp p G)) (hF:=x)) ?_;refine dj [vE,F 0,J 0] λA X=>?_;refine cO 0 (u:=fH i) (H:=fH i) (h1:=by simp[fH,Value.oneCell']) λP=>?_;refine K3 1 (f:=cP a g h) ?_;refine cC ?_;refine dd func20 (λb hh=>Dv D g h i.time b (by omega)) ?_;rintro _ _ ab ⟨rfl,rfl⟩;refine cZ (λw=>?_) λw=>?_
   .have o:a.gx i.time=W:=by omega
    rw[cM o]at d;rw[d,Vn]at m;refine cL ?_;refine I (cU (z:=J ((eA (seen a (c.take f) W)+i.weight:Nat):Int)) (og rfl rfl (by dsimp only at m;omega)) (by rw[gR])) ?_;refine Y ?_;refine fu [1] ?_;refine cH [2,4,7,11,12,13] ?_;exact⟨by rw[d,Vn],rfl⟩
   .have o:a.gx i.time≠W:=by omega
    rw[cJ o,eN]at d;refine cK [1] ?_;refine kw [2,4,7,11,12,13] rfl (iY ?_);exact⟨by rw[d],rfl⟩
  .rintro _ _ w4 ⟨rfl,rfl⟩;refine N [2,4,7,11,12,13] ?_;exact⟨Q-1,by omega,f+1,rfl,rfl,by omega⟩
 .refine dI ?_;refine N [6] ?_;refine gT results12 ?_;have j:f=c.length:=by omega
  rw[j,j6];exact⟨rfl,rfl⟩
def RZ {h l iv y x:M}{c:C gH}(W:Nat)(d:U)(R:a.Ok)(q:Rd b cW 3 iv c.length (c.flatMap fH))(S:∀f∈c,f.time<=2000)(hl:c.length<=1000)(hs:eA (seen a c W)<=9223372036854775808):Sn 13 [PE [iv,y,x],gV a h l,F W,.string d] b λu s=>u=J (wt (seen a c W) d:Int)/\s=[]:=by
 obtain⟨w,p,rfl,-⟩:=id q;refine enter (g:=37) func13 rfl rfl [(0,PE [.slice w c.length p,y,x]),(1,.agg (cP a h l).toArray),(2,_),(3,_)] rfl ⟨rfl,rfl,rfl,rfl,trivial⟩ hS ?_;refine Mf (f:=[.slice w c.length p,y,x]) λK ab=>?_;refine dK (l:=cP a h l) λe ad=>?_;refine N [2,3,4,5] ?_;refine N [2,3,4,5,9] ?_;refine N [2,3,5,9,13,14,15] ?_;refine Y ?_;refine cK [0] ?_;refine dB (λP G s H=>∃g:Nat,G=[(2,F W),(3,.string d),(5,Z e),(9,J (wt (seen a (c.take g) W) d:Int)),(13,.slice w c.length p),(14,F c.length),(15,F g)]/\s=[cF e (cP a h l) 27]/\P+g=c.length) c.length ⟨0,rfl,rfl,rfl⟩ ?_;rintro P _ _ w1 ⟨g,rfl,rfl,hq⟩;refine cZ (λz=>?_) λz=>?_
 .obtain⟨f,v⟩:∃f,c[g]? =some f:=⟨_,dr (by omega)⟩;obtain⟨D,E,rfl,A,B⟩:=q.at_ (i:=g) (by omega);have ag:=S f (eH v);have L:c.take (g+1)=c.take g++[f]:=by rw[ia,v];rfl
  have j:=Td a (c.take g) f W;rw[<-L]at j;have r:=gF (Vq d _) (Tc a c (g+1) W);refine cC ?_;refine eS (λG s H=>G=[(2,F W),(3,.string d),(5,Z e),(9,J (wt (seen a (c.take (g+1)) W) d:Int)),(13,.slice (some ⟨D,E,.none⟩) c.length p),(14,F c.length),(15,F g)]/\s=[cF e (cP a h l) 27]) ?_ ?_
  .refine cQ ?_;refine I (cR (ab:=g)) ?_;refine I (kY (b:=fH f) (hc:=λk u T=>by rw[ma];exact B _ _ (qC Cp v T)) (hF:=A)) ?_;refine dj [vE,F 0,J 0] λo ae=>?_;refine cO 0 (u:=fH f) (H:=fH f) (h1:=by simp[fH,Value.oneCell']) λaf=>?_;refine cH [2,3,5,9,11,13,14,15] ?_;refine Y ?_;refine eS (λG s H=>G=[(2,F W),(3,.string d),(5,Z e),(9,J (wt (seen a (c.take g) W) d:Int)),(11,Z o),(13,.slice (some ⟨D,E,.none⟩) c.length p),(14,F c.length),(15,F g),(30,.bool (decide (a.gx f.time=W/\f.key=d)))]/\s=[cF o (fH f) 57,cF e (cP a h l) 27]) ?_ (λ_ _ ah Q=>?_)
   .refine K3 1 (f:=cP a h l) ?_;refine cC ?_;refine dd func20 (λb hh=>Dv R h l f.time b (by omega)) ?_;rintro _ _ w5 ⟨rfl,rfl⟩;by_cases m:a.gx f.time=W
    .iterate 8 refine Y ?_
     refine cH [2,3,5,9,11,13,14,15,30] ?_;refine⟨?_,rfl⟩;rw[show decide (a.gx f.time=W/\f.key=d)=decide (f.key=d)from uU.2 ⟨λt=>t.2,λt=>⟨m,t⟩⟩]
    .iterate 8 refine Y ?_
     refine cH [2,3,5,9,11,13,14,15,30] ?_;refine⟨?_,rfl⟩;rw[show decide (a.gx f.time=W/\f.key=d)=false from fL (λt=>m t.1)]
   obtain⟨rfl,rfl⟩:=Q;refine jc rfl (λi=>?_) (λi=>?_)
   .rw[cM i.1]at j;rw[j,Na,cM i.2]at r;refine cL ?_;refine I (cU (z:=J ((wt (seen a (c.take g) W) d+f.weight:Nat):Int)) (og rfl rfl (by dsimp only at r;omega)) (by rw[gR])) ?_;refine Y ?_;refine fu [1] ?_;refine cH [2,3,5,9,13,14,15] ?_;exact⟨by rw[j,Na,cM i.2],rfl⟩
   .have X:wt (seen a (c.take (g+1)) W) d=wt (seen a (c.take g) W) d:=by
     rw[j];by_cases m:a.gx f.time=W
     .rw[cM m,Na,cJ (λt=>i ⟨m,t⟩)];rfl
     .rw[cJ m,eN]
    refine cK [1] ?_;refine kw [2,3,5,9,13,14,15] rfl (iY ?_);exact⟨by rw[X],rfl⟩
  .rintro _ _ w4 ⟨rfl,rfl⟩;refine N [2,3,5,9,13,14,15] ?_;exact⟨P-1,by omega,g+1,rfl,rfl,by omega⟩
 .refine dI ?_;refine N [8] ?_;refine gT results13 ?_;have q:g=c.length:=by omega
  rw[q,j6];exact⟨rfl,rfl⟩
end
section
variable{a:O}
def zL (b:En):(gM b).length=3:=rfl
def BI (b:C En):dn b=b.flatMap gM:=by
 induction b with
 |nil=>rfl
 |cons d b c=>rw[ji,<-c];rfl
end
def zU {b:RV}:∀{a:C RV}{c:Nat},a[c]? =some b->(a.flatMap jw)[c*2]? =some (row (.slice b.La b.R.lines.length b.Lc) 48 3 b.R.lines.length (dn b.R.lines))/\(a.flatMap jw)[c*2+1]? =some (row (.slice b.Ja b.R.pC.length b.Jc) 23 1 b.R.pC.length (dF b.R.pC))
 |[],c,d=>by simp at d
 |g::a,0,d=>by simp only[Jg,ln]at d;subst d;exact⟨rfl,rfl⟩
 |g::a,c+1,d=>by
  simp only[y0]at d;have f:=zU (b:=b) (a:=a) (c:=c) d;have e:(c+1)*2=c*2+1+1:=by omega
  rw[e];exact f
def ahB {b:PC}(a:b.Ok):1<=b.n:=by have:=a.et;unfold PC.n;split<;>omega
set_option maxRecDepth 2000 in
def akv (A1 A2 A3:cG Addr)(n1 n2 n3:Nat)(ap aq ak:C Int)(ao:O)(aM:Rd ao cW 1 (.slice A1 ap.length n1) ap.length (iv ap))(aN:ap.length<=140737488355328)(aC:Rd ao cW 1 (.slice A2 aq.length n2) aq.length (iv aq))(aD:aq.length<=140737488355328)(ay:Rd ao cW 1 (.slice A3 ak.length n3) ak.length (iv ak))(az:ak.length<=140737488355328):Sn 3 [.slice A1 ap.length n1,.slice A2 aq.length n2,.slice A3 ak.length n3] ao λr _=>r=.bool true:=by
 refine hJ func3 hS ?_;refine Ku func8 (λao g=>xa A1 _ n1 ao) ?_;rintro _ _ w1 ⟨b1,rfl,rfl⟩;refine cY ((du b1 (.slice A1 ap.length n1) 0)) [] func9 (cD _) (λao g aP=>BB b1 _ ap 0 ao ⟨aM.fg g (b:=[]) (cD _),aN,gK _⟩ aP) ?_;rintro _ _ w2 ⟨ab,S,E,L,p1,rfl,X,ax,⟨A,n,cp,rfl⟩,⟨AT,cT,rfl⟩,rfl,-,-⟩;unfold vd;obtain⟨E,aB⟩:∃E:M,E=.slice A n cp:=⟨_,rfl⟩;obtain⟨L,aE⟩:∃L:M,L=.slice AT 16 cT:=⟨_,rfl⟩;have aH:∀u∈cP ab E L,u.oneCell'=true:=by rw[aB,aE];simp[cP,Value.oneCell']
 rw[<-aB,<-aE];refine dj [F 0,F 0,F 0,F 0,F 0,F 0,F 0,F 0,F 0,J 0,F 0,F 0,F 0,F 0,vN,vN,J 0] λB aW=>?_;refine cO 0 (u:=cP ab E L) (H:=cP ab E L) (h1:=aH) λaX=>?_;refine cH [1,2,7] ?_;refine Y ?_;refine eS (λm H w'=>∃(ag:Nat)(R:jf)(c:C RV)(p:cG Addr)(s:Nat)(K:cG Addr)(k:Nat)(w:cG Addr)(z:Nat)(aj:gP),m=[(7,Z B),(8,Z ag),(10,.bool true)]/\H=[cF ag [.slice p R.cS.length s,.slice K c.length k,.slice w 7 z] 34,row (.slice p R.cS.length s) 57 3 R.cS.length (R.cS.flatMap fH),row (.slice K c.length k) 45 7 c.length (c.flatMap fm),cz (c.flatMap jw),cF B (cP ab E L) 27]/\xw ab R c aj) ?_ ?_
 .refine xr (.fl 0 (.fl 1 (.fl 2 (.fl 4 (.two 3 (.two 5 (.fl 6 (.fl 7 (.fl 8 (.fl 9 (.ef 10 (.ef 11 (.fl 12 (.fl 13 .done)))))))) 10 (.ef 5 (.fl 6 (.fl 7 (.fl 8 (.fl 9 (.ef 11 (.fl 12 (.fl 13 .done))))))))) 10 (.ef 3 (.ef 5 (.fl 6 (.fl 7 (.fl 8 (.fl 9 (.ef 11 (.fl 12 (.fl 13 .done)))))))))))))) ([_,_,_,_]) ([]) lN (by kernel_rfl) (by kernel_rfl) rfl (ik _) (λa4=>?_);refine nW rfl (di 0 (b:=cP ab E L)) ?_;refine nW rfl (di 0 (b:=cP ab E L)) ?_;refine cC ?_;refine rV ?_ ?_
  .refine fF rfl (eB func11 (λao g=>xq A2 n2 aq _ _ X (aC.dx g) aD)) ?_;rintro _ _ w3 ⟨_,rfl,fv,kv,pv,Fs,Ts,Ps,rfl,rfl,l⟩;unfold vH;refine⟨_,de [5,5,5,5] _ rfl,?_⟩;refine rV ?_ ?_
   .refine fF rfl (eB func10 (λao g=>rH (r:=ak) X ax (Rd.dM g (l:=1) rfl) (Rd.dM g (l:=2) rfl) (by first|exact l0 g (E:=4) (G:=5) (H:=6) (K:=7) (L:=8) rfl rfl rfl rfl rfl l|exact l0 g (E:=5) (G:=6) (H:=7) (K:=8) (L:=9) rfl rfl rfl rfl rfl l) l (ay.dx g) az)) ?_;rintro _ _ w4 ⟨_,rfl,R,c,p,s,K,k,w,z,pz,rfl,rfl,am,P,an,aF,ae⟩;unfold pk;refine⟨_,de [4,4,4,4] _ rfl,?_⟩;refine cL ?_;refine fY (fF rfl (mP [vN,vN,vN]) ?_);rintro _ _ av ⟨ar,rfl,rfl⟩;refine⟨_,eg.symm,?_⟩;refine fY (lK rfl (gD 4 (y:=[.slice p R.cS.length s,.slice K c.length k,.slice w 7 z])) ?_);rintro _ _ aw rfl;refine⟨_,cD _,?_⟩;refine cC ?_;refine oy [7,8,10] [4,4,4,4,0] ?_;obtain⟨aj,T⟩:=sD X l am P an ae;exact⟨_,R,c,p,s,K,k,w,z,aj,rfl,rfl,T⟩
   .refine fF rfl (mP [vN,vN,vN]) ?_;rintro _ _ av ⟨ar,rfl,rfl⟩;refine⟨_,eg.symm,?_⟩;refine fY (fF rfl (eB func10 (λao g=>rH (r:=ak) X ax (Rd.dM g (l:=1) rfl) (Rd.dM g (l:=2) rfl) (by first|exact l0 g (E:=4) (G:=5) (H:=6) (K:=7) (L:=8) rfl rfl rfl rfl rfl l|exact l0 g (E:=5) (G:=6) (H:=7) (K:=8) (L:=9) rfl rfl rfl rfl rfl l) l (ay.dx g) az)) ?_);rintro _ _ w4 ⟨_,rfl,R,c,p,s,K,k,w,z,pz,rfl,rfl,am,P,an,aF,ae⟩;unfold pk;refine⟨_,de [4,4,4,4] _ rfl,?_⟩;refine cL ?_;refine fY (lK rfl (gD 8 (y:=[.slice p R.cS.length s,.slice K c.length k,.slice w 7 z])) ?_);rintro _ _ aw rfl;refine⟨_,cD _,?_⟩;refine cC ?_;refine oy [7,8,10] [8,4,4,4,0] ?_;obtain⟨aj,T⟩:=sD X l am P an ae;exact⟨_,R,c,p,s,K,k,w,z,aj,rfl,rfl,T⟩
  .refine fF rfl (mP [vN,vN,vN]) ?_;rintro _ _ av ⟨ar,rfl,rfl⟩;refine⟨_,eg.symm,?_⟩;refine fY (fF rfl (eB func11 (λao g=>xq A2 n2 aq _ _ X (aC.dx g) aD)) ?_);rintro _ _ w3 ⟨_,rfl,fv,kv,pv,Fs,Ts,Ps,rfl,rfl,l⟩;unfold vH;refine⟨_,de [5,5,5,5] _ rfl,?_⟩;refine fY (fF rfl (eB func10 (λao g=>rH (r:=ak) X ax (Rd.dM g (l:=1) rfl) (Rd.dM g (l:=2) rfl) (by first|exact l0 g (E:=4) (G:=5) (H:=6) (K:=7) (L:=8) rfl rfl rfl rfl rfl l|exact l0 g (E:=5) (G:=6) (H:=7) (K:=8) (L:=9) rfl rfl rfl rfl rfl l) l (ay.dx g) az)) ?_);rintro _ _ w4 ⟨_,rfl,R,c,p,s,K,k,w,z,pz,rfl,rfl,am,P,an,aF,ae⟩;unfold pk;refine⟨_,de [4,4,4,4] _ rfl,?_⟩;refine cL ?_;refine fY (lK rfl (gD 13 (y:=[.slice p R.cS.length s,.slice K c.length k,.slice w 7 z])) ?_);rintro _ _ aw rfl;refine⟨_,cD _,?_⟩;refine cC ?_;refine oy [7,8,10] [13,4,4,4,0] ?_;obtain⟨aj,T⟩:=sD X l am P an ae;exact⟨_,R,c,p,s,K,k,w,z,aj,rfl,rfl,T⟩
 rintro _ _ w5 ⟨ag,R,c,p,s,K,k,w,z,aj,rfl,rfl,T⟩;have a2:=T.rl;have a1:=T.il;refine N [7,8,32] ?_;refine eL ?_;refine I (dH 0 (n:=.slice K c.length k)) ?_;refine K4 [7,8,34,35,36] ?_;refine dB (λq m H w'=>∃i:Nat,m=[(7,Z B),(8,Z ag),(34,.slice K c.length k),(35,F c.length),(36,F i)]/\H=[cF ag [.slice p R.cS.length s,.slice K c.length k,.slice w 7 z] 34,row (.slice p R.cS.length s) 57 3 R.cS.length (R.cS.flatMap fH),row (.slice K c.length k) 45 7 c.length (c.flatMap fm),cz (c.flatMap jw),cF B (cP ab E L) 27]/\q+i=c.length) c.length ⟨0,rfl,rfl,rfl⟩ ?_;rintro q _ _ w5 ⟨i,rfl,rfl,hq⟩;refine cZ (λaI=>?_) λaI=>?_
 .obtain⟨x,hx⟩:∃x,c[i]? =some x:=⟨_,dr (by omega)⟩;have au:x.R∈R.rs:=by rw[<-T.r];exact gu (eH hx)
  have ai:=T.o.law au;have aQ:=T.b _ au;have aO:=(T.rp _ au).1;have ah:=T.o.cap x.R.eP;refine eQ λg=>?_;obtain⟨ad,cr,e⟩:=fs g (q:=2) rfl;injection e with e1 _ e3;subst e1;subst e3;clear g;obtain⟨al,La,Lc,Ja,Jc⟩:=x;dsimp only at au ai aQ ah aO;obtain⟨W,hW⟩:∃W,W=eA (seen ab R.cS al.eP):=⟨_,rfl⟩;rw[<-hW]at ai ah;have aL:=ahB X;have ae:=X.et;refine df ?_;refine I (cR (ab:=i)) ?_;refine I (je 2 (b:=fm ⟨al,La,Lc,Ja,Jc⟩) (hv:=by rw[dU];exact oQ yB hx)) ?_;refine dj [F 0,J 0,vN,J 0,F 0,J 0,vN] λaf aY=>?_;refine cO 0 (u:=fm ⟨al,La,Lc,Ja,Jc⟩) (H:=fm ⟨al,La,Lc,Ja,Jc⟩) (h1:=by simp[fm,iD,Value.oneCell']) λaZ=>?_;refine cH [7,8,12,34,35,36] ?_;refine Y ?_;refine oW [0,1,2,3,5,6,7,1004,8,9] [_,_,_,_,_,_] [] (ik _) λa5=>?_;refine cN rfl (di 1 (b:=[.slice p R.cS.length s,vS ad c.length k,.slice w 7 z])) ?_;refine cN rfl (di 5 (b:=cP ab E L)) ?_;refine Y ?_;refine cN rfl (dH 0 (n:=F al.eP)) ?_;refine Y ?_;refine cN rfl (dH 5 (n:=F ab.et)) ?_;refine Y ?_;refine eh rfl (eB func12 (λao g=>by have h:=Hn (g:=E) (h:=L) (s:=vS ad c.length k) (r:=.slice w 7 z) al.eP X (Rd.dM g (l:=2) rfl) T.t (by omega) (by rw[<-hW];exact ah);rw[<-hW]at h;exact h)) ?_;rintro _ _ a0 ⟨_,rfl,rfl,rfl⟩;refine⟨_,jQ _ _ _,?_⟩;refine N [7,8,12,13,14,34,35,36] ?_;refine cL ?_;refine I (dH 5 (n:=F ab.mode)) ?_;refine N [7,8,12,13,14,34,35,36,50] ?_;refine eS (λm H w'=>m=[(7,Z B),(8,Z ag),(12,Z af),(13,J W),(14,J ab.n),(34,vS ad c.length k),(35,F c.length),(36,F i)]/\H=[cF af (fm ⟨al,La,Lc,Ja,Jc⟩) 45,cF ag [.slice p R.cS.length s,vS ad c.length k,.slice w 7 z] 34,row (.slice p R.cS.length s) 57 3 R.cS.length (R.cS.flatMap fH),row (vS ad c.length k) 45 7 c.length (c.flatMap fm),cz (c.flatMap jw),cF B (cP ab E L) 27]) ?_ ?_
  .refine jc rfl (λaJ=>?_) (λaJ=>?_)
   .refine cC ?_;refine I (cU (z:=J ab.n) (og rfl rfl) (by unfold PC.n;rw[cM (by omega),gR];rfl)) ?_;refine N [7,8,12,13,14,34,35,36] ?_;exact⟨rfl,rfl⟩
   .refine kw [7,8,12,13,14,34,35,36] rfl (iY ?_);exact⟨by rw[show ab.n=ab.et by unfold PC.n;rw[cJ (by omega)]],rfl⟩
  .rintro _ _ w6 ⟨rfl,rfl⟩;refine cQ ?_;refine I (dH 0 (n:=.slice La al.lines.length Lc)) ?_;refine K4 [7,8,12,13,14,34,35,36,54,55,56] ?_;refine dB (λq2 m H w'=>∃j:Nat,m=[(7,Z B),(8,Z ag),(12,Z af),(13,J W),(14,J ab.n),(34,vS ad c.length k),(35,F c.length),(36,F i),(54,.slice La al.lines.length Lc),(55,F al.lines.length),(56,F j)]/\H=[cF af (fm ⟨al,La,Lc,Ja,Jc⟩) 45,cF ag [.slice p R.cS.length s,vS ad c.length k,.slice w 7 z] 34,row (.slice p R.cS.length s) 57 3 R.cS.length (R.cS.flatMap fH),row (vS ad c.length k) 45 7 c.length (c.flatMap fm),cz (c.flatMap jw),cF B (cP ab E L) 27]/\q2+j=al.lines.length) al.lines.length ⟨0,rfl,rfl,rfl⟩ ?_;rintro q2 _ _ w7 ⟨j,rfl,rfl,a3⟩;refine cZ (λaK=>?_) λaK=>?_
   .obtain⟨y,hy⟩:∃y,al.lines[j]? =some y:=⟨_,dr (by omega)⟩;have aG:=eH hy;obtain⟨g1,g2,g3,g4⟩:=ai.bounds y aG;have g5:=ai.adQ aL aG;obtain⟨D,hD⟩:∃D,D=W/ab.n:=⟨_,rfl⟩;obtain⟨G,hG⟩:∃G,G=y.2.2-y.2.1:=⟨_,rfl⟩;rw[<-hD,<-hG]at g5;have aA:=(zU hx).1;dsimp only at aA;refine eQ λg=>?_;obtain⟨gl,cl,e⟩:=nB g (s:=4) (t:=i*2) rfl aA;injection e with e1 _ e3;subst e1;subst e3;clear g;refine df ?_;refine I (cR (ab:=j)) ?_;refine I (qN 4 (i*2) (b:=gM y) (hj:=aA) (hv:=by rw[dU,BI];exact oQ zL hy)) ?_;refine dj [vE,J 0,J 0] λaR aS=>?_;refine cO 0 (u:=gM y) (H:=gM y) (h1:=by simp[gM,Value.oneCell']) λaT=>?_;refine K3 2 (f:=[.slice p R.cS.length s,vS ad c.length k,.slice w 7 z]) ?_;refine I (di 6 (b:=cP ab E L)) ?_;refine Y ?_;refine I (dH 1 (n:=F al.eP)) ?_;refine Y ?_;refine I (dH 0 (n:=.string y.1)) ?_;refine dd func13 (λao g=>RZ (h:=E) (l:=L) (y:=vS ad c.length k) (x:=.slice w 7 z) al.eP y.1 X (Rd.dM g (l:=3) rfl) T.t (by omega) (by rw[<-hW];exact ah)) ?_;rintro _ _ w8 ⟨rfl,rfl⟩;obtain⟨f,hf⟩:∃f,f=wt (seen ab R.cS al.eP) y.1:=⟨_,rfl⟩;rw[<-hf]at g1 g2|-;refine N [7,8,12,13,14,16,17,34,35,36,54,55,56] ?_;refine Y ?_;refine eO 21 [] [_,_,_,_,_,_,_] [] (ik _) λaV=>?_;refine cC ?_;refine cN rfl (dH 0 (n:=J y.2.1)) ?_;refine cL ?_;refine fX rfl rfl rfl (dH 0 (n:=J y.2.2)) ?_;refine cL ?_;refine fX rfl rfl rfl (dH 0 (n:=J y.2.2)) ?_;refine Y ?_;refine fX rfl rfl rfl (dH 0 (n:=J y.2.1)) ?_;refine fX rfl rfl rfl (cU (z:=J G) (BT rfl rfl) (by rw[hG,Int.natCast_sub (by omega)])) ?_;refine cC ?_;refine fX rfl rfl rfl (cU (z:=J D) (P2 rfl rfl (by omega)) (by rw[hD,Fb])) ?_;refine N [7,8,12,13,14,34,35,36,54,55,56,87] ?_;refine cC ?_;refine cK [1,1,1,1,1,1] ?_;refine N [7,8,12,13,14,34,35,36,54,55,56] ?_;exact⟨q2-1,by omega,j+1,rfl,rfl,by omega⟩
   .refine dI ?_;refine cK [1,1,1,1,1] ?_;refine N [7,8,34,35,36] ?_;exact⟨q-1,by omega,i+1,rfl,rfl,by omega⟩
 .refine dI ?_;refine Ku func14 (λao g=>Bw ao) ?_;rintro _ _ aU ⟨rfl,rfl⟩;refine N [6] ?_;refine gT results3 ?_;rfl
open Go.RowKit Go.WideShapes Go.ChangeShapes
set_option maxRecDepth 100000 in
theorem aw6 (g:Os)(b:g.Started)(x:Type)(enc:dk×M->x):ReturnsInHanded {} checked g 3 .any (Rows.systemBoundsSpec.pre6 enc prog f3 Rows.systemBoundsRow.domain false) (Rows.systemBoundsSpec.post enc prog f3 false true false false):=by
 refine Eb (f:=checked) (tb:=4) Tryz.own b (by kernel_rfl) func3 (ChangeSpec.witness6 (enc:=enc) (C:=checked) false ⟨#[],#[.slice none 0 0,.slice none 0 0,.slice none 0 0],[]⟩ 8 (by kernel_rfl) (by kernel_rfl) (by kernel_rfl) (by kernel_rfl)) rfl (λc s=>?_) Tryz.laidOut (by kernel_rfl) (by kernel_rfl) underlying4 (λW args t=>?_)
 .have:c.length=3:=s.trans (by kernel_rfl)
  match c,this with
  |[_,_,_],_=>rfl
 .have a:sU enc prog W f3.params.toList args:=t;rw[params3]at a;clear t;obtain⟨y,_,rfl,h0,a⟩:=pt a;obtain⟨z,_,rfl,q,a⟩:=pt a;obtain⟨A,_,rfl,r,a⟩:=pt a;obtain rfl:=Ep a;obtain⟨h,n,k,rfl,d,u,_⟩:=pr h0;obtain⟨i,o,l,rfl,e,v,_⟩:=pr q;obtain⟨j,p,m,rfl,f,w,_⟩:=pr r;exact akv h i j n o p k l m W d (by omega) e (by omega) f (by omega)
theorem aw7 {a b:Bool}(c:a=true)(d:b=true):(a&&b)=true:=by rw[c,d];rfl
theorem awx:(Rows.systemBoundsRow.wf (OpenSpec.ofChange Rows.systemBoundsSpec))=true:=by kernel_rfl
theorem awy:(laidOutB prog)=true:=by kernel_rfl
theorem awM:(mapsRowed prog)=true:=by kernel_rfl
theorem awX:(f3.params.all (prog.readableRec ·))=true:=by kernel_rfl
theorem aw0:(namedTie prog Rows.systemBoundsRow.named Rows.systemBoundsSpec.vars)=true:=by kernel_rfl
theorem aw1:((Rows.systemBoundsRow.stops==[]))=true:=by kernel_rfl
theorem aw2:((prog.stops==[]))=true:=by kernel_rfl
theorem aw3:((Rows.systemBoundsRow.knobs==[]))=true:=by kernel_rfl
theorem aw4:((prog.stopKnobs==[]))=true:=by kernel_rfl
theorem aw5:((Rows.systemBoundsRow.inPlace==prog.inPlace 3))=true:=by kernel_rfl
theorem awz:((Rows.systemBoundsRow.unfollowed==prog.unfollowed 3))=true:=by kernel_rfl
theorem awA:((Rows.systemBoundsRow.recurses==prog.recurses 3))=true:=by kernel_rfl
theorem awC:((Rows.systemBoundsRow.named==prog.varsNamed 3))=true:=by kernel_rfl
theorem awD:((Rows.systemBoundsRow.maps==(f3.params.toList++Rows.systemBoundsSpec.plain.varTypes prog).any (prog.mapsRec ·)))=true:=by kernel_rfl
theorem awF:((Rows.systemBoundsRow.ifaces==(f3.params.toList++Rows.systemBoundsSpec.plain.varTypes prog).any (prog.ifacesRec ·)))=true:=by kernel_rfl
theorem awG:((Rows.systemBoundsRow.mapsOut==prog.mapsAmong f3.resultTypes.toList))=true:=by kernel_rfl
theorem awH:((Rows.systemBoundsRow.loops==(f3.params.toList++Rows.systemBoundsSpec.plain.varTypes prog).any (prog.loopsFrom ·)))=true:=by kernel_rfl
theorem awJ:((Rows.systemBoundsRow.wideKeys==(f3.params.toList++Rows.systemBoundsSpec.plain.varTypes prog++f3.resultTypes.toList).any (prog.wideKeysFrom ·)))=true:=by kernel_rfl
theorem awK:(Rows.systemBoundsSpec.vars.all (prog.varReadable ·))=true:=by kernel_rfl
theorem awL:(f3.resultTypes.all (λa=>prog.readableRec a&&decide (a<prog.types.size)))=true:=by kernel_rfl
theorem awN:((Rows.systemBoundsRow.ifacesOut==f3.resultTypes.toList.any (prog.ifacesRec ·)))=true:=by kernel_rfl
theorem awO:((Rows.systemBoundsRow.loopsOut==f3.resultTypes.toList.any (prog.loopsFrom ·)))=true:=by kernel_rfl
theorem awP:((Rows.systemBoundsRow.plainKeys==prog.plainKeys))=true:=by kernel_rfl
theorem awQ:(Rows.systemBoundsRow.shortTexts.isNone)=true:=by kernel_rfl
theorem awR:(prog.stopsHeard)=true:=by kernel_rfl
theorem awS:(prog.mayEnter)=true:=by kernel_rfl
theorem awT:((Rows.systemBoundsRow.lifted==prog.liftsFinal))=true:=by kernel_rfl
theorem awU:((prog.make==some Rows.systemBoundsRow.make))=true:=by kernel_rfl
theorem awV:((Rows.systemBoundsRow.kinds==(if Rows.systemBoundsRow.domain.isEmpty then[]else f3.params.toList.map λb=>match prog.underlying b with|some (.int a)=>some a|_=>none)))=true:=by kernel_rfl
theorem awW:((Rows.systemBoundsRow.pinned==Rows.systemBoundsRow.pinnedBy))=true:=by kernel_rfl
theorem awY:((Rows.systemBoundsRow.veiled==(f3.params.toList++Rows.systemBoundsSpec.plain.varTypes prog++f3.resultTypes.toList).any (prog.veiledRec ·)))=true:=by kernel_rfl
theorem awZ:(Rows.systemBoundsRow.veiledFits prog f3.params.toList (f3.params.toList++Rows.systemBoundsSpec.plain.varTypes prog++f3.resultTypes.toList))=true:=by kernel_rfl
set_option maxRecDepth 100000 in
theorem awv:joinedFacts prog 3 f3 Rows.systemBoundsSpec Rows.systemBoundsRow=true:=aw7 (aw7 (aw7 (aw7 (aw7 (aw7 (aw7 (aw7 (aw7 (aw7 (aw7 (aw7 (aw7 (aw7 (aw7 (aw7 (aw7 (aw7 (aw7 (aw7 (aw7 (aw7 (aw7 (aw7 (aw7 (aw7 (aw7 (aw7 (aw7 (aw7 (aw7 awx awy) awM) awX) aw0) aw1) aw2) aw3) aw4) aw5) awz) awA) awC) awD) awF) awG) awH) awJ) awK) awL) awN) awO) awP) awQ) awR) awS) awT) awU) awV) awW) awY) awZ
theorem systemBounds_holds:Rows.SystemBoundsSaid:=OpenClaim.holds_of_wide 3 f3 rfl rfl rfl rfl rfl rfl rfl ⟨rfl,rfl,rfl,rfl,rfl⟩ rfl rfl rfl rfl rfl (by kernel_rfl) func3 awv (nr (by kernel_rfl)) (by unfold Func.isWrapper;first|(rw[cM (by decide+kernel)];kernel_rfl)|(rw[cJ (by decide+kernel)];exact⟨rfl,rfl⟩)) (λb a c enc _=>aw6 b a c enc)
end Go.Proofs.YtdlpoonfcdoiiaaGreat
