/- The law SystemMass returns true whatever comes in, and leaves what came in as it was: the given statement SystemMassSaid. It has no conditions. -/
import Derived.Test.YtdlpoonfcdoiiaaGreatMB17
import Derived.Test.YtdlpoonfcdoiiaaGreatMB18
import Derived.Test.YtdlpoonfcdoiiaaGreatRows
namespace Go.Proofs.YtdlpoonfcdoiiaaGreat
open Go.RowKit Go.Proofs.Tryz
set_option maxHeartbeats 40000000
set_option linter.all false
def jL.law {d:PC}{h:dg}{c:C jg}{a:C gH}{g:gP}(f:jL d h c a g){b:jg}(e:b∈c):wx d b (wt (Go.Proofs.YtdlpoonfcdoiiaaGreat.seen d a b.eP)) (eA (Go.Proofs.YtdlpoonfcdoiiaaGreat.seen d a b.eP)):=by rw[f.seen];exact(f.rep.ok b e).2.2
def jL.cap {c:PC}{g:dg}{b:C jg}{a:C gH}{f:gP}(d:jL c g b a f)(e:Nat):eA (Go.Proofs.YtdlpoonfcdoiiaaGreat.seen c a e)<=9223372036854775808:=by rw[d.seen];exact d.inv.cap e
def Td (c:PC)(a:C gH)(b:gH)(e:Nat):seen c (a++[b]) e=seen c a e++if c.gx b.time=e then[(b.key,b.weight)]else[]:=by
 unfold seen ez;rw[dE,qT,dE];congr 1;by_cases d:c.gx b.time=e
 .rw[cM d];simp[gH.ev,d]
 .rw[cJ d];simp[gH.ev,d]
def Vn (b:kO)(a:U×Nat):eA (b++[a])=eA b+a.2:=by unfold eA;rw[dE,mV];simp
def att (a b:kO):eA (a++b)=eA a+eA b:=by unfold eA;rw[dE,mV]
def ai6 (a:PC)(c d:C gH)(b:Nat):seen a (c++d) b=seen a c b++seen a d b:=by unfold seen ez;rw[dE,qT,dE]
def Tc (b:PC)(a:C gH)(d c:Nat):eA (seen b (a.take d) c)<=eA (seen b a c):=by
 have e:seen b a c=seen b (a.take d) c++seen b (a.drop d) c:=by rw[<-ai6,gJ]
 rw[e,att];omega
section
variable{a:PC}{b:O}
def Hn {g h iv s r:M}{c:C gH}(W:Nat)(D:a.Ok)(j:Rd b cW 3 iv c.length (c.flatMap fH))(E:∀i∈c,i.time<=2000)(hl:c.length<=1000)(hs:eA (seen a c W)<=9223372036854775808):Sn 12 [PE [iv,s,r],gV a g h,F W] b λu t=>u=J (eA (seen a c W):Int)/\t=[]:=by
 obtain⟨q,l,rfl,-⟩:=id j;refine enter (g:=29) func12 rfl rfl [(0,PE [.slice q c.length l,s,r]),(1,.agg (cP a g h).toArray),(2,_)] rfl ⟨rfl,rfl,rfl,trivial⟩ hS ?_;refine Mf (f:=[.slice q c.length l,s,r]) λz S=>?_;refine dK (l:=cP a g h) λe T=>?_;refine N [2,3,4] ?_;refine N [2,3,4,7] ?_;refine N [2,4,7,11,12,13] ?_;refine Y ?_;refine cK [0] ?_;refine dB (λQ L t R=>∃f:Nat,L=[(2,F W),(4,Z e),(7,J (eA (seen a (c.take f) W):Int)),(11,.slice q c.length l),(12,F c.length),(13,F f)]/\t=[cF e (cP a g h) 27]/\Q+f=c.length) c.length ⟨0,rfl,rfl,rfl⟩ ?_;rintro Q _ _ w1 ⟨f,rfl,rfl,hq⟩;refine cZ (λv=>?_) λv=>?_
 .obtain⟨i,p⟩:∃i,c[f]? =some i:=⟨_,dr (by omega)⟩;obtain⟨H,K,rfl,x,y⟩:=j.at_ (i:=f) (by omega);have ad:=E i (eH p);have B:c.take (f+1)=c.take f++[i]:=by rw[ia,p];rfl
  have d:=Td a (c.take f) i W;rw[<-B]at d;have m:=Tc a c (f+1) W;refine cC ?_;refine eS (λL t R=>L=[(2,F W),(4,Z e),(7,J (eA (seen a (c.take (f+1)) W):Int)),(11,.slice (some ⟨H,K,.none⟩) c.length l),(12,F c.length),(13,F f)]/\t=[cF e (cP a g h) 27]) ?_ ?_
  .refine cQ ?_;refine I (cR (ab:=f)) ?_;refine I (kY (b:=fH i) (hc:=λk u G=>by rw[ma];exact y _ _ (qC Cp p G)) (hF:=x)) ?_;refine dj [vE,F 0,J 0] λA X=>?_;refine cO 0 (u:=fH i) (H:=fH i) (h1:=by simp[fH,Value.oneCell']) λP=>?_;refine K3 1 (f:=cP a g h) ?_;refine cC ?_;refine dd func20 (λb hh=>Dv D g h i.time b (by omega)) ?_;rintro _ _ ab ⟨rfl,rfl⟩;refine cZ (λw=>?_) λw=>?_
   .have o:a.gx i.time=W:=by omega
    rw[cM o]at d;rw[d,Vn]at m;refine cL ?_;refine I (cU (z:=J ((eA (seen a (c.take f) W)+i.weight:Nat):Int)) (og rfl rfl (by dsimp only at m;omega)) (by rw[gR])) ?_;refine Y ?_;refine fu [1] ?_;refine cH [2,4,7,11,12,13] ?_;exact⟨by rw[d,Vn],rfl⟩
   .have o:a.gx i.time≠W:=by omega
    rw[cJ o,eN]at d;refine cK [1] ?_;refine kw [2,4,7,11,12,13] rfl (iY ?_);exact⟨by rw[d],rfl⟩
  .rintro _ _ w4 ⟨rfl,rfl⟩;refine N [2,4,7,11,12,13] ?_;exact⟨Q-1,by omega,f+1,rfl,rfl,by omega⟩
 .refine dI ?_;refine N [6] ?_;refine gT results12 ?_;have j:f=c.length:=by omega
  rw[j,j6];exact⟨rfl,rfl⟩
end
section
variable{a:O}
def zL (b:En):(gM b).length=3:=rfl
def BI (b:C En):dn b=b.flatMap gM:=by
 induction b with
 |nil=>rfl
 |cons d b c=>rw[ji,<-c];rfl
end
def zU {b:RV}:∀{a:C RV}{c:Nat},a[c]? =some b->(a.flatMap jw)[c*2]? =some (row (.slice b.La b.R.lines.length b.Lc) 48 3 b.R.lines.length (dn b.R.lines))/\(a.flatMap jw)[c*2+1]? =some (row (.slice b.Ja b.R.pC.length b.Jc) 23 1 b.R.pC.length (dF b.R.pC))
 |[],c,d=>by simp at d
 |g::a,0,d=>by simp only[Jg,ln]at d;subst d;exact⟨rfl,rfl⟩
 |g::a,c+1,d=>by
  simp only[y0]at d;have f:=zU (b:=b) (a:=a) (c:=c) d;have e:(c+1)*2=c*2+1+1:=by omega
  rw[e];exact f
set_option maxRecDepth 2000 in
def akw (A1 A2 A3:cG Addr)(n1 n2 n3:Nat)(ai aj ad:C Int)(ah:O)(aG:Rd ah cW 1 (.slice A1 ai.length n1) ai.length (iv ai))(aH:ai.length<=140737488355328)(az:Rd ah cW 1 (.slice A2 aj.length n2) aj.length (iv aj))(aA:aj.length<=140737488355328)(av:Rd ah cW 1 (.slice A3 ad.length n3) ad.length (iv ad))(aw:ad.length<=140737488355328):Sn 4 [.slice A1 ai.length n1,.slice A2 aj.length n2,.slice A3 ad.length n3] ah λr _=>r=.bool true:=by
 refine hJ func4 hS ?_;refine Ku func8 (λah g=>xa A1 _ n1 ah) ?_;rintro _ _ w1 ⟨b1,rfl,rfl⟩;refine cY ((du b1 (.slice A1 ai.length n1) 0)) [] func9 (cD _) (λah g aK=>BB b1 _ ai 0 ah ⟨aG.fg g (b:=[]) (cD _),aH,gK _⟩ aK) ?_;rintro _ _ w2 ⟨c,S,K,L,p1,rfl,P,au,⟨A,n,cp,rfl⟩,⟨AT,cT,rfl⟩,rfl,-,-⟩;unfold vd;obtain⟨K,ay⟩:∃K:M,K=.slice A n cp:=⟨_,rfl⟩;obtain⟨L,aB⟩:∃L:M,L=.slice AT 16 cT:=⟨_,rfl⟩;have aD:∀u∈cP c K L,u.oneCell'=true:=by rw[ay,aB];simp[cP,Value.oneCell']
 rw[<-ay,<-aB];refine dj [F 0,F 0,F 0,F 0,F 0,F 0,F 0,F 0,F 0,J 0,F 0,F 0,F 0,F 0,vN,vN,J 0] λG aT=>?_;refine cO 0 (u:=cP c K L) (H:=cP c K L) (h1:=aD) λaU=>?_;refine cH [1,2,7] ?_;refine Y ?_;refine eS (λm H w'=>∃(ak:Nat)(R:jf)(f:C RV)(p:cG Addr)(s:Nat)(w:cG Addr)(k:Nat)(z:cG Addr)(B:Nat)(ab:gP),m=[(7,Z G),(8,Z ak),(10,.bool true)]/\H=[cF ak [.slice p R.cS.length s,.slice w f.length k,.slice z 7 B] 34,row (.slice p R.cS.length s) 57 3 R.cS.length (R.cS.flatMap fH),row (.slice w f.length k) 45 7 f.length (f.flatMap fm),cz (f.flatMap jw),cF G (cP c K L) 27]/\xw c R f ab) ?_ ?_
 .refine xr (.fl 0 (.fl 1 (.fl 2 (.fl 4 (.two 3 (.two 5 (.fl 6 (.fl 7 (.fl 8 (.fl 9 (.ef 10 (.ef 11 (.fl 12 (.fl 13 .done)))))))) 10 (.ef 5 (.fl 6 (.fl 7 (.fl 8 (.fl 9 (.ef 11 (.fl 12 (.fl 13 .done))))))))) 10 (.ef 3 (.ef 5 (.fl 6 (.fl 7 (.fl 8 (.fl 9 (.ef 11 (.fl 12 (.fl 13 .done)))))))))))))) ([_,_,_,_]) ([]) lN (by kernel_rfl) (by kernel_rfl) rfl (ik _) (λa0=>?_);refine nW rfl (di 0 (b:=cP c K L)) ?_;refine nW rfl (di 0 (b:=cP c K L)) ?_;refine cC ?_;refine rV ?_ ?_
  .refine fF rfl (eB func11 (λah g=>xq A2 n2 aj _ _ P (az.dx g) aA)) ?_;rintro _ _ w3 ⟨_,rfl,fv,kv,pv,Fs,Ts,Ps,rfl,rfl,l⟩;unfold vH;refine⟨_,de [5,5,5,5] _ rfl,?_⟩;refine rV ?_ ?_
   .refine fF rfl (eB func10 (λah g=>rH (r:=ad) P au (Rd.dM g (l:=1) rfl) (Rd.dM g (l:=2) rfl) (by first|exact l0 g (E:=4) (G:=5) (H:=6) (K:=7) (L:=8) rfl rfl rfl rfl rfl l|exact l0 g (E:=5) (G:=6) (H:=7) (K:=8) (L:=9) rfl rfl rfl rfl rfl l) l (av.dx g) aw)) ?_;rintro _ _ w4 ⟨_,rfl,R,f,p,s,w,k,z,B,pz,rfl,rfl,ae,X,af,aC,ag⟩;unfold pk;refine⟨_,de [4,4,4,4] _ rfl,?_⟩;refine cL ?_;refine fY (fF rfl (mP [vN,vN,vN]) ?_);rintro _ _ ap ⟨an,rfl,rfl⟩;refine⟨_,eg.symm,?_⟩;refine fY (lK rfl (gD 4 (y:=[.slice p R.cS.length s,.slice w f.length k,.slice z 7 B])) ?_);rintro _ _ aq rfl;refine⟨_,cD _,?_⟩;refine cC ?_;refine oy [7,8,10] [4,4,4,4,0] ?_;obtain⟨ab,E⟩:=sD P l ae X af ag;exact⟨_,R,f,p,s,w,k,z,B,ab,rfl,rfl,E⟩
   .refine fF rfl (mP [vN,vN,vN]) ?_;rintro _ _ ap ⟨an,rfl,rfl⟩;refine⟨_,eg.symm,?_⟩;refine fY (fF rfl (eB func10 (λah g=>rH (r:=ad) P au (Rd.dM g (l:=1) rfl) (Rd.dM g (l:=2) rfl) (by first|exact l0 g (E:=4) (G:=5) (H:=6) (K:=7) (L:=8) rfl rfl rfl rfl rfl l|exact l0 g (E:=5) (G:=6) (H:=7) (K:=8) (L:=9) rfl rfl rfl rfl rfl l) l (av.dx g) aw)) ?_);rintro _ _ w4 ⟨_,rfl,R,f,p,s,w,k,z,B,pz,rfl,rfl,ae,X,af,aC,ag⟩;unfold pk;refine⟨_,de [4,4,4,4] _ rfl,?_⟩;refine cL ?_;refine fY (lK rfl (gD 8 (y:=[.slice p R.cS.length s,.slice w f.length k,.slice z 7 B])) ?_);rintro _ _ aq rfl;refine⟨_,cD _,?_⟩;refine cC ?_;refine oy [7,8,10] [8,4,4,4,0] ?_;obtain⟨ab,E⟩:=sD P l ae X af ag;exact⟨_,R,f,p,s,w,k,z,B,ab,rfl,rfl,E⟩
  .refine fF rfl (mP [vN,vN,vN]) ?_;rintro _ _ ap ⟨an,rfl,rfl⟩;refine⟨_,eg.symm,?_⟩;refine fY (fF rfl (eB func11 (λah g=>xq A2 n2 aj _ _ P (az.dx g) aA)) ?_);rintro _ _ w3 ⟨_,rfl,fv,kv,pv,Fs,Ts,Ps,rfl,rfl,l⟩;unfold vH;refine⟨_,de [5,5,5,5] _ rfl,?_⟩;refine fY (fF rfl (eB func10 (λah g=>rH (r:=ad) P au (Rd.dM g (l:=1) rfl) (Rd.dM g (l:=2) rfl) (by first|exact l0 g (E:=4) (G:=5) (H:=6) (K:=7) (L:=8) rfl rfl rfl rfl rfl l|exact l0 g (E:=5) (G:=6) (H:=7) (K:=8) (L:=9) rfl rfl rfl rfl rfl l) l (av.dx g) aw)) ?_);rintro _ _ w4 ⟨_,rfl,R,f,p,s,w,k,z,B,pz,rfl,rfl,ae,X,af,aC,ag⟩;unfold pk;refine⟨_,de [4,4,4,4] _ rfl,?_⟩;refine cL ?_;refine fY (lK rfl (gD 13 (y:=[.slice p R.cS.length s,.slice w f.length k,.slice z 7 B])) ?_);rintro _ _ aq rfl;refine⟨_,cD _,?_⟩;refine cC ?_;refine oy [7,8,10] [13,4,4,4,0] ?_;obtain⟨ab,E⟩:=sD P l ae X af ag;exact⟨_,R,f,p,s,w,k,z,B,ab,rfl,rfl,E⟩
 rintro _ _ w5 ⟨ak,R,f,p,s,w,k,z,B,ab,rfl,rfl,E⟩;have aY:=E.rl;have aX:=E.il;refine N [7,8,30] ?_;refine eL ?_;refine I (dH 0 (n:=.slice w f.length k)) ?_;refine K4 [7,8,32,33,34] ?_;refine dB (λq m H w'=>∃i:Nat,m=[(7,Z G),(8,Z ak),(32,.slice w f.length k),(33,F f.length),(34,F i)]/\H=[cF ak [.slice p R.cS.length s,.slice w f.length k,.slice z 7 B] 34,row (.slice p R.cS.length s) 57 3 R.cS.length (R.cS.flatMap fH),row (.slice w f.length k) 45 7 f.length (f.flatMap fm),cz (f.flatMap jw),cF G (cP c K L) 27]/\q+i=f.length) f.length ⟨0,rfl,rfl,rfl⟩ ?_;rintro q _ _ w5 ⟨i,rfl,rfl,hq⟩;refine cZ (λaE=>?_) λaE=>?_
 .obtain⟨x,hx⟩:∃x,f[i]? =some x:=⟨_,dr (by omega)⟩;have ao:x.R∈R.rs:=by rw[<-E.r];exact gu (eH hx)
  have T:=E.o.law ao;have aL:=E.b _ ao;have aI:=(E.rp _ ao).1;have al:=E.o.cap x.R.eP;refine eQ λg=>?_;obtain⟨gr,cr,e⟩:=fs g (q:=2) rfl;injection e with e1 _ e3;subst e1;subst e3;clear g;obtain⟨D,La,Lc,Ja,Jc⟩:=x;dsimp only at ao T aL al aI;obtain⟨W,hW⟩:∃W,W=eA (seen c R.cS D.eP):=⟨_,rfl⟩;rw[<-hW]at T al;have aJ:=T.RH;have am:=T.total;refine df ?_;refine I (cR (ab:=i)) ?_;refine I (je 2 (b:=fm ⟨D,La,Lc,Ja,Jc⟩) (hv:=by rw[dU];exact oQ yB hx)) ?_;refine dj [F 0,J 0,vN,J 0,F 0,J 0,vN] λar aV=>?_;refine cO 0 (u:=fm ⟨D,La,Lc,Ja,Jc⟩) (H:=fm ⟨D,La,Lc,Ja,Jc⟩) (h1:=by simp[fm,iD,Value.oneCell']) λaW=>?_;refine cH [7,8,12,32,33,34] ?_;refine cQ ?_;refine I (dH 0 (n:=J D.overflow)) ?_;refine N [7,8,12,13,32,33,34] ?_;refine cL ?_;refine I (dH 0 (n:=.slice La D.lines.length Lc)) ?_;refine K4 [7,8,12,13,32,33,34,41,42,43] ?_;refine dB (λq2 m H w'=>∃j:Nat,m=[(7,Z G),(8,Z ak),(12,Z ar),(13,J ((D.overflow+fk (D.lines.take j):Nat):Int)),(32,vS gr f.length k),(33,F f.length),(34,F i),(41,.slice La D.lines.length Lc),(42,F D.lines.length),(43,F j)]/\H=[cF ar (fm ⟨D,La,Lc,Ja,Jc⟩) 45,cF ak [.slice p R.cS.length s,vS gr f.length k,.slice z 7 B] 34,row (.slice p R.cS.length s) 57 3 R.cS.length (R.cS.flatMap fH),row (vS gr f.length k) 45 7 f.length (f.flatMap fm),cz (f.flatMap jw),cF G (cP c K L) 27]/\q2+j=D.lines.length) D.lines.length ⟨0,rfl,rfl,rfl⟩ ?_;rintro q2 _ _ w7 ⟨j,rfl,rfl,aZ⟩;refine cZ (λaF=>?_) λaF=>?_
  .obtain⟨y,hy⟩:∃y,D.lines[j]? =some y:=⟨_,dr (by omega)⟩;have aM:=eH hy;obtain⟨g1,g2,g3,g4⟩:=T.bounds y aM;obtain⟨t1,t2⟩:=LV hy;have ax:=(zU hx).1;dsimp only at ax;refine eQ λg=>?_;obtain⟨gl,cl,e⟩:=nB g (s:=4) (t:=i*2) rfl ax;injection e with e1 _ e3;subst e1;subst e3;clear g;refine df ?_;refine I (cR (ab:=j)) ?_;refine I (qN 4 (i*2) (b:=gM y) (hj:=ax) (hv:=by rw[dU,BI];exact oQ zL hy)) ?_;refine dj [vE,J 0,J 0] λaO aP=>?_;refine cO 0 (u:=gM y) (H:=gM y) (h1:=by simp[gM,Value.oneCell']) λaQ=>?_;refine cH [7,8,12,13,15,32,33,34,41,42,43] ?_;refine cL ?_;refine I (dH 0 (n:=J y.2.1)) ?_;refine Y ?_;refine I (dH 0 (n:=J y.2.2)) ?_;refine cL ?_;refine dZ rfl rfl (dH 0 (n:=J y.2.1)) ?_;refine dZ rfl rfl (cU (z:=J ((D.overflow+fk (D.lines.take j)+y.2.1:Nat):Int)) (og rfl rfl) (by rw[gR (D.overflow+fk (D.lines.take j))])) ?_;refine N [7,8,12,13,15,32,33,34,41,42,43,59] ?_;refine df ?_;refine I (dH 0 (n:=J y.2.1)) ?_;refine I (cU (z:=J ((D.overflow+fk (D.lines.take (j+1)):Nat):Int)) (og rfl rfl) (by rw[t1,<-ma,gR (D.overflow+fk (D.lines.take j))])) ?_;refine Y ?_;refine fu [1,1,1,1,1,1] ?_;refine ir [7,8,12,13,32,33,34,41,42,43] ?_;exact⟨q2-1,by omega,j+1,rfl,rfl,by omega⟩
  .have hj:j=D.lines.length:=by omega
   rw[hj,j6,wi D.overflow,aJ];refine dI ?_;refine Y ?_;refine eO 19 [11] [_,_,_,_,_,_] [] (ik _) λaS=>?_;refine cC ?_;refine cN rfl (cU (z:=J W) (dH 0 (n:=J D.total)) (by rw[am])) ?_;refine cQ ?_;refine fX rfl rfl rfl (cU (z:=J W) (dH 0 (n:=J D.total)) (by rw[am])) ?_;refine fX rfl rfl rfl (di 1 (b:=[.slice p R.cS.length s,vS gr f.length k,.slice z 7 B])) ?_;refine fX rfl rfl rfl (di 5 (b:=cP c K L)) ?_;refine Y ?_;refine fX rfl rfl rfl (dH 0 (n:=F D.eP)) ?_;refine Og rfl rfl rfl (eB func12 (λah g=>by have h:=Hn (g:=K) (h:=L) (s:=vS gr f.length k) (r:=.slice z 7 B) D.eP P (Rd.dM g (l:=2) rfl) E.t (by omega) (by rw[<-hW];exact al);rw[<-hW]at h;exact h)) ?_;rintro _ _ aN ⟨_,rfl,rfl,rfl⟩;refine⟨_,jQ _ _ _,?_⟩;refine cL ?_;refine fX rfl rfl rfl (cU (z:=J W) (dH 0 (n:=J D.total)) (by rw[am])) ?_;refine N [7,8,32,33,34,83] ?_;refine cC ?_;refine cK [1,1,1,1,1] ?_;refine N [7,8,32,33,34] ?_;exact⟨q-1,by omega,i+1,rfl,rfl,by omega⟩
 .refine dI ?_;refine Ku func14 (λah g=>Bw ah) ?_;rintro _ _ aR ⟨rfl,rfl⟩;refine N [6] ?_;refine gT results4 ?_;rfl
open Go.RowKit Go.WideShapes Go.ChangeShapes
set_option maxRecDepth 100000 in
theorem axG (g:Os)(b:g.Started)(x:Type)(enc:dk×M->x):ReturnsInHanded {} checked g 4 .any (Rows.systemMassSpec.pre6 enc prog f4 Rows.systemMassRow.domain false) (Rows.systemMassSpec.post enc prog f4 false true false false):=by
 refine Eb (f:=checked) (tb:=4) Tryz.own b (by kernel_rfl) func4 (ChangeSpec.witness6 (enc:=enc) (C:=checked) false ⟨#[],#[.slice none 0 0,.slice none 0 0,.slice none 0 0],[]⟩ 8 (by kernel_rfl) (by kernel_rfl) (by kernel_rfl) (by kernel_rfl)) rfl (λc s=>?_) Tryz.laidOut (by kernel_rfl) (by kernel_rfl) underlying4 (λW args t=>?_)
 .have:c.length=3:=s.trans (by kernel_rfl)
  match c,this with
  |[_,_,_],_=>rfl
 .have a:sU enc prog W f4.params.toList args:=t;rw[params4]at a;clear t;obtain⟨y,_,rfl,h0,a⟩:=pt a;obtain⟨z,_,rfl,q,a⟩:=pt a;obtain⟨A,_,rfl,r,a⟩:=pt a;obtain rfl:=Ep a;obtain⟨h,n,k,rfl,d,u,_⟩:=pr h0;obtain⟨i,o,l,rfl,e,v,_⟩:=pr q;obtain⟨j,p,m,rfl,f,w,_⟩:=pr r;exact akw h i j n o p k l m W d (by omega) e (by omega) f (by omega)
theorem axH {a b:Bool}(c:a=true)(d:b=true):(a&&b)=true:=by rw[c,d];rfl
theorem axa:(Rows.systemMassRow.wf (OpenSpec.ofChange Rows.systemMassSpec))=true:=by kernel_rfl
theorem axb:(laidOutB prog)=true:=by kernel_rfl
theorem axm:(mapsRowed prog)=true:=by kernel_rfl
theorem axx:(f4.params.all (prog.readableRec ·))=true:=by kernel_rfl
theorem axA:(namedTie prog Rows.systemMassRow.named Rows.systemMassSpec.vars)=true:=by kernel_rfl
theorem axB:((Rows.systemMassRow.stops==[]))=true:=by kernel_rfl
theorem axC:((prog.stops==[]))=true:=by kernel_rfl
theorem axD:((Rows.systemMassRow.knobs==[]))=true:=by kernel_rfl
theorem axE:((prog.stopKnobs==[]))=true:=by kernel_rfl
theorem axF:((Rows.systemMassRow.inPlace==prog.inPlace 4))=true:=by kernel_rfl
theorem axc:((Rows.systemMassRow.unfollowed==prog.unfollowed 4))=true:=by kernel_rfl
theorem axd:((Rows.systemMassRow.recurses==prog.recurses 4))=true:=by kernel_rfl
theorem axe:((Rows.systemMassRow.named==prog.varsNamed 4))=true:=by kernel_rfl
theorem axf:((Rows.systemMassRow.maps==(f4.params.toList++Rows.systemMassSpec.plain.varTypes prog).any (prog.mapsRec ·)))=true:=by kernel_rfl
theorem axg:((Rows.systemMassRow.ifaces==(f4.params.toList++Rows.systemMassSpec.plain.varTypes prog).any (prog.ifacesRec ·)))=true:=by kernel_rfl
theorem axh:((Rows.systemMassRow.mapsOut==prog.mapsAmong f4.resultTypes.toList))=true:=by kernel_rfl
theorem axi:((Rows.systemMassRow.loops==(f4.params.toList++Rows.systemMassSpec.plain.varTypes prog).any (prog.loopsFrom ·)))=true:=by kernel_rfl
theorem axj:((Rows.systemMassRow.wideKeys==(f4.params.toList++Rows.systemMassSpec.plain.varTypes prog++f4.resultTypes.toList).any (prog.wideKeysFrom ·)))=true:=by kernel_rfl
theorem axk:(Rows.systemMassSpec.vars.all (prog.varReadable ·))=true:=by kernel_rfl
theorem axl:(f4.resultTypes.all (λa=>prog.readableRec a&&decide (a<prog.types.size)))=true:=by kernel_rfl
theorem axn:((Rows.systemMassRow.ifacesOut==f4.resultTypes.toList.any (prog.ifacesRec ·)))=true:=by kernel_rfl
theorem axo:((Rows.systemMassRow.loopsOut==f4.resultTypes.toList.any (prog.loopsFrom ·)))=true:=by kernel_rfl
theorem axp:((Rows.systemMassRow.plainKeys==prog.plainKeys))=true:=by kernel_rfl
theorem axq:(Rows.systemMassRow.shortTexts.isNone)=true:=by kernel_rfl
theorem axr:(prog.stopsHeard)=true:=by kernel_rfl
theorem axs:(prog.mayEnter)=true:=by kernel_rfl
theorem axt:((Rows.systemMassRow.lifted==prog.liftsFinal))=true:=by kernel_rfl
theorem axu:((prog.make==some Rows.systemMassRow.make))=true:=by kernel_rfl
theorem axv:((Rows.systemMassRow.kinds==(if Rows.systemMassRow.domain.isEmpty then[]else f4.params.toList.map λb=>match prog.underlying b with|some (.int a)=>some a|_=>none)))=true:=by kernel_rfl
theorem axw:((Rows.systemMassRow.pinned==Rows.systemMassRow.pinnedBy))=true:=by kernel_rfl
theorem axy:((Rows.systemMassRow.veiled==(f4.params.toList++Rows.systemMassSpec.plain.varTypes prog++f4.resultTypes.toList).any (prog.veiledRec ·)))=true:=by kernel_rfl
theorem axz:(Rows.systemMassRow.veiledFits prog f4.params.toList (f4.params.toList++Rows.systemMassSpec.plain.varTypes prog++f4.resultTypes.toList))=true:=by kernel_rfl
set_option maxRecDepth 100000 in
theorem aw8:joinedFacts prog 4 f4 Rows.systemMassSpec Rows.systemMassRow=true:=axH (axH (axH (axH (axH (axH (axH (axH (axH (axH (axH (axH (axH (axH (axH (axH (axH (axH (axH (axH (axH (axH (axH (axH (axH (axH (axH (axH (axH (axH (axH axa axb) axm) axx) axA) axB) axC) axD) axE) axF) axc) axd) axe) axf) axg) axh) axi) axj) axk) axl) axn) axo) axp) axq) axr) axs) axt) axu) axv) axw) axy) axz
theorem systemMass_holds:Rows.SystemMassSaid:=OpenClaim.holds_of_wide 4 f4 rfl rfl rfl rfl rfl rfl rfl ⟨rfl,rfl,rfl,rfl,rfl⟩ rfl rfl rfl rfl rfl (by kernel_rfl) func4 aw8 (nr (by kernel_rfl)) (by unfold Func.isWrapper;first|(rw[cM (by decide+kernel)];kernel_rfl)|(rw[cJ (by decide+kernel)];exact⟨rfl,rfl⟩)) (λb a c enc _=>axG b a c enc)
end Go.Proofs.YtdlpoonfcdoiiaaGreat
