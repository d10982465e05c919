/- The law SystemReported returns true whatever comes in, and leaves what came in as it was: the given statement SystemReportedSaid. It has no conditions. -/
import Derived.Test.YtdlpoonfcdoiiaaGreatMB17
import Derived.Test.YtdlpoonfcdoiiaaGreatMB18
import Derived.Test.YtdlpoonfcdoiiaaGreatRows
namespace Go.Proofs.YtdlpoonfcdoiiaaGreat
open Go.RowKit Go.Proofs.Tryz
set_option maxHeartbeats 40000000
set_option linter.all false
def jL.law {d:PC}{h:dg}{c:C jg}{a:C gH}{g:gP}(f:jL d h c a g){b:jg}(e:b∈c):wx d b (wt (Go.Proofs.YtdlpoonfcdoiiaaGreat.seen d a b.eP)) (eA (Go.Proofs.YtdlpoonfcdoiiaaGreat.seen d a b.eP)):=by rw[f.seen];exact(f.rep.ok b e).2.2
def jL.od {d:PC}{f:dg}{b:C jg}{a:C gH}{c:gP}(e:jL d f b a c):(b.map jg.eP).Pairwise (·<·):=e.rep.od
def jL.each {b:PC}{l:dg}{d:C jg}{a:C gH}{j:gP}(k:jL b l d a j){e:gH}(i:e∈a)(h:b.gx e.time<b.low l.wm):∃o∈d,o.eP=b.gx e.time:=by
 have f:e.ev b∈j.map Prod.snd:=by rw[k.it];exact gu i
 obtain⟨m,g,n⟩:=dz.1 f;have c:m.2.1=b.gx e.time:=by rw[n];rfl
 rw[<-c];exact k.rep.each m g (by rw[c];exact h)
def jL.cap {c:PC}{g:dg}{b:C jg}{a:C gH}{f:gP}(d:jL c g b a f)(e:Nat):eA (Go.Proofs.YtdlpoonfcdoiiaaGreat.seen c a e)<=9223372036854775808:=by rw[d.seen];exact d.inv.cap e
def Td (c:PC)(a:C gH)(b:gH)(e:Nat):seen c (a++[b]) e=seen c a e++if c.gx b.time=e then[(b.key,b.weight)]else[]:=by
 unfold seen ez;rw[dE,qT,dE];congr 1;by_cases d:c.gx b.time=e
 .rw[cM d];simp[gH.ev,d]
 .rw[cJ d];simp[gH.ev,d]
def Vn (b:kO)(a:U×Nat):eA (b++[a])=eA b+a.2:=by unfold eA;rw[dE,mV];simp
def att (a b:kO):eA (a++b)=eA a+eA b:=by unfold eA;rw[dE,mV]
def ai6 (a:PC)(c d:C gH)(b:Nat):seen a (c++d) b=seen a c b++seen a d b:=by unfold seen ez;rw[dE,qT,dE]
def Tc (b:PC)(a:C gH)(d c:Nat):eA (seen b (a.take d) c)<=eA (seen b a c):=by
 have e:seen b a c=seen b (a.take d) c++seen b (a.drop d) c:=by rw[<-ai6,gJ]
 rw[e,att];omega
section
variable{a:PC}{b:O}
def Hn {g h iv s r:M}{c:C gH}(W:Nat)(D:a.Ok)(j:Rd b cW 3 iv c.length (c.flatMap fH))(E:∀i∈c,i.time<=2000)(hl:c.length<=1000)(hs:eA (seen a c W)<=9223372036854775808):Sn 12 [PE [iv,s,r],gV a g h,F W] b λu t=>u=J (eA (seen a c W):Int)/\t=[]:=by
 obtain⟨q,l,rfl,-⟩:=id j;refine enter (g:=29) func12 rfl rfl [(0,PE [.slice q c.length l,s,r]),(1,.agg (cP a g h).toArray),(2,_)] rfl ⟨rfl,rfl,rfl,trivial⟩ hS ?_;refine Mf (f:=[.slice q c.length l,s,r]) λz S=>?_;refine dK (l:=cP a g h) λe T=>?_;refine N [2,3,4] ?_;refine N [2,3,4,7] ?_;refine N [2,4,7,11,12,13] ?_;refine Y ?_;refine cK [0] ?_;refine dB (λQ L t R=>∃f:Nat,L=[(2,F W),(4,Z e),(7,J (eA (seen a (c.take f) W):Int)),(11,.slice q c.length l),(12,F c.length),(13,F f)]/\t=[cF e (cP a g h) 27]/\Q+f=c.length) c.length ⟨0,rfl,rfl,rfl⟩ ?_;rintro Q _ _ w1 ⟨f,rfl,rfl,hq⟩;refine cZ (λv=>?_) λv=>?_
 .obtain⟨i,p⟩:∃i,c[f]? =some i:=⟨_,dr (by omega)⟩;obtain⟨H,K,rfl,x,y⟩:=j.at_ (i:=f) (by omega);have ad:=E i (eH p);have B:c.take (f+1)=c.take f++[i]:=by rw[ia,p];rfl
  have d:=Td a (c.take f) i W;rw[<-B]at d;have m:=Tc a c (f+1) W;refine cC ?_;refine eS (λL t R=>L=[(2,F W),(4,Z e),(7,J (eA (seen a (c.take (f+1)) W):Int)),(11,.slice (some ⟨H,K,.none⟩) c.length l),(12,F c.length),(13,F f)]/\t=[cF e (cP a g h) 27]) ?_ ?_
  .refine cQ ?_;refine I (cR (ab:=f)) ?_;refine I (kY (b:=fH i) (hc:=λk u G=>by rw[ma];exact y _ _ (qC Cp p G)) (hF:=x)) ?_;refine dj [vE,F 0,J 0] λA X=>?_;refine cO 0 (u:=fH i) (H:=fH i) (h1:=by simp[fH,Value.oneCell']) λP=>?_;refine K3 1 (f:=cP a g h) ?_;refine cC ?_;refine dd func20 (λb hh=>Dv D g h i.time b (by omega)) ?_;rintro _ _ ab ⟨rfl,rfl⟩;refine cZ (λw=>?_) λw=>?_
   .have o:a.gx i.time=W:=by omega
    rw[cM o]at d;rw[d,Vn]at m;refine cL ?_;refine I (cU (z:=J ((eA (seen a (c.take f) W)+i.weight:Nat):Int)) (og rfl rfl (by dsimp only at m;omega)) (by rw[gR])) ?_;refine Y ?_;refine fu [1] ?_;refine cH [2,4,7,11,12,13] ?_;exact⟨by rw[d,Vn],rfl⟩
   .have o:a.gx i.time≠W:=by omega
    rw[cJ o,eN]at d;refine cK [1] ?_;refine kw [2,4,7,11,12,13] rfl (iY ?_);exact⟨by rw[d],rfl⟩
  .rintro _ _ w4 ⟨rfl,rfl⟩;refine N [2,4,7,11,12,13] ?_;exact⟨Q-1,by omega,f+1,rfl,rfl,by omega⟩
 .refine dI ?_;refine N [6] ?_;refine gT results12 ?_;have j:f=c.length:=by omega
  rw[j,j6];exact⟨rfl,rfl⟩
end
def nU (a:C RV):C Nat:=a.map λb=>b.R.eP
def Vh {e:PC}{f:jf}{a:C RV}{d:gP}(b:xw e f a d):(nU a).Pairwise (·<·):=by have c:=b.o.od;rw[<-b.r,jj]at c;exact c
def atb {n:PC}{p:jf}{a:C RV}{m:gP}(f:xw n p a m){i j:Nat}{k l:RV}(g:a[i]? =some k)(h:a[j]? =some l)(c:i<j):k.R.eP<l.R.eP:=by have o:=r3.1 (Vh f);obtain⟨d,rfl⟩:=da.1 g;obtain⟨e,rfl⟩:=da.1 h;have b:=o i j (by unfold nU;rw[dL];exact d) (by unfold nU;rw[dL];exact e) c;unfold nU at b;rw[wb,wb]at b;exact b
def atc {f:PC}{j:jf}{b:C RV}{k:gP}(a:xw f j b k){c:gH}(e:c∈j.cS):(nU b).count (f.gx c.time)=1:=by
 have h:(nU b).Nodup:=(Vh a).imp λr=>by omega
 have m:=a.lo;have n:=a.t c e;have p:f.gx c.time<=c.time:=C9 ..;obtain⟨s,d,l⟩:=a.o.each e (by omega);rw[<-a.r]at d;obtain⟨q,i,rfl⟩:=dz.1 d;have g:f.gx c.time∈nU b:=dz.2 ⟨q,i,l⟩;rw[h.count,cM g]
set_option maxRecDepth 2000 in
def akx (A1 A2 A3:cG Addr)(n1 n2 n3:Nat)(ak al af:C Int)(ad:O)(aN:Rd ad cW 1 (.slice A1 ak.length n1) ak.length (iv ak))(aO:ak.length<=140737488355328)(aB:Rd ad cW 1 (.slice A2 al.length n2) al.length (iv al))(aC:al.length<=140737488355328)(av:Rd ad cW 1 (.slice A3 af.length n3) af.length (iv af))(aw:af.length<=140737488355328):Sn 7 [.slice A1 ak.length n1,.slice A2 al.length n2,.slice A3 af.length n3] ad λr _=>r=.bool true:=by
 refine hJ func7 hS ?_;refine Ku func8 (λad f=>xa A1 _ n1 ad) ?_;rintro _ _ w1 ⟨b1,rfl,rfl⟩;refine cY ((du b1 (.slice A1 ak.length n1) 0)) [] func9 (cD _) (λad f aP=>BB b1 _ ak 0 ad ⟨aN.fg f (b:=[]) (cD _),aO,gK _⟩ aP) ?_;rintro _ _ w2 ⟨L,S,x,D,p1,rfl,X,ar,⟨A,n,cp,rfl⟩,⟨AT,cT,rfl⟩,rfl,-,-⟩;unfold vd;obtain⟨x,aA⟩:∃x:M,x=.slice A n cp:=⟨_,rfl⟩;obtain⟨D,aD⟩:∃D:M,D=.slice AT 16 cT:=⟨_,rfl⟩;have aI:∀u∈cP L x D,u.oneCell'=true:=by rw[aA,aD];simp[cP,Value.oneCell']
 rw[<-aA,<-aD];refine dj [F 0,F 0,F 0,F 0,F 0,F 0,F 0,F 0,F 0,J 0,F 0,F 0,F 0,F 0,vN,vN,J 0] λj a0=>?_;refine cO 0 (u:=cP L x D) (H:=cP L x D) (h1:=aI) λa1=>?_;refine cH [1,2,7] ?_;refine Y ?_;refine eS (λm H w'=>∃(G:Nat)(p:jf)(c:C RV)(s:cG Addr)(h:Nat)(w:cG Addr)(g:Nat)(z:cG Addr)(B:Nat)(ae:gP),m=[(7,Z j),(8,Z G),(10,.bool true)]/\H=[cF G [.slice s p.cS.length h,.slice w c.length g,.slice z 7 B] 34,row (.slice s p.cS.length h) 57 3 p.cS.length (p.cS.flatMap fH),row (.slice w c.length g) 45 7 c.length (c.flatMap fm),cz (c.flatMap jw),cF j (cP L x D) 27]/\xw L p c ae) ?_ ?_
 .refine xr (.fl 0 (.fl 1 (.fl 2 (.fl 4 (.two 3 (.two 5 (.fl 6 (.fl 7 (.fl 8 (.fl 9 (.ef 10 (.ef 11 (.fl 12 (.fl 13 .done)))))))) 10 (.ef 5 (.fl 6 (.fl 7 (.fl 8 (.fl 9 (.ef 11 (.fl 12 (.fl 13 .done))))))))) 10 (.ef 3 (.ef 5 (.fl 6 (.fl 7 (.fl 8 (.fl 9 (.ef 11 (.fl 12 (.fl 13 .done)))))))))))))) ([_,_,_,_]) ([]) lN (by kernel_rfl) (by kernel_rfl) rfl (ik _) (λbg=>?_);refine nW rfl (di 0 (b:=cP L x D)) ?_;refine nW rfl (di 0 (b:=cP L x D)) ?_;refine cC ?_;refine rV ?_ ?_
  .refine fF rfl (eB func11 (λad f=>xq A2 n2 al _ _ X (aB.dx f) aC)) ?_;rintro _ _ w3 ⟨_,rfl,fv,kv,pv,Fs,Ts,Ps,rfl,rfl,y⟩;unfold vH;refine⟨_,de [5,5,5,5] _ rfl,?_⟩;refine rV ?_ ?_
   .refine fF rfl (eB func10 (λad f=>rH (r:=af) X ar (Rd.dM f (l:=1) rfl) (Rd.dM f (l:=2) rfl) (by first|exact l0 f (E:=4) (G:=5) (H:=6) (K:=7) (L:=8) rfl rfl rfl rfl rfl y|exact l0 f (E:=5) (G:=6) (H:=7) (K:=8) (L:=9) rfl rfl rfl rfl rfl y) y (av.dx f) aw)) ?_;rintro _ _ w4 ⟨_,rfl,p,c,s,h,w,g,z,B,pz,rfl,rfl,ag,P,ah,aE,ai⟩;unfold pk;refine⟨_,de [4,4,4,4] _ rfl,?_⟩;refine cL ?_;refine fY (fF rfl (mP [vN,vN,vN]) ?_);rintro _ _ ap ⟨am,rfl,rfl⟩;refine⟨_,eg.symm,?_⟩;refine fY (lK rfl (gD 4 (y:=[.slice s p.cS.length h,.slice w c.length g,.slice z 7 B])) ?_);rintro _ _ aq rfl;refine⟨_,cD _,?_⟩;refine cC ?_;refine oy [7,8,10] [4,4,4,4,0] ?_;obtain⟨ae,E⟩:=sD X y ag P ah ai;exact⟨_,p,c,s,h,w,g,z,B,ae,rfl,rfl,E⟩
   .refine fF rfl (mP [vN,vN,vN]) ?_;rintro _ _ ap ⟨am,rfl,rfl⟩;refine⟨_,eg.symm,?_⟩;refine fY (fF rfl (eB func10 (λad f=>rH (r:=af) X ar (Rd.dM f (l:=1) rfl) (Rd.dM f (l:=2) rfl) (by first|exact l0 f (E:=4) (G:=5) (H:=6) (K:=7) (L:=8) rfl rfl rfl rfl rfl y|exact l0 f (E:=5) (G:=6) (H:=7) (K:=8) (L:=9) rfl rfl rfl rfl rfl y) y (av.dx f) aw)) ?_);rintro _ _ w4 ⟨_,rfl,p,c,s,h,w,g,z,B,pz,rfl,rfl,ag,P,ah,aE,ai⟩;unfold pk;refine⟨_,de [4,4,4,4] _ rfl,?_⟩;refine cL ?_;refine fY (lK rfl (gD 8 (y:=[.slice s p.cS.length h,.slice w c.length g,.slice z 7 B])) ?_);rintro _ _ aq rfl;refine⟨_,cD _,?_⟩;refine cC ?_;refine oy [7,8,10] [8,4,4,4,0] ?_;obtain⟨ae,E⟩:=sD X y ag P ah ai;exact⟨_,p,c,s,h,w,g,z,B,ae,rfl,rfl,E⟩
  .refine fF rfl (mP [vN,vN,vN]) ?_;rintro _ _ ap ⟨am,rfl,rfl⟩;refine⟨_,eg.symm,?_⟩;refine fY (fF rfl (eB func11 (λad f=>xq A2 n2 al _ _ X (aB.dx f) aC)) ?_);rintro _ _ w3 ⟨_,rfl,fv,kv,pv,Fs,Ts,Ps,rfl,rfl,y⟩;unfold vH;refine⟨_,de [5,5,5,5] _ rfl,?_⟩;refine fY (fF rfl (eB func10 (λad f=>rH (r:=af) X ar (Rd.dM f (l:=1) rfl) (Rd.dM f (l:=2) rfl) (by first|exact l0 f (E:=4) (G:=5) (H:=6) (K:=7) (L:=8) rfl rfl rfl rfl rfl y|exact l0 f (E:=5) (G:=6) (H:=7) (K:=8) (L:=9) rfl rfl rfl rfl rfl y) y (av.dx f) aw)) ?_);rintro _ _ w4 ⟨_,rfl,p,c,s,h,w,g,z,B,pz,rfl,rfl,ag,P,ah,aE,ai⟩;unfold pk;refine⟨_,de [4,4,4,4] _ rfl,?_⟩;refine cL ?_;refine fY (lK rfl (gD 13 (y:=[.slice s p.cS.length h,.slice w c.length g,.slice z 7 B])) ?_);rintro _ _ aq rfl;refine⟨_,cD _,?_⟩;refine cC ?_;refine oy [7,8,10] [13,4,4,4,0] ?_;obtain⟨ae,E⟩:=sD X y ag P ah ai;exact⟨_,p,c,s,h,w,g,z,B,ae,rfl,rfl,E⟩
 rintro _ _ w5 ⟨G,p,c,s,h,w,g,z,B,ae,rfl,rfl,E⟩;have a5:=E.rl;have a4:=E.il;refine N [7,8,32] ?_;refine eL ?_;refine I (dH 0 (n:=.slice w c.length g)) ?_;refine K4 [7,8,34,35,36] ?_;refine dB (λq m H w'=>∃i:Nat,m=[(7,Z j),(8,Z G),(34,.slice w c.length g),(35,F c.length),(36,F i)]/\H=[cF G [.slice s p.cS.length h,.slice w c.length g,.slice z 7 B] 34,row (.slice s p.cS.length h) 57 3 p.cS.length (p.cS.flatMap fH),row (.slice w c.length g) 45 7 c.length (c.flatMap fm),cz (c.flatMap jw),cF j (cP L x D) 27]/\q+i=c.length) c.length ⟨0,rfl,rfl,rfl⟩ ?_;rintro q _ _ w5 ⟨i,rfl,rfl,hq⟩;refine cZ (λaJ=>?_) λaJ=>?_
 .obtain⟨K,hx⟩:∃K,c[i]? =some K:=⟨_,dr (by omega)⟩;have ao:K.R∈p.rs:=by rw[<-E.r];exact gu (eH hx)
  have aY:=E.o.law ao;have bc:=E.b _ ao;have a7:=(E.rp _ ao).1;have au:=E.o.cap K.R.eP;refine eQ λf=>?_;obtain⟨T,cr,e⟩:=fs f (q:=2) rfl;injection e with e1 _ e3;subst e1;subst e3;clear f;have a9:=E.o.pos ao;refine eL ?_;refine I (cR (ab:=i)) ?_;refine I (je 2 (b:=fm K) (hv:=by rw[dU];exact oQ yB hx)) ?_;refine dj [F 0,J 0,vN,J 0,F 0,J 0,vN] λaH a2=>?_;refine KW 0 (t:=fm K) (G:=fm K) (h1:=by simp[fm,iD,Value.oneCell']) λa3=>?_;refine cH [7,8,11,12,34,35,36] ?_;refine Y ?_;refine eS (λm H w'=>m=[(7,Z j),(8,Z G),(34,vS T c.length g),(35,F c.length),(36,F i),(62,.bool false)]/\H=[cF aH (fm K) 45,cF G [.slice s p.cS.length h,vS T c.length g,.slice z 7 B] 34,row (.slice s p.cS.length h) 57 3 p.cS.length (p.cS.flatMap fH),row (vS T c.length g) 45 7 c.length (c.flatMap fm),cz (c.flatMap jw),cF j (cP L x D) 27]) ?_ ?_
  .by_cases az:(0:Int)<(i:Int)
   .obtain⟨i',rfl⟩:∃i',i=i'+1:=⟨i-1,by omega⟩;obtain⟨x',aF⟩:∃K,c[i']? =some K:=⟨_,dr (by omega)⟩;have a8:=atb E aF hx (by omega);refine eO 22 [19] [_,_,_,_,_,_] [] (ik _) λaQ=>?_;refine Y ?_;refine cN rfl (gA rfl rfl) ?_;refine cN rfl (cU (rh rfl) (dq Value.bool (gb az))) ?_;refine Y ?_;refine fX rfl rfl rfl (dH 0 (n:=F K.R.eP)) ?_;refine Y ?_;refine fX rfl rfl rfl (dH 1 (n:=vS T c.length g)) ?_;refine cC ?_;refine fX rfl rfl rfl (cR (ab:=i') (hi:=by omega)) ?_;refine Y ?_;refine fX rfl rfl rfl (gj 3 (n:=F x'.R.eP) (hv:=by rw[dU];exact qC yB aF rfl)) ?_;refine fX rfl rfl rfl (FZ rfl rfl (by omega)) ?_;refine cC ?_;refine fX rfl rfl rfl (di 1 (b:=[.slice s p.cS.length h,vS T c.length g,.slice z 7 B])) ?_;refine fX rfl rfl rfl (di 5 (b:=cP L x D)) ?_;refine Y ?_;refine fX rfl rfl rfl (dH 0 (n:=F K.R.eP)) ?_;refine Og rfl rfl rfl (eB func12 (λad f=>Hn (g:=x) (h:=D) (s:=vS T c.length g) (r:=.slice z 7 B) K.R.eP X (Rd.dM f (l:=2) rfl) E.t (by omega) au)) ?_;rintro _ _ ay ⟨_,rfl,rfl,rfl⟩;refine⟨_,jQ _ _ _,?_⟩;refine fX rfl rfl rfl (cU (z:=.bool false) (e9 rfl rfl) (dq Value.bool (fL (by omega)))) ?_;refine cN rfl (mC rfl rfl rfl) ?_;refine iK [7,8,34,35,36,62] ?_;exact⟨rfl,rfl⟩
   .refine eO 22 [19] [_,_,_,_,_,_] [] (ik _) λaQ=>?_;refine Y ?_;refine cN rfl (gA rfl rfl) ?_;refine cN rfl (cU (rh rfl) (dq Value.bool (fL az))) ?_;refine fh ?_;refine cQ ?_;refine fX rfl rfl rfl (di 1 (b:=[.slice s p.cS.length h,vS T c.length g,.slice z 7 B])) ?_;refine fX rfl rfl rfl (di 5 (b:=cP L x D)) ?_;refine Y ?_;refine fX rfl rfl rfl (dH 0 (n:=F K.R.eP)) ?_;refine Og rfl rfl rfl (eB func12 (λad f=>Hn (g:=x) (h:=D) (s:=vS T c.length g) (r:=.slice z 7 B) K.R.eP X (Rd.dM f (l:=2) rfl) E.t (by omega) au)) ?_;rintro _ _ ay ⟨_,rfl,rfl,rfl⟩;refine⟨_,jQ _ _ _,?_⟩;refine fX rfl rfl rfl (cU (z:=.bool false) (e9 rfl rfl) (dq Value.bool (fL (by omega)))) ?_;refine cN rfl (mC rfl rfl rfl) ?_;refine iK [7,8,34,35,36,62] ?_;exact⟨rfl,rfl⟩
  rintro _ _ w8 ⟨rfl,rfl⟩;refine cC ?_;refine cK [1,1,1,1,1] ?_;refine N [7,8,34,35,36] ?_;exact⟨q-1,by omega,i+1,rfl,rfl,by omega⟩
 .refine dI ?_;refine cL ?_;refine I (dH 0 (n:=.slice s p.cS.length h)) ?_;refine K4 [7,8,65,66,67] ?_;refine dB (λq m H w'=>∃k:Nat,m=[(7,Z j),(8,Z G),(65,.slice s p.cS.length h),(66,F p.cS.length),(67,F k)]/\H=[cF G [.slice s p.cS.length h,.slice w c.length g,.slice z 7 B] 34,row (.slice s p.cS.length h) 57 3 p.cS.length (p.cS.flatMap fH),row (.slice w c.length g) 45 7 c.length (c.flatMap fm),cz (c.flatMap jw),cF j (cP L x D) 27]/\q+k=p.cS.length) p.cS.length ⟨0,rfl,rfl,rfl⟩ ?_;rintro q2 _ _ w9 ⟨k,rfl,rfl,ba⟩;refine cZ (λaK=>?_) λaK=>?_
  .obtain⟨ab,hy⟩:∃ab,p.cS[k]? =some ab:=⟨_,dr (by omega)⟩;have aG:=eH hy;have ax:=atc E aG;have bd:=E.t ab aG;refine eQ λf=>?_;obtain⟨gi,ci,e⟩:=fs f (q:=1) rfl;injection e with e1 _ e3;subst e1;subst e3;clear f;refine df ?_;refine I (cR (ab:=k)) ?_;refine I (je 1 (b:=fH ab) (hv:=by rw[dU];exact oQ Cp hy)) ?_;refine dj [vE,F 0,J 0] λW aS=>?_;refine cO 0 (u:=fH ab) (H:=fH ab) (h1:=by simp[fH,Value.oneCell']) λaT=>?_;refine cH [7,8,14,65,66,67] ?_;refine N [7,8,14,15,65,66,67] ?_;refine cL ?_;refine I (dH 1 (n:=.slice w c.length g)) ?_;refine K4 [7,8,14,15,65,66,67,72,73,74] ?_;refine dB (λq m H w'=>∃aj:Nat,m=[(7,Z j),(8,Z G),(14,Z W),(15,F (((nU c).take aj).count (L.gx ab.time):Int)),(65,vS gi p.cS.length h),(66,F p.cS.length),(67,F k),(72,.slice w c.length g),(73,F c.length),(74,F aj)]/\H=[cF W (fH ab) 57,cF G [vS gi p.cS.length h,.slice w c.length g,.slice z 7 B] 34,row (vS gi p.cS.length h) 57 3 p.cS.length (p.cS.flatMap fH),row (.slice w c.length g) 45 7 c.length (c.flatMap fm),cz (c.flatMap jw),cF j (cP L x D) 27]/\q+aj=c.length) c.length ⟨0,rfl,rfl,rfl⟩ ?_;rintro q3 _ _ be ⟨aj,rfl,rfl,bb⟩;refine cZ (λaL=>?_) λaL=>?_
   .obtain⟨K,hx⟩:∃K,c[aj]? =some K:=⟨_,dr (by omega)⟩;have an:((nU c).take (aj+1)).count (L.gx ab.time)=((nU c).take aj).count (L.gx ab.time)+if K.R.eP=L.gx ab.time then 1 else 0:=by
     have e:(nU c)[aj]? =some K.R.eP:=by unfold nU;rw[eK,hx];rfl
     rw[ia,e,I9];congr 1;show List.count _ [K.R.eP]=_;rw[List.count_singleton];simp only[uT]
    have a6:((nU c).take aj).count (L.gx ab.time)<=100:=by have h1:=Fe (a:=L.gx ab.time) (l:=(nU c).take aj);rw[eD]at h1;omega
    refine eQ λf=>?_;obtain⟨T,cr,e⟩:=fs f (q:=3) rfl;injection e with e1 _ e3;subst e1;subst e3;clear f;refine cC ?_;refine eS (λm H w'=>m=[(7,Z j),(8,Z G),(14,Z W),(15,F (((nU c).take (aj+1)).count (L.gx ab.time):Int)),(65,vS gi p.cS.length h),(66,F p.cS.length),(67,F k),(72,vS T c.length g),(73,F c.length),(74,F aj)]/\H=[cF W (fH ab) 57,cF G [vS gi p.cS.length h,vS T c.length g,.slice z 7 B] 34,row (vS gi p.cS.length h) 57 3 p.cS.length (p.cS.flatMap fH),row (vS T c.length g) 45 7 c.length (c.flatMap fm),cz (c.flatMap jw),cF j (cP L x D) 27]) ?_ ?_
    .refine cQ ?_;refine I (cR (ab:=aj)) ?_;refine I (je 3 (b:=fm K) (hv:=by rw[dU];exact oQ yB hx)) ?_;refine dj [F 0,J 0,vN,J 0,F 0,J 0,vN] λaR aU=>?_;refine cO 0 (u:=fm K) (H:=fm K) (h1:=by simp[fm,iD,Value.oneCell']) λaV=>?_;refine cH [7,8,14,15,17,65,66,67,72,73,74] ?_;refine Y ?_;refine eO 7 [5] [_,_,_,_,_,_,_] [] (ik _) λaZ=>?_;refine Y ?_;refine cN rfl (dH 0 (n:=F K.R.eP)) ?_;refine cN rfl (di 6 (b:=cP L x D)) ?_;refine Y ?_;refine cN rfl (dH 1 (n:=F ab.time)) ?_;refine eh rfl (eB func20 (λad f=>Dv X x D ab.time ad (by omega))) ?_;rintro _ _ aW ⟨_,rfl,rfl,rfl⟩;refine⟨_,jQ _ _ _,?_⟩;refine cZ (λaM=>?_) λaM=>?_
     .have hw:K.R.eP=L.gx ab.time:=by omega
      rw[cM hw]at an;refine cK [1,1,1,1,1,1] ?_;refine cC ?_;refine I (cU (z:=F ((((nU c).take aj).count (L.gx ab.time)+1:Nat):Int)) (kH rfl rfl) (by rw[gR];rfl)) ?_;refine N [7,8,14,15,65,66,67,72,73,74] ?_;exact⟨by rw[an],rfl⟩
     .have hw:K.R.eP≠L.gx ab.time:=by omega
      rw[cJ hw]at an;refine cK [1,1,1,1,1,1] ?_;refine kw [7,8,14,15,65,66,67,72,73,74] rfl (iY ?_);exact⟨by rw[an];rfl,rfl⟩
    .rintro _ _ bf ⟨rfl,rfl⟩;refine N [7,8,14,15,65,66,67,72,73,74] ?_;exact⟨q3-1,by omega,aj+1,rfl,rfl,by omega⟩
   .have hj:aj=c.length:=by omega
    have e1:(nU c).take aj=nU c:=by rw[hj,show c.length=(nU c).length by unfold nU;rw[dL],j6]
    rw[e1,ax];refine dI ?_;refine N [7,8,65,66,67,89] ?_;refine cC ?_;refine cK [1,1,1,1,1] ?_;refine N [7,8,65,66,67] ?_;exact⟨q2-1,by omega,k+1,rfl,rfl,by omega⟩
  .refine dI ?_;refine Ku func14 (λad f=>Bw ad) ?_;rintro _ _ aX ⟨rfl,rfl⟩;refine N [6] ?_;refine gT results7 ?_;rfl
open Go.RowKit Go.WideShapes Go.ChangeShapes
set_option maxRecDepth 100000 in
theorem ayg (g:Os)(b:g.Started)(x:Type)(enc:dk×M->x):ReturnsInHanded {} checked g 7 .any (Rows.systemReportedSpec.pre6 enc prog f7 Rows.systemReportedRow.domain false) (Rows.systemReportedSpec.post enc prog f7 false true false false):=by
 refine Eb (f:=checked) (tb:=4) Tryz.own b (by kernel_rfl) func7 (ChangeSpec.witness6 (enc:=enc) (C:=checked) false ⟨#[],#[.slice none 0 0,.slice none 0 0,.slice none 0 0],[]⟩ 8 (by kernel_rfl) (by kernel_rfl) (by kernel_rfl) (by kernel_rfl)) rfl (λc s=>?_) Tryz.laidOut (by kernel_rfl) (by kernel_rfl) underlying4 (λW args t=>?_)
 .have:c.length=3:=s.trans (by kernel_rfl)
  match c,this with
  |[_,_,_],_=>rfl
 .have a:sU enc prog W f7.params.toList args:=t;rw[params7]at a;clear t;obtain⟨y,_,rfl,h0,a⟩:=pt a;obtain⟨z,_,rfl,q,a⟩:=pt a;obtain⟨A,_,rfl,r,a⟩:=pt a;obtain rfl:=Ep a;obtain⟨h,n,k,rfl,d,u,_⟩:=pr h0;obtain⟨i,o,l,rfl,e,v,_⟩:=pr q;obtain⟨j,p,m,rfl,f,w,_⟩:=pr r;exact akx h i j n o p k l m W d (by omega) e (by omega) f (by omega)
theorem ayh {a b:Bool}(c:a=true)(d:b=true):(a&&b)=true:=by rw[c,d];rfl
theorem axK:(Rows.systemReportedRow.wf (OpenSpec.ofChange Rows.systemReportedSpec))=true:=by kernel_rfl
theorem axL:(laidOutB prog)=true:=by kernel_rfl
theorem axW:(mapsRowed prog)=true:=by kernel_rfl
theorem ax7:(f7.params.all (prog.readableRec ·))=true:=by kernel_rfl
theorem aya:(namedTie prog Rows.systemReportedRow.named Rows.systemReportedSpec.vars)=true:=by kernel_rfl
theorem ayb:((Rows.systemReportedRow.stops==[]))=true:=by kernel_rfl
theorem ayc:((prog.stops==[]))=true:=by kernel_rfl
theorem ayd:((Rows.systemReportedRow.knobs==[]))=true:=by kernel_rfl
theorem aye:((prog.stopKnobs==[]))=true:=by kernel_rfl
theorem ayf:((Rows.systemReportedRow.inPlace==prog.inPlace 7))=true:=by kernel_rfl
theorem axM:((Rows.systemReportedRow.unfollowed==prog.unfollowed 7))=true:=by kernel_rfl
theorem axN:((Rows.systemReportedRow.recurses==prog.recurses 7))=true:=by kernel_rfl
theorem axO:((Rows.systemReportedRow.named==prog.varsNamed 7))=true:=by kernel_rfl
theorem axP:((Rows.systemReportedRow.maps==(f7.params.toList++Rows.systemReportedSpec.plain.varTypes prog).any (prog.mapsRec ·)))=true:=by kernel_rfl
theorem axQ:((Rows.systemReportedRow.ifaces==(f7.params.toList++Rows.systemReportedSpec.plain.varTypes prog).any (prog.ifacesRec ·)))=true:=by kernel_rfl
theorem axR:((Rows.systemReportedRow.mapsOut==prog.mapsAmong f7.resultTypes.toList))=true:=by kernel_rfl
theorem axS:((Rows.systemReportedRow.loops==(f7.params.toList++Rows.systemReportedSpec.plain.varTypes prog).any (prog.loopsFrom ·)))=true:=by kernel_rfl
theorem axT:((Rows.systemReportedRow.wideKeys==(f7.params.toList++Rows.systemReportedSpec.plain.varTypes prog++f7.resultTypes.toList).any (prog.wideKeysFrom ·)))=true:=by kernel_rfl
theorem axU:(Rows.systemReportedSpec.vars.all (prog.varReadable ·))=true:=by kernel_rfl
theorem axV:(f7.resultTypes.all (λa=>prog.readableRec a&&decide (a<prog.types.size)))=true:=by kernel_rfl
theorem axX:((Rows.systemReportedRow.ifacesOut==f7.resultTypes.toList.any (prog.ifacesRec ·)))=true:=by kernel_rfl
theorem axY:((Rows.systemReportedRow.loopsOut==f7.resultTypes.toList.any (prog.loopsFrom ·)))=true:=by kernel_rfl
theorem axZ:((Rows.systemReportedRow.plainKeys==prog.plainKeys))=true:=by kernel_rfl
theorem ax0:(Rows.systemReportedRow.shortTexts.isNone)=true:=by kernel_rfl
theorem ax1:(prog.stopsHeard)=true:=by kernel_rfl
theorem ax2:(prog.mayEnter)=true:=by kernel_rfl
theorem ax3:((Rows.systemReportedRow.lifted==prog.liftsFinal))=true:=by kernel_rfl
theorem ax4:((prog.make==some Rows.systemReportedRow.make))=true:=by kernel_rfl
theorem ax5:((Rows.systemReportedRow.kinds==(if Rows.systemReportedRow.domain.isEmpty then[]else f7.params.toList.map λb=>match prog.underlying b with|some (.int a)=>some a|_=>none)))=true:=by kernel_rfl
theorem ax6:((Rows.systemReportedRow.pinned==Rows.systemReportedRow.pinnedBy))=true:=by kernel_rfl
theorem ax8:((Rows.systemReportedRow.veiled==(f7.params.toList++Rows.systemReportedSpec.plain.varTypes prog++f7.resultTypes.toList).any (prog.veiledRec ·)))=true:=by kernel_rfl
theorem ax9:(Rows.systemReportedRow.veiledFits prog f7.params.toList (f7.params.toList++Rows.systemReportedSpec.plain.varTypes prog++f7.resultTypes.toList))=true:=by kernel_rfl
set_option maxRecDepth 100000 in
theorem axI:joinedFacts prog 7 f7 Rows.systemReportedSpec Rows.systemReportedRow=true:=ayh (ayh (ayh (ayh (ayh (ayh (ayh (ayh (ayh (ayh (ayh (ayh (ayh (ayh (ayh (ayh (ayh (ayh (ayh (ayh (ayh (ayh (ayh (ayh (ayh (ayh (ayh (ayh (ayh (ayh (ayh axK axL) axW) ax7) aya) ayb) ayc) ayd) aye) ayf) axM) axN) axO) axP) axQ) axR) axS) axT) axU) axV) axX) axY) axZ) ax0) ax1) ax2) ax3) ax4) ax5) ax6) ax8) ax9
theorem systemReported_holds:Rows.SystemReportedSaid:=OpenClaim.holds_of_wide 7 f7 rfl rfl rfl rfl rfl rfl rfl ⟨rfl,rfl,rfl,rfl,rfl⟩ rfl rfl rfl rfl rfl (by kernel_rfl) func7 axI (nr (by kernel_rfl)) (by unfold Func.isWrapper;first|(rw[cM (by decide+kernel)];kernel_rfl)|(rw[cJ (by decide+kernel)];exact⟨rfl,rfl⟩)) (λb a c enc _=>ayg b a c enc)
end Go.Proofs.YtdlpoonfcdoiiaaGreat
