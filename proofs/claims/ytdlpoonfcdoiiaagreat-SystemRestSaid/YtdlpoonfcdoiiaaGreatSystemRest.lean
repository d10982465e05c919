/- The law SystemRest returns true whatever comes in, and leaves what came in as it was: the given statement SystemRestSaid. It has no conditions. -/
import Derived.Test.YtdlpoonfcdoiiaaGreatMB17
import Derived.Test.YtdlpoonfcdoiiaaGreatMB18
import Derived.Test.YtdlpoonfcdoiiaaGreatRows
namespace Go.Proofs.YtdlpoonfcdoiiaaGreat
open Go.RowKit Go.Proofs.Tryz
set_option maxHeartbeats 40000000
set_option linter.all false
section
variable{h:dX}{k:Nat}{g:O}{e:Nat->Prop}{c:dD}{j:C V}{n:O}{f:dk}{i v p:fj}{u l m:M}{a:IntKind}{q r s:Int}
variable{b o:dk}
variable{d t:U}
def P4 {L A:cG fj}{x w:Nat}(E:ev c i=some (.string d))(B:h.underlying b=some .string)
 (Q:match L with|.none=>x=0|some S=>∃a,ev c S=some (.int a (x:Nat)))
 (D:match A with|.none=>w=d.size|some S=>∃a,ev c S=some (.int a (w:Nat))) (H:x<=w) (K:w<=d.size):
 dp h k g e (.slice b i L A .none) f c j (.string (d.extract x w)):=λW T n z h2 y hh=>by
 have X:¬(w:Int)<(x:Int):=by omega
 cases L with
 |none=>
  subst Q;cases A with
  |none=>subst D;simp[execOp,z,y.eval E,Instr.sliceAt,gG B,Instr.slice,Instr.sliceBounds]
  |some S=>obtain⟨a,G⟩:=D;simp[execOp,z,y.eval E,y.eval G,Instr.sliceAt,gG B,Instr.slice,Instr.sliceBounds,Instr.sliceBound,asIntOf,K]
 |some S=>
  obtain⟨a,G⟩:=Q;cases A with
  |none=>subst D;simp[execOp,z,y.eval E,y.eval G,Instr.sliceAt,gG B,Instr.slice,Instr.sliceBounds,Instr.sliceBound,asIntOf,H]
  |some z'=>obtain⟨k',R⟩:=D;simp[execOp,z,y.eval E,y.eval G,y.eval R,Instr.sliceAt,gG B,Instr.slice,Instr.sliceBounds,Instr.sliceBound,asIntOf,H,K]
end
def jL.law {d:PC}{h:dg}{c:C jg}{a:C gH}{g:gP}(f:jL d h c a g){b:jg}(e:b∈c):wx d b (wt (Go.Proofs.YtdlpoonfcdoiiaaGreat.seen d a b.eP)) (eA (Go.Proofs.YtdlpoonfcdoiiaaGreat.seen d a b.eP)):=by rw[f.seen];exact(f.rep.ok b e).2.2
def jL.cap {c:PC}{g:dg}{b:C jg}{a:C gH}{f:gP}(d:jL c g b a f)(e:Nat):eA (Go.Proofs.YtdlpoonfcdoiiaaGreat.seen c a e)<=9223372036854775808:=by rw[d.seen];exact d.inv.cap e
def atC {i:PC}{a:C gH}{k:Nat}{h:U}(j:wt (seen i a k) h≠0):∃g∈a,g.key=h:=by
 refine pI λd=>j ?_;unfold wt;rw[CV.2]
 .rfl
 .intro l b c;unfold seen ez at b;obtain⟨m,e,rfl⟩:=dz.1 b;obtain⟨g,f,rfl⟩:=dz.1 (kE.1 e).1;exact d ⟨g,f,nr c⟩
namespace DF
def PJ (c:U)(a b:Nat):c.extract a b=str (((sb c).drop a).take (b-a)):=by apply ByteArray.ext;apply lS;simp only[ByteArray.data_extract,Array.toList_extract,List.extract_eq_take_drop,str,sb,<-uM,<-uN,jj];rw[k5 (g:=id) (λd _=>by simp)];simp
def QD (c:U)(g:c.size≠0):∃d:UInt8,c.data[0]? =some d/\d.toNat=h0 c:=by
 obtain⟨d,e,a⟩:=S8 c 0 (by omega);refine⟨d,e,?_⟩;unfold h0;cases b:sb c with
 |nil=>rw[b]at a;cases a
 |cons f h=>rw[b]at a;simp at a;simp[a]
def abT (b:U):h0 b<256:=by
 unfold h0;cases a:sb b with
 |nil=>simp
 |cons c d=>exact zW b c (by rw[a];simp)
def Y9 {a:U}(c:a.size=0\/a.size<1+h0 a):lV a=none:=by
 have b:=nS a;unfold lV;unfold h0 at c;cases d:sb a with
 |nil=>rfl
 |cons e f=>rw[d]at b c;simp only[eE]at b;simp only[Ji]at c;simp only;rw[cM (by omega)]
def Za {a:U}(d:¬(a.size=0\/a.size<1+h0 a)):lV a=some (a.extract 1 (1+h0 a),a.extract (1+h0 a) a.size):=by
 have b:=nS a;rw[PJ,PJ];unfold lV;unfold h0 at d|-;cases c:sb a with
 |nil=>rw[c]at b;simp at b;omega
 |cons e f=>rw[c]at b d;simp only[eE]at b;simp only[Ji]at d;simp only[Ji];rw[cJ (by omega),wi 1 e,xz,xz,yX,gS (l:=f.drop e) (by rw[iz];omega),C8]
def J2 {d e f:U}(a:lV d=some (e,f)):f.size+1<=d.size/\e.size<=d.size:=by
 have b:=nS d;unfold lV at a;cases c:sb d with
 |nil=>rw[c]at a;cases a
 |cons h g=>
  rw[c]at b a;simp only at a;split at a
  .cases a
  .simp only[ln,r6]at a;obtain⟨rfl,rfl⟩:=a;simp only[eE]at b;rw[mL,mL,iz,eD];omega
def zt (a:U):U:=((lV a).getD (⟨#[]⟩,⟨#[]⟩)).1
def wJ (a:U):U:=((lV a).getD (⟨#[]⟩,⟨#[]⟩)).2
def OD (b:U)(s:O)(q:b.size<=140737488355328):Sn 33 [.string b] s λr n=>r=.tuple #[.string (zt b),.string (wJ b),.bool (lV b).isSome]/\n=[]:=by
 have p:=abT b;refine dS func33 hS ?_;refine N [0] ?_;refine cL ?_;refine I (oO rfl rfl) ?_;refine Y ?_;refine lj (H:=2) (A:=decide ((b.size:Int)-1<(h0 b:Int))) 7 [(0,_)] ⟨rfl,trivial⟩ rfl rfl rfl rfl rfl (λf=>?_) (λk=>?_)
 .refine cL ?_;obtain⟨o,g,d⟩:=QD b (λh=>by have:=EB h;simp[this]at f);refine dZ rfl rfl (cU (BQ rfl rfl underlying9 rfl g) (by rw[d])) ?_;refine Y ?_;refine dZ rfl rfl (gN rfl rfl) ?_;exact iy
 refine fP (λa=>?_) λa=>?_
 .simp only[jh,fU]at a;have e:=Y9 (a:=b) (a.elim (λh=>.inl (by rw[h];rfl)) (λh=>.inr (by omega)));refine db results33 ?_;exact⟨by rw[zt,wJ,e];rfl,rfl⟩
 .simp only[jh,fU,tM]at a;have i:b.size≠0:=λh=>a.1 (EB h);have e:=Za (a:=b) (by omega);obtain⟨o,g,d⟩:=QD b i;refine cL ?_;refine I (cU (BQ rfl rfl underlying9 rfl g) (by rw[d])) ?_;refine N [0,5] ?_;refine Y ?_;refine kB 9 [] λm=>?_;refine cC ?_;refine cN rfl (P4 (x:=1) (w:=1+h0 b) rfl underlying9 ⟨_,rfl⟩ ⟨_,rfl⟩ (by omega) (by omega)) ?_;refine cC ?_;refine cN rfl (P4 (x:=1+h0 b) (w:=b.size) rfl underlying9 ⟨_,rfl⟩ rfl (by omega) (by omega)) ?_;refine db results33 ?_;exact⟨by rw[zt,wJ,e];rfl,rfl⟩
def ahx {c:Nat}{b:U}(d:b.size≠0)(a:lV b=none):p0 (c+1) b=none:=by rw[p0,cJ d,a]
def ahy {f:Nat}{c e d:U}(g:c.size≠0)(a:lV c=some (e,d))(b:lV d=none):p0 (f+1) c=none:=by rw[p0,cJ g,a];simp only[b]
def Wl (d:fR):Prop:=∀(a:U)(f:O),a.size<=140737488355328->Sn d [.string a] f λe c=>∃b,e=.tuple #[b,F (rP a).2]/\c=[row b 87 2 (rP a).1.length (dW (rP a).1)]
def H8 {a:U}{b:Int}(d:rP a=([],b)):∃c:M,(Value.tuple #[vN,F b])=.tuple #[c,F (rP a).2]/\[row vN 87 2 0 []]=[row c 87 2 (rP a).1.length (dW (rP a).1)]:=by rw[d];exact⟨_,rfl,rfl⟩
def TK {a:U}(h0:¬255<a.size)(b:p0 255 a=none):rP a=([],3):=by rw[rP,cJ h0,b]
def ajV:Wl 15:=by
 intro L u hs;refine dS func15 hS ?_;refine N [0] ?_;refine df ?_;refine I (gA rfl rfl) ?_;refine cZ (λB=>?_) λB=>?_
 .refine gh 87 2 ?_;refine db results15 ?_;exact H8 (by rw[rP,cM (by omega)])
 .refine N [0,4] ?_;refine N [0,4,5] ?_;refine Y ?_;have h:¬255<L.size:=by omega
  refine gh 87 2 ?_;refine dB (λt m H u=>∃(a:U)(S:M)(out:C Tg),m=[(0,.string L),(4,S),(5,.string a)]/\H=[row S 87 2 out.length (dW out)]/\a.size<=t/\p0 255 L=(p0 t a).map (out++·)/\out.length+t<=255/\∀Q∈out,Q.1.size<=255) 255 ⟨L,_,[],rfl,rfl,by omega,by simp,by simp,by simp⟩ ?_;rintro t _ _ w1 ⟨a,S,out,rfl,rfl,ai,b,ah,s⟩;refine cL ?_;refine I (Gv rfl rfl) ?_;refine cZ (λq=>?_) λq=>?_
  .have f:a.size≠0:=λA=>q (EB A);obtain⟨t,rfl⟩:∃k',t=k'+1:=⟨t-1,by omega⟩;refine NV [vE,vE] λae af=>?_;refine cB ?_;refine dd func33 (λu r=>OD a u (by omega)) ?_;rintro _ _ w2 ⟨rfl,rfl⟩;refine KW 0 λag=>?_;refine N [0,4,5,6,7] ?_;refine cQ ?_;refine I (jl rfl rfl) ?_;refine fP (λn=>?_) λn=>?_
   .have k:lV a=none:=by simpa using n
    refine pF [] (iw _) ?_;refine gh 87 2 ?_;refine db results15 ?_;exact H8 (TK h (by rw[b,ahx f k];rfl))
   .obtain⟨⟨ad,y⟩,k⟩:∃z,lV a=some z:=by
     cases A:lV a with
     |none=>rw[A]at n;simp at n
     |some z=>exact⟨z,rfl⟩
    have D:zt a=ad:=by rw[zt,k];rfl
    have E:wJ a=y:=by rw[wJ,k];rfl
    rw[D,E];obtain⟨aj,ak⟩:=J2 k;refine df ?_;refine dd func33 (λu r=>OD y u (by omega)) ?_;rintro _ _ w3 ⟨rfl,rfl⟩;refine KW 0 λW=>?_;refine N [0,4,5,6,7] ?_;refine cQ ?_;refine I (jl rfl rfl) ?_;refine fP (λo=>?_) λo=>?_
    .have d:lV y=none:=by simpa using o
     refine pF [] (iw _) ?_;refine gh 87 2 ?_;refine db results15 ?_;exact H8 (TK h (by rw[b,ahy f k d];rfl))
    .obtain⟨⟨v,K⟩,d⟩:∃z,lV y=some z:=by
      cases A:lV y with
      |none=>rw[A]at o;simp at o
      |some z=>exact⟨z,rfl⟩
     have w:zt y=v:=by rw[zt,d];rfl
     have x:wJ y=K:=by rw[wJ,d];rfl
     rw[w,x];obtain⟨al,am⟩:=J2 d;refine K3 0 (f:=[_,_]) ?_;refine gZ nf λR X=>?_;refine dw (BE nf rfl rfl (λu r=>Rd.dM r (l:=0) rfl) (by simp[Value.oneCell']) (by omega) (by omega)) ?_;rintro T _ P rfl;refine Y ?_;refine sM (sM ?_);refine cH [0,4,5] ?_;refine⟨t,by omega,K,_,out++[(ad,v)],rfl,by rw[sJ,cX];rfl,by omega,?_,by simp;omega,λQ g=>?_⟩
     .rw[b,Sj f k d,Option.map_map];congr 1;funext l;simp
     .rcases dV.1 g with g|g
      .exact s Q g
      .rw[fI]at g;subst g;show ad.size<=255;omega
  .have f:a.size=0:=by rw[AM.1 q];rfl
   rw[Sk f,tK,eN]at b;have p:=TM h b;refine dI ?_;refine cL ?_;refine dd func34 (λu r=>Rf S out u (Rd.dM r (l:=0) rfl) (by omega) (λQ g=>by have:=s Q g;omega)) ?_;rintro _ _ w4 ⟨rfl,rfl⟩;refine N [0,4,8,9] ?_;refine cQ ?_;refine I (jt rfl rfl) ?_;refine Y ?_;refine lj (H:=2) (A:=decide (str (iL out).1≠L)) 3 [(4,_)] ⟨rfl,trivial⟩ rfl rfl rfl rfl rfl (λG=>?_) (λab=>?_)
   .refine cC ?_;refine dZ rfl rfl (Gv rfl rfl) ?_;exact iy
   refine fP (λe=>?_) λe=>?_
   .simp only[jh,fU]at e;rw[cM e]at p;refine pF [] (iw _) ?_;refine gh 87 2 ?_;refine db results15 ?_;exact H8 p
   .simp only[jh,fU]at e;rw[cJ e]at p;refine db results15 ?_;rw[p];exact⟨_,rfl,rfl⟩
end DF
def Td (c:PC)(a:C gH)(b:gH)(e:Nat):seen c (a++[b]) e=seen c a e++if c.gx b.time=e then[(b.key,b.weight)]else[]:=by
 unfold seen ez;rw[dE,qT,dE];congr 1;by_cases d:c.gx b.time=e
 .rw[cM d];simp[gH.ev,d]
 .rw[cJ d];simp[gH.ev,d]
def att (a b:kO):eA (a++b)=eA a+eA b:=by unfold eA;rw[dE,mV]
def ai6 (a:PC)(c d:C gH)(b:Nat):seen a (c++d) b=seen a c b++seen a d b:=by unfold seen ez;rw[dE,qT,dE]
def Tc (b:PC)(a:C gH)(d c:Nat):eA (seen b (a.take d) c)<=eA (seen b a c):=by
 have e:seen b a c=seen b (a.take d) c++seen b (a.drop d) c:=by rw[<-ai6,gJ]
 rw[e,att];omega
def Na (c:kO)(a:U×Nat)(b:U):wt (c++[a]) b=wt c b+if a.1=b then a.2 else 0:=by unfold wt;rw[qT];by_cases d:a.1=b<;>simp[d]
def Vq (b:U):∀a:kO,wt a b<=eA a
 |[]=>dT _
 |d::a=>by
  have:=Vq b a;unfold wt eA at*;by_cases c:d.1=b
  .simp[c]at this|-;omega
  .simp[c]at this|-;omega
section
variable{a:PC}{b:O}
def RZ {h l iv y x:M}{c:C gH}(W:Nat)(d:U)(R:a.Ok)(q:Rd b cW 3 iv c.length (c.flatMap fH))(S:∀f∈c,f.time<=2000)(hl:c.length<=1000)(hs:eA (seen a c W)<=9223372036854775808):Sn 13 [PE [iv,y,x],gV a h l,F W,.string d] b λu s=>u=J (wt (seen a c W) d:Int)/\s=[]:=by
 obtain⟨w,p,rfl,-⟩:=id q;refine enter (g:=37) func13 rfl rfl [(0,PE [.slice w c.length p,y,x]),(1,.agg (cP a h l).toArray),(2,_),(3,_)] rfl ⟨rfl,rfl,rfl,rfl,trivial⟩ hS ?_;refine Mf (f:=[.slice w c.length p,y,x]) λK ab=>?_;refine dK (l:=cP a h l) λe ad=>?_;refine N [2,3,4,5] ?_;refine N [2,3,4,5,9] ?_;refine N [2,3,5,9,13,14,15] ?_;refine Y ?_;refine cK [0] ?_;refine dB (λP G s H=>∃g:Nat,G=[(2,F W),(3,.string d),(5,Z e),(9,J (wt (seen a (c.take g) W) d:Int)),(13,.slice w c.length p),(14,F c.length),(15,F g)]/\s=[cF e (cP a h l) 27]/\P+g=c.length) c.length ⟨0,rfl,rfl,rfl⟩ ?_;rintro P _ _ w1 ⟨g,rfl,rfl,hq⟩;refine cZ (λz=>?_) λz=>?_
 .obtain⟨f,v⟩:∃f,c[g]? =some f:=⟨_,dr (by omega)⟩;obtain⟨D,E,rfl,A,B⟩:=q.at_ (i:=g) (by omega);have ag:=S f (eH v);have L:c.take (g+1)=c.take g++[f]:=by rw[ia,v];rfl
  have j:=Td a (c.take g) f W;rw[<-L]at j;have r:=gF (Vq d _) (Tc a c (g+1) W);refine cC ?_;refine eS (λG s H=>G=[(2,F W),(3,.string d),(5,Z e),(9,J (wt (seen a (c.take (g+1)) W) d:Int)),(13,.slice (some ⟨D,E,.none⟩) c.length p),(14,F c.length),(15,F g)]/\s=[cF e (cP a h l) 27]) ?_ ?_
  .refine cQ ?_;refine I (cR (ab:=g)) ?_;refine I (kY (b:=fH f) (hc:=λk u T=>by rw[ma];exact B _ _ (qC Cp v T)) (hF:=A)) ?_;refine dj [vE,F 0,J 0] λo ae=>?_;refine cO 0 (u:=fH f) (H:=fH f) (h1:=by simp[fH,Value.oneCell']) λaf=>?_;refine cH [2,3,5,9,11,13,14,15] ?_;refine Y ?_;refine eS (λG s H=>G=[(2,F W),(3,.string d),(5,Z e),(9,J (wt (seen a (c.take g) W) d:Int)),(11,Z o),(13,.slice (some ⟨D,E,.none⟩) c.length p),(14,F c.length),(15,F g),(30,.bool (decide (a.gx f.time=W/\f.key=d)))]/\s=[cF o (fH f) 57,cF e (cP a h l) 27]) ?_ (λ_ _ ah Q=>?_)
   .refine K3 1 (f:=cP a h l) ?_;refine cC ?_;refine dd func20 (λb hh=>Dv R h l f.time b (by omega)) ?_;rintro _ _ w5 ⟨rfl,rfl⟩;by_cases m:a.gx f.time=W
    .iterate 8 refine Y ?_
     refine cH [2,3,5,9,11,13,14,15,30] ?_;refine⟨?_,rfl⟩;rw[show decide (a.gx f.time=W/\f.key=d)=decide (f.key=d)from uU.2 ⟨λt=>t.2,λt=>⟨m,t⟩⟩]
    .iterate 8 refine Y ?_
     refine cH [2,3,5,9,11,13,14,15,30] ?_;refine⟨?_,rfl⟩;rw[show decide (a.gx f.time=W/\f.key=d)=false from fL (λt=>m t.1)]
   obtain⟨rfl,rfl⟩:=Q;refine jc rfl (λi=>?_) (λi=>?_)
   .rw[cM i.1]at j;rw[j,Na,cM i.2]at r;refine cL ?_;refine I (cU (z:=J ((wt (seen a (c.take g) W) d+f.weight:Nat):Int)) (og rfl rfl (by dsimp only at r;omega)) (by rw[gR])) ?_;refine Y ?_;refine fu [1] ?_;refine cH [2,3,5,9,13,14,15] ?_;exact⟨by rw[j,Na,cM i.2],rfl⟩
   .have X:wt (seen a (c.take (g+1)) W) d=wt (seen a (c.take g) W) d:=by
     rw[j];by_cases m:a.gx f.time=W
     .rw[cM m,Na,cJ (λt=>i ⟨m,t⟩)];rfl
     .rw[cJ m,eN]
    refine cK [1] ?_;refine kw [2,3,5,9,13,14,15] rfl (iY ?_);exact⟨by rw[X],rfl⟩
  .rintro _ _ w4 ⟨rfl,rfl⟩;refine N [2,3,5,9,13,14,15] ?_;exact⟨P-1,by omega,g+1,rfl,rfl,by omega⟩
 .refine dI ?_;refine N [8] ?_;refine gT results13 ?_;have q:g=c.length:=by omega
  rw[q,j6];exact⟨rfl,rfl⟩
end
section
variable{a:O}
def zL (b:En):(gM b).length=3:=rfl
def BI (b:C En):dn b=b.flatMap gM:=by
 induction b with
 |nil=>rfl
 |cons d b c=>rw[ji,<-c];rfl
end
def zU {b:RV}:∀{a:C RV}{c:Nat},a[c]? =some b->(a.flatMap jw)[c*2]? =some (row (.slice b.La b.R.lines.length b.Lc) 48 3 b.R.lines.length (dn b.R.lines))/\(a.flatMap jw)[c*2+1]? =some (row (.slice b.Ja b.R.pC.length b.Jc) 23 1 b.R.pC.length (dF b.R.pC))
 |[],c,d=>by simp at d
 |g::a,0,d=>by simp only[Jg,ln]at d;subst d;exact⟨rfl,rfl⟩
 |g::a,c+1,d=>by
  simp only[y0]at d;have f:=zU (b:=b) (a:=a) (c:=c) d;have e:(c+1)*2=c*2+1+1:=by omega
  rw[e];exact f
section
variable{l:dX}{m:Nat}{f:O}{b:Nat->Prop}{a:dD}{k:C V}{e g h:dk}{i j:fj}{c d:U}{n:O}
def aaU (o:ev a i=some (.string c))(p:ev a j=some (.string d)):dp l m f b (.binOp .geq g i j h) e a k (.bool (!Op.bytesLess c.data.toList d.data.toList)):=oN o p B0 λn=>by simp[binOp,Op.stringOp,CR]
def aaV (o:eI c d=true)(q:ev a i=some (.string c))(r:ev a j=some (.string d)):dp l m f b (.binOp .geq g i j h) e a k (.bool false):=cU (aaU q r) (by have p:Op.bytesLess c.data.toList d.data.toList=true:=o;rw[p];rfl)
end
def tk (b:C En)(a:U):Bool:=b.any λc=>decide (c.1=a)
def adx {e:C En}{d:U}(g:tk e d=false):d∉cE e:=λb=>by obtain⟨h,c,f⟩:=dz.1 b;have a:=List.any_eq_false.1 g h c;exact a (by simpa using f)
def ajH (a b cap:Nat):(Value.slice (if cap=0 then some ⟨a,0,.none⟩else(some ⟨a,0,.none⟩:cG Addr).map (·.add (0*3))) (b-0) (cap-0))=vS a b cap:=by
 have c:(⟨a,0,.none⟩:Addr).add (0*3)=⟨a,0,.none⟩:=by unfold Addr.add;split<;>simp_all
 rw[tK,c,ite_self];rfl
set_option maxRecDepth 2000 in
def aky (A1 A2 A3:cG Addr)(n1 n2 n3:Nat)(L1 L2 L3:C Int)(w:O)(a1:Rd w cW 1 (.slice A1 L1.length n1) L1.length (iv L1))(a2:L1.length<=140737488355328)(aM:Rd w cW 1 (.slice A2 L2.length n2) L2.length (iv L2))(aN:L2.length<=140737488355328)(aF:Rd w cW 1 (.slice A3 L3.length n3) L3.length (iv L3))(aG:L3.length<=140737488355328):Sn 5 [.slice A1 L1.length n1,.slice A2 L2.length n2,.slice A3 L3.length n3] w λr _=>r=.bool true:=by
 refine hJ func5 hS ?_;refine Ku func8 (λw g=>xa A1 _ n1 w) ?_;rintro _ _ w1 ⟨b1,rfl,rfl⟩;refine cY ((du b1 (.slice A1 L1.length n1) 0)) [] func9 (cD _) (λw g a8=>BB b1 _ L1 0 w ⟨a1.fg g (b:=[]) (cD _),a2,gK _⟩ a8) ?_;rintro _ _ w2 ⟨c,S,P,ab,p1,rfl,hc,aC,⟨A,n,cp,rfl⟩,⟨AT,cT,rfl⟩,rfl,-,-⟩;unfold vd;obtain⟨P,aL⟩:∃P:M,P=.slice A n cp:=⟨_,rfl⟩;obtain⟨ab,aQ⟩:∃ab:M,ab=.slice AT 16 cT:=⟨_,rfl⟩;have aT:∀u∈cP c P ab,u.oneCell'=true:=by rw[aL,aQ];simp[cP,Value.oneCell']
 rw[<-aL,<-aQ];refine dj [F 0,F 0,F 0,F 0,F 0,F 0,F 0,F 0,F 0,J 0,F 0,F 0,F 0,F 0,vN,vN,J 0] λp bp=>?_;refine cO 0 (u:=cP c P ab) (H:=cP c P ab) (h1:=aT) λbq=>?_;refine cH [1,2,7] ?_;refine Y ?_;refine eS (λm H w'=>∃(X:Nat)(y:jf)(f:C RV)(D:cG Addr)(s:Nat)(ae:cG Addr)(j:Nat)(L:cG Addr)(R:Nat)(Ac:gP),m=[(7,Z p),(8,Z X),(10,.bool true)]/\H=[cF X [.slice D y.cS.length s,.slice ae f.length j,.slice L 7 R] 34,row (.slice D y.cS.length s) 57 3 y.cS.length (y.cS.flatMap fH),row (.slice ae f.length j) 45 7 f.length (f.flatMap fm),cz (f.flatMap jw),cF p (cP c P ab) 27]/\xw c y f Ac) ?_ ?_
 .refine xr (.fl 0 (.fl 1 (.fl 2 (.fl 4 (.two 3 (.two 5 (.fl 6 (.fl 7 (.fl 8 (.fl 9 (.ef 10 (.ef 11 (.fl 12 (.fl 13 .done)))))))) 10 (.ef 5 (.fl 6 (.fl 7 (.fl 8 (.fl 9 (.ef 11 (.fl 12 (.fl 13 .done))))))))) 10 (.ef 3 (.ef 5 (.fl 6 (.fl 7 (.fl 8 (.fl 9 (.ef 11 (.fl 12 (.fl 13 .done)))))))))))))) ([_,_,_,_]) ([]) lN (by kernel_rfl) (by kernel_rfl) rfl (ik _) (λbF=>?_);refine nW rfl (di 0 (b:=cP c P ab)) ?_;refine nW rfl (di 0 (b:=cP c P ab)) ?_;refine cC ?_;refine rV ?_ ?_
  .refine fF rfl (eB func11 (λw g=>xq A2 n2 L2 _ _ hc (aM.dx g) aN)) ?_;rintro _ _ w3 ⟨_,rfl,fv,kv,pv,Fs,Ts,Ps,rfl,rfl,W⟩;unfold vH;refine⟨_,de [5,5,5,5] _ rfl,?_⟩;refine rV ?_ ?_
   .refine fF rfl (eB func10 (λw g=>rH (r:=L3) hc aC (Rd.dM g (l:=1) rfl) (Rd.dM g (l:=2) rfl) (by first|exact l0 g (E:=4) (G:=5) (H:=6) (K:=7) (L:=8) rfl rfl rfl rfl rfl W|exact l0 g (E:=5) (G:=6) (H:=7) (K:=8) (L:=9) rfl rfl rfl rfl rfl W) W (aF.dx g) aG)) ?_;rintro _ _ w4 ⟨_,rfl,y,f,D,s,ae,j,L,R,pz,rfl,rfl,au,am,av,aR,aw⟩;unfold pk;refine⟨_,de [4,4,4,4] _ rfl,?_⟩;refine cL ?_;refine fY (fF rfl (mP [vN,vN,vN]) ?_);rintro _ _ aA ⟨ay,rfl,rfl⟩;refine⟨_,eg.symm,?_⟩;refine fY (lK rfl (gD 4 (y:=[.slice D y.cS.length s,.slice ae f.length j,.slice L 7 R])) ?_);rintro _ _ aB rfl;refine⟨_,cD _,?_⟩;refine cC ?_;refine oy [7,8,10] [4,4,4,4,0] ?_;obtain⟨Ac,af⟩:=sD hc W au am av aw;exact⟨_,y,f,D,s,ae,j,L,R,Ac,rfl,rfl,af⟩
   .refine fF rfl (mP [vN,vN,vN]) ?_;rintro _ _ aA ⟨ay,rfl,rfl⟩;refine⟨_,eg.symm,?_⟩;refine fY (fF rfl (eB func10 (λw g=>rH (r:=L3) hc aC (Rd.dM g (l:=1) rfl) (Rd.dM g (l:=2) rfl) (by first|exact l0 g (E:=4) (G:=5) (H:=6) (K:=7) (L:=8) rfl rfl rfl rfl rfl W|exact l0 g (E:=5) (G:=6) (H:=7) (K:=8) (L:=9) rfl rfl rfl rfl rfl W) W (aF.dx g) aG)) ?_);rintro _ _ w4 ⟨_,rfl,y,f,D,s,ae,j,L,R,pz,rfl,rfl,au,am,av,aR,aw⟩;unfold pk;refine⟨_,de [4,4,4,4] _ rfl,?_⟩;refine cL ?_;refine fY (lK rfl (gD 8 (y:=[.slice D y.cS.length s,.slice ae f.length j,.slice L 7 R])) ?_);rintro _ _ aB rfl;refine⟨_,cD _,?_⟩;refine cC ?_;refine oy [7,8,10] [8,4,4,4,0] ?_;obtain⟨Ac,af⟩:=sD hc W au am av aw;exact⟨_,y,f,D,s,ae,j,L,R,Ac,rfl,rfl,af⟩
  .refine fF rfl (mP [vN,vN,vN]) ?_;rintro _ _ aA ⟨ay,rfl,rfl⟩;refine⟨_,eg.symm,?_⟩;refine fY (fF rfl (eB func11 (λw g=>xq A2 n2 L2 _ _ hc (aM.dx g) aN)) ?_);rintro _ _ w3 ⟨_,rfl,fv,kv,pv,Fs,Ts,Ps,rfl,rfl,W⟩;unfold vH;refine⟨_,de [5,5,5,5] _ rfl,?_⟩;refine fY (fF rfl (eB func10 (λw g=>rH (r:=L3) hc aC (Rd.dM g (l:=1) rfl) (Rd.dM g (l:=2) rfl) (by first|exact l0 g (E:=4) (G:=5) (H:=6) (K:=7) (L:=8) rfl rfl rfl rfl rfl W|exact l0 g (E:=5) (G:=6) (H:=7) (K:=8) (L:=9) rfl rfl rfl rfl rfl W) W (aF.dx g) aG)) ?_);rintro _ _ w4 ⟨_,rfl,y,f,D,s,ae,j,L,R,pz,rfl,rfl,au,am,av,aR,aw⟩;unfold pk;refine⟨_,de [4,4,4,4] _ rfl,?_⟩;refine cL ?_;refine fY (lK rfl (gD 13 (y:=[.slice D y.cS.length s,.slice ae f.length j,.slice L 7 R])) ?_);rintro _ _ aB rfl;refine⟨_,cD _,?_⟩;refine cC ?_;refine oy [7,8,10] [13,4,4,4,0] ?_;obtain⟨Ac,af⟩:=sD hc W au am av aw;exact⟨_,y,f,D,s,ae,j,L,R,Ac,rfl,rfl,af⟩
 rintro _ _ w5 ⟨X,y,f,D,s,ae,j,L,R,Ac,rfl,rfl,af⟩;have bu:=af.rl;have bt:=af.il;refine N [7,8,38] ?_;refine eL ?_;refine I (dH 0 (n:=.slice ae f.length j)) ?_;refine K4 [7,8,40,41,42] ?_;refine dB (λq m H w'=>∃i:Nat,m=[(7,Z p),(8,Z X),(40,.slice ae f.length j),(41,F f.length),(42,F i)]/\H=[cF X [.slice D y.cS.length s,.slice ae f.length j,.slice L 7 R] 34,row (.slice D y.cS.length s) 57 3 y.cS.length (y.cS.flatMap fH),row (.slice ae f.length j) 45 7 f.length (f.flatMap fm),cz (f.flatMap jw),cF p (cP c P ab) 27]/\q+i=f.length) f.length ⟨0,rfl,rfl,rfl⟩ ?_;rintro q _ _ w5 ⟨i,rfl,rfl,hq⟩;refine cZ (λaW=>?_) λaW=>?_
 .obtain⟨x,hx⟩:∃x,f[i]? =some x:=⟨_,dr (by omega)⟩;have az:x.R∈y.rs:=by rw[<-af.r];exact gu (eH hx)
  have ar:=af.o.law az;have a9:=af.b _ az;have a3:=(af.rp _ az).1;have aE:=af.o.cap x.R.eP;refine eQ λg=>?_;obtain⟨E,cr,e⟩:=fs g (q:=2) rfl;injection e with e1 _ aq;subst e1;subst aq;clear g;obtain⟨G,al,K,an,ao⟩:=x;dsimp only at az ar a9 aE a3;have aU:=ar.nD;have aK:=ar.keys;refine df ?_;refine I (cR (ab:=i)) ?_;refine I (je 2 (b:=fm ⟨G,al,K,an,ao⟩) (hv:=by rw[dU];exact oQ yB hx)) ?_;refine dj [F 0,J 0,vN,J 0,F 0,J 0,vN] λB br=>?_;refine cO 0 (u:=fm ⟨G,al,K,an,ao⟩) (H:=fm ⟨G,al,K,an,ao⟩) (h1:=by simp[fm,iD,Value.oneCell']) λbs=>?_;refine cH [7,8,12,40,41,42] ?_;refine cL ?_;refine I (dH 0 (n:=.slice al G.lines.length K)) ?_;refine K4 [7,8,12,40,41,42,47,48,49] ?_;refine dB (λq m H w'=>∃ad:Nat,m=[(7,Z p),(8,Z X),(12,Z B),(40,vS E f.length j),(41,F f.length),(42,F i),(47,.slice al G.lines.length K),(48,F G.lines.length),(49,F ad)]/\H=[cF B (fm ⟨G,al,K,an,ao⟩) 45,cF X [.slice D y.cS.length s,vS E f.length j,.slice L 7 R] 34,row (.slice D y.cS.length s) 57 3 y.cS.length (y.cS.flatMap fH),row (vS E f.length j) 45 7 f.length (f.flatMap fm),cz (f.flatMap jw),cF p (cP c P ab) 27]/\q+ad=G.lines.length) G.lines.length ⟨0,rfl,rfl,rfl⟩ ?_;rintro q2 _ _ w6 ⟨ad,rfl,rfl,bx⟩;refine cZ (λaX=>?_) λaX=>?_
  .obtain⟨ag,hy⟩:∃ag,G.lines[ad]? =some ag:=⟨_,dr (by omega)⟩;have ba:=eH hy;obtain⟨q1,a6,a7⟩:=atC (aK ag ba);obtain⟨aP,aS⟩:=af.k q1 a6;rw[a7]at aP aS;have ai:=(zU hx).1;dsimp only at ai;refine eQ λg=>?_;obtain⟨aj,cl,e⟩:=nB g (s:=4) (t:=i*2) rfl ai;injection e with e1 _ aq;subst e1;subst aq;obtain⟨_,_,e,-,aJ,-⟩:=Rd.qD g (n:=4) (o:=i*2) rfl ai;injection e with _ _ aq;rw[<-aq]at aJ;clear g;refine eL ?_;refine I (cR (ab:=ad)) ?_;refine I (qN 4 (i*2) (b:=gM ag) (hj:=ai) (hv:=by rw[dU,BI];exact oQ zL hy)) ?_;refine dj [vE,J 0,J 0] λak bd=>?_;refine KW 0 (t:=gM ag) (G:=gM ag) (h1:=by simp[gM,Value.oneCell']) λbe=>?_;refine cH [7,8,12,13,14,40,41,42,47,48,49] ?_;refine cL ?_;refine I (dH 0 (n:=.string ag.1)) ?_;refine dd func15 (λw g=>DF.ajV ag.1 w (by omega)) ?_;rintro _ _ w7 ⟨u,rfl,rfl⟩;rw[aP];refine df ?_;refine fu [1,1,1,1,1,1,1] ?_;refine cH [7,8,12,13,14,16,40,41,42,47,48,49] ?_;refine N [7,8,12,13,14,40,41,42,47,48,49,61] ?_;refine df ?_;refine I (dH 1 (n:=vS aj G.lines.length K)) ?_;refine Y ?_;refine I (cU (z:=vS aj ad K) (qB 3 (w:=0) (x:=ad) rfl underlying43 (by kernel_rfl) rfl ⟨_,rfl⟩) (ajH aj ad K)) ?_;refine K4 [7,8,12,14,40,41,42,47,48,49,65,66,67] ?_;refine dB (λq m H w'=>∃k:Nat,m=[(7,Z p),(8,Z X),(12,Z B),(14,Z ak),(40,vS E f.length j),(41,F f.length),(42,F i),(47,vS aj G.lines.length K),(48,F G.lines.length),(49,F ad),(65,vS aj ad K),(66,F ad),(67,F k)]/\H=[cF ak (gM ag) 48,cF B (fm ⟨G,some ⟨aj,0,.none⟩,K,an,ao⟩) 45,cF X [.slice D y.cS.length s,vS E f.length j,.slice L 7 R] 34,row (.slice D y.cS.length s) 57 3 y.cS.length (y.cS.flatMap fH),row (vS E f.length j) 45 7 f.length (f.flatMap fm),cz (f.flatMap jw),cF p (cP c P ab) 27]/\q+k=ad) ad ⟨0,rfl,rfl,rfl⟩ ?_;rintro q3 _ _ w8 ⟨k,rfl,rfl,bz⟩;refine cZ (λaY=>?_) λaY=>?_
   .obtain⟨z,hz⟩:∃z,G.lines[k]? =some z:=⟨_,dr (by omega)⟩;have aD:mF z ag=true:=by
     obtain⟨h1,h2⟩:=da.1 hz;obtain⟨h3,h4⟩:=da.1 hy;have:=r3.1 aU k ad h1 h3 (by omega)
     rwa [h2,h4]at this
    simp only[mF,jh,iu,fU]at aD;refine df ?_;refine I (cR (ab:=k)) ?_;refine I (qN 5 (i*2) (b:=gM z) (hj:=ai) (hv:=by rw[dU,BI];exact oQ zL hz)) ?_;refine dj [vE,J 0,J 0] λaH bf=>?_;refine cO 0 (u:=gM z) (H:=gM z) (h1:=by simp[gM,Value.oneCell']) λbg=>?_;refine cH [7,8,12,14,18,40,41,42,47,48,49,65,66,67] ?_;refine Y ?_;refine eS (λm H w'=>m=[(7,Z p),(8,Z X),(12,Z B),(14,Z ak),(40,vS E f.length j),(41,F f.length),(42,F i),(47,vS aj G.lines.length K),(48,F G.lines.length),(49,F ad),(65,vS aj ad K),(66,F ad),(67,F k),(89,.bool false)]/\H=[cF aH (gM z) 48,cF ak (gM ag) 48,cF B (fm ⟨G,some ⟨aj,0,.none⟩,K,an,ao⟩) 45,cF X [.slice D y.cS.length s,vS E f.length j,.slice L 7 R] 34,row (.slice D y.cS.length s) 57 3 y.cS.length (y.cS.flatMap fH),row (vS E f.length j) 45 7 f.length (f.flatMap fm),cz (f.flatMap jw),cF p (cP c P ab) 27]) ?_ (λ_ _ bb hM=>?_)
    .by_cases he:z.2.2=ag.2.2
     .have aO:eI z.1 ag.1=true:=by
       rcases aD with h|h
       .omega
       .exact h.2
      refine cC ?_;refine I (dH 0 (n:=J z.2.2)) ?_;refine Y ?_;refine I (dH 1 (n:=J ag.2.2)) ?_;refine cQ ?_;refine dZ rfl rfl (dH 0 (n:=J z.2.2)) ?_;refine Y ?_;refine dZ rfl rfl (dH 1 (n:=J ag.2.2)) ?_;refine dZ rfl rfl (cU (z:=.bool true) (e9 rfl rfl) (dq Value.bool (gb (by omega)))) ?_;refine cC ?_;refine dZ rfl rfl (dH 0 (n:=.string z.1)) ?_;refine Y ?_;refine dZ rfl rfl (dH 1 (n:=.string ag.1)) ?_;refine dZ rfl rfl (aaV aO rfl rfl) ?_;refine N [7,8,12,14,40,41,42,47,48,49,65,66,67,89] ?_;exact⟨rfl,rfl⟩
     .have aO:ag.2.2<z.2.2:=by
       rcases aD with h|h
       .exact h
       .exact absurd h.1 he
      refine cC ?_;refine I (dH 0 (n:=J z.2.2)) ?_;refine Y ?_;refine I (dH 1 (n:=J ag.2.2)) ?_;refine cQ ?_;refine dZ rfl rfl (dH 0 (n:=J z.2.2)) ?_;refine Y ?_;refine dZ rfl rfl (dH 1 (n:=J ag.2.2)) ?_;refine dZ rfl rfl (cU (z:=.bool false) (e9 rfl rfl) (dq Value.bool (fL (by omega)))) ?_;refine N [7,8,12,14,40,41,42,47,48,49,65,66,67,89] ?_;exact⟨rfl,rfl⟩
    obtain⟨rfl,rfl⟩:=hM;refine cC ?_;refine cK [1,1,1,1,1,1,1] ?_;refine N [7,8,12,14,40,41,42,47,48,49,65,66,67] ?_;exact⟨q3-1,by omega,k+1,rfl,rfl,by omega⟩
   .refine dI ?_;refine cK [1,1,1,1,1,1] ?_;refine N [7,8,12,40,41,42,47,48,49] ?_;exact⟨q2-1,by omega,ad+1,rfl,rfl,by omega⟩
  .refine dI ?_;refine cQ ?_;refine I (dH 1 (n:=.slice D y.cS.length s)) ?_;refine K4 [7,8,12,40,41,42,93,94,95] ?_;refine dB (λq m H w'=>∃k:Nat,m=[(7,Z p),(8,Z X),(12,Z B),(40,vS E f.length j),(41,F f.length),(42,F i),(93,.slice D y.cS.length s),(94,F y.cS.length),(95,F k)]/\H=[cF B (fm ⟨G,al,K,an,ao⟩) 45,cF X [.slice D y.cS.length s,vS E f.length j,.slice L 7 R] 34,row (.slice D y.cS.length s) 57 3 y.cS.length (y.cS.flatMap fH),row (vS E f.length j) 45 7 f.length (f.flatMap fm),cz (f.flatMap jw),cF p (cP c P ab) 27]/\q+k=y.cS.length) y.cS.length ⟨0,rfl,rfl,rfl⟩ ?_;rintro q4 _ _ bC ⟨k,rfl,rfl,bA⟩;refine cZ (λaZ=>?_) λaZ=>?_
   .obtain⟨T,a5⟩:∃ag,y.cS[k]? =some ag:=⟨_,dr (by omega)⟩;refine eQ λg=>?_;obtain⟨ap,ci,e⟩:=fs g (q:=2) rfl;injection e with e1 _ aq;subst e1;subst aq;clear g;refine df ?_;refine I (cR (ab:=k)) ?_;refine I (je 2 (b:=fH T) (hv:=by rw[dU];exact oQ Cp a5)) ?_;refine dj [vE,F 0,J 0] λah bh=>?_;refine cO 0 (u:=fH T) (H:=fH T) (h1:=by simp[fH,Value.oneCell']) λbi=>?_;refine cH [7,8,12,20,40,41,42,93,94,95] ?_;refine N [7,8,12,20,21,40,41,42,93,94,95] ?_;refine cL ?_;refine I (dH 1 (n:=.slice al G.lines.length K)) ?_;refine K4 [7,8,12,20,21,40,41,42,93,94,95,100,101,102] ?_;refine dB (λq m H w'=>∃ad:Nat,m=[(7,Z p),(8,Z X),(12,Z B),(20,Z ah),(21,.bool (tk (G.lines.take ad) T.key)),(40,vS E f.length j),(41,F f.length),(42,F i),(93,vS ap y.cS.length s),(94,F y.cS.length),(95,F k),(100,.slice al G.lines.length K),(101,F G.lines.length),(102,F ad)]/\H=[cF ah (fH T) 57,cF B (fm ⟨G,al,K,an,ao⟩) 45,cF X [vS ap y.cS.length s,vS E f.length j,.slice L 7 R] 34,row (vS ap y.cS.length s) 57 3 y.cS.length (y.cS.flatMap fH),row (vS E f.length j) 45 7 f.length (f.flatMap fm),cz (f.flatMap jw),cF p (cP c P ab) 27]/\q+ad=G.lines.length) G.lines.length ⟨0,rfl,rfl,rfl⟩ ?_;rintro q5 _ _ bD ⟨ad,rfl,rfl,bB⟩;refine cZ (λa0=>?_) λa0=>?_
    .obtain⟨ag,hy⟩:∃ag,G.lines[ad]? =some ag:=⟨_,dr (by omega)⟩;have bw:cE (G.lines.take (ad+1))=cE (G.lines.take ad)++[ag.1]:=by rw[ia,hy];unfold cE;rw[dE];rfl
     have ai:=(zU hx).1;dsimp only at ai;refine eQ λg=>?_;obtain⟨aj,cl,e⟩:=nB g (s:=5) (t:=i*2) rfl ai;injection e with e1 _ aq;subst e1;subst aq;clear g;refine df ?_;refine I (cR (ab:=ad)) ?_;refine I (qN 5 (i*2) (b:=gM ag) (hj:=ai) (hv:=by rw[dU,BI];exact oQ zL hy)) ?_;refine dj [vE,J 0,J 0] λaI bj=>?_;refine cO 0 (u:=gM ag) (H:=gM ag) (h1:=by simp[gM,Value.oneCell']) λbl=>?_;refine cH [7,8,12,20,21,23,40,41,42,93,94,95,100,101,102] ?_;refine eS (λm H w'=>m=[(7,Z p),(8,Z X),(12,Z B),(20,Z ah),(21,.bool (tk (G.lines.take (ad+1)) T.key)),(40,vS E f.length j),(41,F f.length),(42,F i),(93,vS ap y.cS.length s),(94,F y.cS.length),(95,F k),(100,vS aj G.lines.length K),(101,F G.lines.length),(102,F ad)]/\H=[cF aI (gM ag) 48,cF ah (fH T) 57,cF B (fm ⟨G,some ⟨aj,0,.none⟩,K,an,ao⟩) 45,cF X [vS ap y.cS.length s,vS E f.length j,.slice L 7 R] 34,row (vS ap y.cS.length s) 57 3 y.cS.length (y.cS.flatMap fH),row (vS E f.length j) 45 7 f.length (f.flatMap fm),cz (f.flatMap jw),cF p (cP c P ab) 27]) ?_ (λ_ _ bb hM=>?_)
     .have a4:tk (G.lines.take (ad+1)) T.key=(tk (G.lines.take ad) T.key||decide (ag.1=T.key)):=by unfold tk;rw[ia,hy,List.any_append];simp
      rw[a4];cases hm:tk (G.lines.take ad) T.key with
      |true=>refine N [7,8,12,20,21,40,41,42,93,94,95,100,101,102] ?_;exact⟨rfl,rfl⟩
      |false=>refine cL ?_;refine dZ rfl rfl (dH 0 (n:=.string ag.1)) ?_;refine Y ?_;refine dZ rfl rfl (dH 1 (n:=.string T.key)) ?_;refine dZ rfl rfl (oO rfl rfl) ?_;refine N [7,8,12,20,21,40,41,42,93,94,95,100,101,102] ?_;exact⟨rfl,rfl⟩
     obtain⟨rfl,rfl⟩:=hM;refine cK [1,1,1,1,1,1,1] ?_;refine N [7,8,12,20,21,40,41,42,93,94,95,100,101,102] ?_;exact⟨q5-1,by omega,ad+1,rfl,rfl,by omega⟩
    .have hj:ad=G.lines.length:=by omega
     rw[hj,j6];refine dI ?_;refine Y ?_;refine eS (λm H w'=>m=[(7,Z p),(8,Z X),(12,Z B),(40,vS E f.length j),(41,F f.length),(42,F i),(93,vS ap y.cS.length s),(94,F y.cS.length),(95,F k),(128,.bool false)]/\H=[cF ah (fH T) 57,cF B (fm ⟨G,al,K,an,ao⟩) 45,cF X [vS ap y.cS.length s,vS E f.length j,.slice L 7 R] 34,row (vS ap y.cS.length s) 57 3 y.cS.length (y.cS.flatMap fH),row (vS E f.length j) 45 7 f.length (f.flatMap fm),cz (f.flatMap jw),cF p (cP c P ab) 27]) ?_ ?_
     .by_cases ax:tk G.lines T.key=false
      .have bc:=ar.rest T.key (adx ax);refine oW [0,1,2,3,4,5,6,7,8,10,11,1009,12,13] [_,_,_,_,_,_,_] [] (ik _) λaV=>?_;refine Y ?_;refine cN rfl (cU (z:=.bool (decide (tk G.lines T.key=false))) (jl rfl rfl) (by cases tk G.lines T.key<;>rfl)) ?_;refine cN rfl (cU (rh rfl) (dq Value.bool (gb ax))) ?_;refine fX rfl rfl rfl (di 2 (b:=[vS ap y.cS.length s,vS E f.length j,.slice L 7 R])) ?_;refine fX rfl rfl rfl (di 6 (b:=cP c P ab)) ?_;refine Y ?_;refine fX rfl rfl rfl (dH 1 (n:=F G.eP)) ?_;refine Y ?_;refine fX rfl rfl rfl (dH 0 (n:=.string T.key)) ?_;refine Y ?_;refine fX rfl rfl rfl (dH 1 (n:=J G.rest)) ?_;refine Og rfl rfl rfl (eB func13 (λw g=>RZ (h:=P) (l:=ab) (y:=vS E f.length j) (x:=.slice L 7 R) G.eP T.key hc (Rd.dM g (l:=3) rfl) af.t (by omega) aE)) ?_;rintro _ _ bn ⟨_,rfl,rfl,rfl⟩;refine⟨_,jQ _ _ _,?_⟩;refine fX rfl rfl rfl (cU (z:=.bool false) (gA rfl rfl) (dq Value.bool (fL (by omega)))) ?_;refine N [7,8,12,40,41,42,93,94,95,128] ?_;exact⟨rfl,rfl⟩
      .refine oW [0,1,2,3,4,5,6,7,8,10,11,1009,12,13] [_,_,_,_,_,_,_] [] (ik _) λaV=>?_;refine Y ?_;refine cN rfl (cU (z:=.bool (decide (tk G.lines T.key=false))) (jl rfl rfl) (by cases tk G.lines T.key<;>rfl)) ?_;refine cN rfl (cU (rh rfl) (dq Value.bool (fL ax))) ?_;refine iq ?_;refine Am rfl rfl rfl ?_;refine N [7,8,12,40,41,42,93,94,95,128] ?_;exact⟨rfl,rfl⟩
     rintro _ _ bE ⟨rfl,rfl⟩;refine cC ?_;refine cK [1,1,1,1,1,1] ?_;refine N [7,8,12,40,41,42,93,94,95] ?_;exact⟨q4-1,by omega,k+1,rfl,rfl,by omega⟩
   .refine dI ?_;refine cK [1,1,1,1,1] ?_;refine N [7,8,40,41,42] ?_;exact⟨q-1,by omega,i+1,rfl,rfl,by omega⟩
 .refine dI ?_;refine Ku func14 (λw g=>Bw w) ?_;rintro _ _ bo ⟨rfl,rfl⟩;refine N [6] ?_;refine gT results5 ?_;rfl
open Go.RowKit Go.WideShapes Go.ChangeShapes
set_option maxRecDepth 100000 in
theorem ayQ (g:Os)(b:g.Started)(x:Type)(enc:dk×M->x):ReturnsInHanded {} checked g 5 .any (Rows.systemRestSpec.pre6 enc prog f5 Rows.systemRestRow.domain false) (Rows.systemRestSpec.post enc prog f5 false true false false):=by
 refine Eb (f:=checked) (tb:=4) Tryz.own b (by kernel_rfl) func5 (ChangeSpec.witness6 (enc:=enc) (C:=checked) false ⟨#[],#[.slice none 0 0,.slice none 0 0,.slice none 0 0],[]⟩ 8 (by kernel_rfl) (by kernel_rfl) (by kernel_rfl) (by kernel_rfl)) rfl (λc s=>?_) Tryz.laidOut (by kernel_rfl) (by kernel_rfl) underlying4 (λW args t=>?_)
 .have:c.length=3:=s.trans (by kernel_rfl)
  match c,this with
  |[_,_,_],_=>rfl
 .have a:sU enc prog W f5.params.toList args:=t;rw[params5]at a;clear t;obtain⟨y,_,rfl,h0,a⟩:=pt a;obtain⟨z,_,rfl,q,a⟩:=pt a;obtain⟨A,_,rfl,r,a⟩:=pt a;obtain rfl:=Ep a;obtain⟨h,n,k,rfl,d,u,_⟩:=pr h0;obtain⟨i,o,l,rfl,e,v,_⟩:=pr q;obtain⟨j,p,m,rfl,f,w,_⟩:=pr r;exact aky h i j n o p k l m W d (by omega) e (by omega) f (by omega)
theorem ayR {a b:Bool}(c:a=true)(d:b=true):(a&&b)=true:=by rw[c,d];rfl
theorem ayk:(Rows.systemRestRow.wf (OpenSpec.ofChange Rows.systemRestSpec))=true:=by kernel_rfl
theorem ayl:(laidOutB prog)=true:=by kernel_rfl
theorem ayw:(mapsRowed prog)=true:=by kernel_rfl
theorem ayH:(f5.params.all (prog.readableRec ·))=true:=by kernel_rfl
theorem ayK:(namedTie prog Rows.systemRestRow.named Rows.systemRestSpec.vars)=true:=by kernel_rfl
theorem ayL:((Rows.systemRestRow.stops==[]))=true:=by kernel_rfl
theorem ayM:((prog.stops==[]))=true:=by kernel_rfl
theorem ayN:((Rows.systemRestRow.knobs==[]))=true:=by kernel_rfl
theorem ayO:((prog.stopKnobs==[]))=true:=by kernel_rfl
theorem ayP:((Rows.systemRestRow.inPlace==prog.inPlace 5))=true:=by kernel_rfl
theorem aym:((Rows.systemRestRow.unfollowed==prog.unfollowed 5))=true:=by kernel_rfl
theorem ayn:((Rows.systemRestRow.recurses==prog.recurses 5))=true:=by kernel_rfl
theorem ayo:((Rows.systemRestRow.named==prog.varsNamed 5))=true:=by kernel_rfl
theorem ayp:((Rows.systemRestRow.maps==(f5.params.toList++Rows.systemRestSpec.plain.varTypes prog).any (prog.mapsRec ·)))=true:=by kernel_rfl
theorem ayq:((Rows.systemRestRow.ifaces==(f5.params.toList++Rows.systemRestSpec.plain.varTypes prog).any (prog.ifacesRec ·)))=true:=by kernel_rfl
theorem ayr:((Rows.systemRestRow.mapsOut==prog.mapsAmong f5.resultTypes.toList))=true:=by kernel_rfl
theorem ays:((Rows.systemRestRow.loops==(f5.params.toList++Rows.systemRestSpec.plain.varTypes prog).any (prog.loopsFrom ·)))=true:=by kernel_rfl
theorem ayt:((Rows.systemRestRow.wideKeys==(f5.params.toList++Rows.systemRestSpec.plain.varTypes prog++f5.resultTypes.toList).any (prog.wideKeysFrom ·)))=true:=by kernel_rfl
theorem ayu:(Rows.systemRestSpec.vars.all (prog.varReadable ·))=true:=by kernel_rfl
theorem ayv:(f5.resultTypes.all (λa=>prog.readableRec a&&decide (a<prog.types.size)))=true:=by kernel_rfl
theorem ayx:((Rows.systemRestRow.ifacesOut==f5.resultTypes.toList.any (prog.ifacesRec ·)))=true:=by kernel_rfl
theorem ayy:((Rows.systemRestRow.loopsOut==f5.resultTypes.toList.any (prog.loopsFrom ·)))=true:=by kernel_rfl
theorem ayz:((Rows.systemRestRow.plainKeys==prog.plainKeys))=true:=by kernel_rfl
theorem ayA:(Rows.systemRestRow.shortTexts.isNone)=true:=by kernel_rfl
theorem ayB:(prog.stopsHeard)=true:=by kernel_rfl
theorem ayC:(prog.mayEnter)=true:=by kernel_rfl
theorem ayD:((Rows.systemRestRow.lifted==prog.liftsFinal))=true:=by kernel_rfl
theorem ayE:((prog.make==some Rows.systemRestRow.make))=true:=by kernel_rfl
theorem ayF:((Rows.systemRestRow.kinds==(if Rows.systemRestRow.domain.isEmpty then[]else f5.params.toList.map λb=>match prog.underlying b with|some (.int a)=>some a|_=>none)))=true:=by kernel_rfl
theorem ayG:((Rows.systemRestRow.pinned==Rows.systemRestRow.pinnedBy))=true:=by kernel_rfl
theorem ayI:((Rows.systemRestRow.veiled==(f5.params.toList++Rows.systemRestSpec.plain.varTypes prog++f5.resultTypes.toList).any (prog.veiledRec ·)))=true:=by kernel_rfl
theorem ayJ:(Rows.systemRestRow.veiledFits prog f5.params.toList (f5.params.toList++Rows.systemRestSpec.plain.varTypes prog++f5.resultTypes.toList))=true:=by kernel_rfl
set_option maxRecDepth 100000 in
theorem ayi:joinedFacts prog 5 f5 Rows.systemRestSpec Rows.systemRestRow=true:=ayR (ayR (ayR (ayR (ayR (ayR (ayR (ayR (ayR (ayR (ayR (ayR (ayR (ayR (ayR (ayR (ayR (ayR (ayR (ayR (ayR (ayR (ayR (ayR (ayR (ayR (ayR (ayR (ayR (ayR (ayR ayk ayl) ayw) ayH) ayK) ayL) ayM) ayN) ayO) ayP) aym) ayn) ayo) ayp) ayq) ayr) ays) ayt) ayu) ayv) ayx) ayy) ayz) ayA) ayB) ayC) ayD) ayE) ayF) ayG) ayI) ayJ
theorem systemRest_holds:Rows.SystemRestSaid:=OpenClaim.holds_of_wide 5 f5 rfl rfl rfl rfl rfl rfl rfl ⟨rfl,rfl,rfl,rfl,rfl⟩ rfl rfl rfl rfl rfl (by kernel_rfl) func5 ayi (nr (by kernel_rfl)) (by unfold Func.isWrapper;first|(rw[cM (by decide+kernel)];kernel_rfl)|(rw[cJ (by decide+kernel)];exact⟨rfl,rfl⟩)) (λb a c enc _=>ayQ b a c enc)
end Go.Proofs.YtdlpoonfcdoiiaaGreat
