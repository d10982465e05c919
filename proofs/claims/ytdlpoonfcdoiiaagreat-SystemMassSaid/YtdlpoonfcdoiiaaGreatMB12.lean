/- What the code does, step by step, and plain facts: part 12. They have no conditions. -/
import Derived.Test.YtdlpoonfcdoiiaaGreatMB11
namespace Go.Proofs.YtdlpoonfcdoiiaaGreat
open Go.RowKit Go.Proofs.Tryz
set_option maxHeartbeats 40000000
set_option linter.all false
def Pc (b c:C En)(d:En):(cE (b++d::c)).Perm (d.1::cE (b++c)):=(eg (l₁:=b) (l₂:=c) (a:=d)).map Prod.fst
def ahJ {q:PC}{d:iV}{e:C En}{x:U}(t:(cE d.L).Nodup)(s:(cE e).Nodup):(cE (m8 q d e x).1.L++cE (m8 q d e x).2).Perm (cE d.L++cE e):=by
 unfold m8;split
 .exact cD _
 .rename_i z u;obtain⟨h,i,j,rfl,rfl,f⟩:=KY u;have c:iT d.L h.1=i++j:=by
   conv=>lhs;rw[f]
   exact vB (by rw[<-f];exact t)
  have l:∀p,(cE (lM (iM q.mode d.base h) p)).Perm (h.1::cE p):=λp=>(vo _ _).map Prod.fst;have m:(cE d.L).Perm (h.1::cE (i++j)):=by rw[f];exact Pc i j h
  split
  .exact cD _
  .split
   .unfold iV.take;dsimp only;rw[c];exact((l e).append_left _).trans (eg.trans (m.symm.append_right _))
   .split
    .exact cD _
    .rename_i g v;split
     .exact cD _
     .obtain⟨n,o,b⟩:=pJ (Lw v);have k:iT e g.1=n++o:=by
       conv=>lhs;rw[b]
       exact vB (by rw[<-b];exact s)
      have w:(cE e).Perm (g.1::cE (n++o)):=by rw[b];exact Pc n o g
      unfold iV.swap;dsimp only;rw[c,k];have r:∀y:Nat,cE (i++j++[(g.1,g.2.1,y)])=cE (i++j)++[g.1]:=λy=>by rw[lJ];rfl
      rw[r];refine((l (n++o)).append_left _).trans ?_;refine List.Perm.trans ?_ (m.append w).symm;rw[dJ];refine List.Perm.trans ?_ (eg (a:=h.1) (l₁:=[]) (l₂:=_));rw[kF,kP];exact List.Perm.trans (vX _ (List.Perm.swap h.1 g.1 _)) eg
section
variable{o p u t w:Nat}{b:PC}{i k:M}{m:TD}{c:O}{q a e j:V}{g n:U}{f:TA}{h:iV}{s l:Nat}{d:C En}{r:Nat}{v:U->Nat}
def ahM (B:n.size<=255)(G:oB u s l h q)(h0:Hl c q):Sr 216 [Z u,.string n] c q λz H=>H=[q]/\∃(D:En)(x:Bool),z=PF [gf D.1 D.2.1 D.2.2,.bool x]/\(x=true->h.get l n=some D/\D.1=n)/\(x=false->h.get l n=none):=by
 refine(Sz B G h0).mono ?_;rintro z H ⟨rfl,⟨K,A,E,rfl⟩|⟨A,rfl⟩⟩
 .exact⟨rfl,K,true,rfl,λ_=>⟨A,E⟩,λy=>(by cases y)⟩
 .exact⟨rfl,(ByteArray.empty,0,0),false,rfl,λy=>(by cases y),λ_=>A⟩
def atJ (D:gd (cE d))(E:d.length<=1000000)(G:pG t w d q)(H:Hl c q):Sr 169 [Z t,.string n] c q λz K=>K=[q]/\∃(B:En)(x:Bool),z=PF [gf B.1 B.2.1 B.2.2,.bool x]/\(x=true->kh d n=some B)/\(x=false->n∉cE d):=by
 refine(atK D E G H).mono ?_;rintro z K ⟨rfl,⟨L,A,rfl⟩|⟨A,rfl⟩⟩
 .exact⟨rfl,L,true,rfl,λ_=>A,λy=>(by cases y)⟩
 .exact⟨rfl,(ByteArray.empty,0,0),false,rfl,λy=>(by cases y),λ_=>A⟩
def MQ (h0:Hl c (cz (ic o p b i k f m a e j))):Sr 166 [Z f.t] c (cz (ic o p b i k f m a e j)) λx y=>x=.bool true/\y=[cz (ic o p b i k f m a e j)]:=by refine dS func166 h0 ?_;refine cB ?_;refine dZ rfl rfl (eZ 0 0 (n:=.map (some f.hb))) ?_;refine dZ rfl rfl (oN rfl rfl (λc=>by kernel_rfl) (s:=.bool true) (λc=>by kernel_rfl)) ?_;refine db results166 ?_;exact⟨rfl,rfl⟩
def ail (y:gd (cE d))(n:U):gd (cE (iT d n))/\n∉cE (iT d n):=by rw[Mc];refine⟨List.Pairwise.filter _ y,λx=>?_⟩;have:=(kE.1 x).2;simp at this
def aik {B:En}(A:gd (cE d))(x:B∈d):(iT d B.1).length+1=d.length:=by obtain⟨z,y⟩:=ka.1 x;rw[SL A y];have:=(da.1 y).1;simp;omega
def alb (hc:b.Ok)(af:jy b h d r v)(aS:r<=9223372036854775808)(am:g.size<=255)(hT:oB f.tb b.et b.mode h a)(hE:pG f.ex b.exact d e)(h0:Hl c (cz (ic o p b i k f m a e j))):Sr 172 [Z f.t,.string g] c (cz (ic o p b i k f m a e j)) λaq H=>∃Q P,aq=F 0/\H=[cz (ic o p b i k f m Q P j)]/\oB f.tb b.et b.mode (m8 b h d g).1 Q/\pG f.ex b.exact (m8 b h d g).2 P:=by
 have aZ:=hc.exact;have a0:=hc.rK;have ay:=af.sN;have ab:=af.nD;refine dR func172 h0 ?_;refine eu (ic o p b i k f m a e j) ?_;refine Pw 1 func216 (λc K z=>ahM am hT z) ?_;rintro _ _ w1 ⟨rfl,S,G,rfl,au,av⟩;refine NV [vE,J 0,J 0] λae aV=>?_;refine cO 0 λaR=>?_;refine N [0,1,5,6] ?_;refine cC ?_;refine eS (λs H w'=>∃ad:Bool,s=[(0,Z f.t),(1,.string g),(5,Z ae),(39,.bool ad)]/\H=[cF ae (dy (some S)) 302,a,cF f.t (rU o p b i k f) 294,e,j,row f.rv 280 3 m.rows.length (m.rows.flatMap jz),mp .string Value.string pY f.hb m.hm]/\(ad=true↔(G=false\/b.exact=0\/S.2.1<b.rK))) ?_ ?_
 .have aI:¬b.exact=0->¬S.2.1<b.rK->¬(true=false\/b.exact=0\/S.2.1<b.rK):=λg1 g2 y=>by
   rcases y with y|y|y
   .cases y
   .exact g1 y
   .exact g2 y
  rcases(by cases G;exact .inl rfl;by_cases h1:b.exact=0;exact .inr (.inl ⟨rfl,h1⟩);by_cases h2:S.2.1<b.rK;exact .inr (.inr (.inl ⟨rfl,h1,h2⟩));exact .inr (.inr (.inr ⟨rfl,h1,h2⟩)):G=false\/(G=true/\b.exact=0)\/(G=true/\¬b.exact=0/\S.2.1<b.rK)\/(G=true/\¬b.exact=0/\¬S.2.1<b.rK))with rfl|⟨rfl,g1⟩|⟨rfl,g1,g2⟩|⟨rfl,g1,g2⟩
  all_goals
   refine eO 20 [] [_,_,_,_,_,_,_] [] (ik _) λa3=>?_;refine N [0,1,5,39] ?_;refine⟨_,rfl,rfl,?_⟩
   first
   |exact⟨λ_=>.inl rfl,λ_=>rfl⟩
   |exact⟨λ_=>.inr (.inl g1),λ_=>rfl⟩
   |exact⟨λ_=>.inr (.inr g2),λ_=>rfl⟩
   |exact⟨λy=>Bool.noConfusion y,λy=>(aI g1 g2 y).elim⟩
 rintro _ _ w2 ⟨ad,rfl,rfl,hq⟩;refine kL rfl (λal=>?_) (λal=>?_)
 .have R:m8 b h d g=(h,d):=by
   unfold m8;rcases hq.1 al with y|y
   .rw[av y]
   .cases T:h.get b.mode g with
    |none=>rfl
    |some y'=>
     have ak:G=true:=by
      cases G with
      |true=>rfl
      |false=>rw[av rfl]at T;cases T
     rw[(au ak).1]at T;injection T with T;subst T;dsimp only;rw[cM y]
  refine N [4] ?_;refine cK [2,1,1,1,1,1] ?_;refine dG (d:=[]) [_,_,_,_,_,_] ?_;refine dP results172 ?_;exact⟨a,e,rfl,rfl,by rw[R];exact hT,by rw[R];exact hE⟩
 .have ax:¬(G=false\/b.exact=0\/S.2.1<b.rK):=λy=>al (hq.2 y);have ak:G=true:=by
   cases G with
   |true=>rfl
   |false=>exact absurd (.inl rfl) ax
  obtain⟨T,aM⟩:=au ak;subst aM;have ag:¬(b.exact=0\/S.2.1<b.rK):=λy=>ax (.inr y);obtain⟨zz,A,B,aO,aP,ar⟩:=KY T;have aN:S∈ml b h d:=ki.2 (.inl ⟨zz,by rw[ar];simp,aO⟩);obtain⟨-,-,y3,y4,y5,y6,y7⟩:=af.one S aN;have aL:S.1∈cE h.L:=dz.2 ⟨zz,by rw[ar];simp,aP⟩;have az:S.1∉cE d:=λy=>(kR.1 af.nd).2.2 S.1 aL S.1 y rfl;refine cQ ?_;refine oW [0,1,2,3,5,6,7,8,9,1004,10] [_,_] [_,_,_,_,_] (de [0,1] _ rfl) λa4=>?_;refine fh ?_;refine eh rfl (ft (e) [_,_,_,_,_,_] func218 (c8 3 rfl) (λc K z=>atN hE z)) ?_;rintro _ _ w4 ⟨_,rfl,rfl,rfl⟩;refine⟨_,de [1,1] _ rfl,?_⟩;refine cZ (λaG=>?_) λaG=>?_
  .have aw:d.length<b.exact:=by omega
   have R:m8 b h d S.1=(h.take S.1,lM S d):=by unfold m8;rw[T];dsimp only;rw[cJ ag,cM aw]
   refine Pw 3 func219 (λc K z=>ahP am hT z) ?_;rintro _ _ w3 ⟨Q,rfl,X⟩;refine cH [0,5] ?_;refine Y ?_;refine eO 7 [5] [_,_] [_,_,_,_,_] (de [1,1] _ rfl) λa5=>?_;refine cL ?_;refine cN rfl (di 0 (b:=dy (some S))) ?_;refine eh rfl (ft (e) [_,_,_,_,_,_] func220 (c8 3 rfl) (λc K z=>Vw S ab aw (by omega) hE z y6 az (by omega))) ?_;rintro _ _ w4 ⟨_,rfl,P,rfl,rfl,aj⟩;refine⟨_,de [1,1] _ rfl,?_⟩;refine N [4] ?_;refine cK [1,2,1,1,1,1] ?_;refine dG (d:=[]) [_,_,_,_,_,_] ?_;refine dP results172 ?_;exact⟨Q,P,rfl,rfl,by rw[R];exact X,by rw[R];exact aj⟩
  .obtain⟨x0,L,ah⟩:∃x0 L,d=x0::L:=yZ (by omega);have aF:∀x∈x0::L,x.2.1+x.2.2<=9223372036854775808:=λx hx=>by have:=af.one x (ki.2 (.inr (by rw[ah];exact hx)));omega
   have aD:pG f.ex b.exact (x0::L) e:=by rw[<-ah];exact hE
   have aE:L.length<=32:=by rw[ah]at ay;simp at ay;omega
   refine Pw 2 func221 (λc K z=>atM x0 L aE aD z aF) ?_;rintro _ _ w5 ⟨D,rfl,rfl,hl⟩;rw[<-ah]at hl;have ai:=Lw hl;obtain⟨-,-,l3,l4,l5,l6,l7⟩:=af.one D (ki.2 (.inr ai));have aJ:D.1∉cE h.L:=λy=>(kR.1 af.nd).2.2 D.1 y D.1 (gu ai) rfl;refine NV [vE,J 0,J 0] λaA aW=>?_;refine cO 0 (u:=dy (some D)) (H:=dy (some D)) (h1:=by simp[dy,Value.oneCell']) λaX=>?_;refine N [0,1,5,7] ?_;refine fh ?_;refine I (cU (z:=J ((D.2.1+D.2.2:Nat):Int)) (og rfl rfl) (by rw[gR])) ?_;refine cZ (λaH=>?_) λaH=>?_
   .have an:S.2.1<=ep D:=by unfold ep;omega
    have R:m8 b h d S.1=(h,d):=by unfold m8;rw[T];dsimp only;rw[cJ ag,cJ (by omega),hl];dsimp only;rw[cM an]
    refine N [4] ?_;refine cK [3,3,1,2,2,2] ?_;refine dG (d:=[]) [_,_,_,_,_,_] ?_;refine dP results172 ?_;exact⟨a,e,rfl,rfl,by rw[R];exact hT,by rw[R];exact hE⟩
   .have an:¬S.2.1<=ep D:=by unfold ep;omega
    have aY:ep D=D.2.1+D.2.2:=rfl;have R:m8 b h d S.1=(h.swap b.mode S.1 D,lM S (iT d D.1)):=by unfold m8;rw[T];dsimp only;rw[cJ ag,cJ (by omega),hl];dsimp only;rw[cJ an]
    obtain⟨s1,s2⟩:=ail ab D.1;have a1:=aik ab ai;have aK:S.1∉cE (iT d D.1):=λy=>by rw[Mc]at y;exact az (kE.1 y).1
    have E:=λ(w1:O) (y:Hl w1 a)=>ahO am l7 T l6 aJ (by omega) (by omega) l3 (by omega) hT y;refine cC ?_;refine eO 7 [6] [_,_] [_,_,_,_,_,_] (de [0,2] _ rfl) λaT=>?_;refine eL ?_;refine eh rfl (ft (e) [_,_,_,_,_,_,_] func222 (c8 2 rfl) (λc K z=>atP D ab (by omega) hE z ai)) ?_;rintro _ _ w6 ⟨_,rfl,P,rfl,rfl,aj⟩;refine⟨_,de [1,1] _ rfl,?_⟩;refine iK [0,1,7] ?_;refine Y ?_;refine eS (λs H w'=>∃(b9:Nat)(Q:V),s=[(0,Z f.t),(9,Z b9),(10,F 0)]/\H=[cF aA (dy (some D)) 302,cF f.t (rU o p b i k f) 294,cF b9 (dy (some S)) 302,Q,P,cF ae (dy (some S)) 302,j,row f.rv 280 3 m.rows.length (m.rows.flatMap jz),mp .string Value.string pY f.hb m.hm]/\oB f.tb b.et b.mode (h.swap b.mode S.1 D) Q) ?_ ?_
    .refine xr (.fl 0 (.fl 1 (.fl 2 (.fl 3 (.fl 4 (.fl 5 (.two 6 (.fl 7 (.fl 8 (.fl 9 (.ef 10 (.ef 11 (.fl 12 .done)))))) 10 (.ef 6 (.fl 7 (.fl 8 (.fl 9 (.ef 11 (.fl 12 .done))))))))))))) ([_,_]) ([_,_,_,_,_,_]) lN (by kernel_rfl) (by kernel_rfl) rfl (cD _) (λaC=>?_);refine df ?_;refine nW rfl (di 0 (b:=dy (some D))) ?_;refine rV ?_ ?_
     ·(first|refine fF rfl (nu (a) _ rfl func223 (by kernel_rfl) (c8 0 rfl) (λc K z=>E c z)) ?_|refine fF rfl (nu (a) _ rfl func223 (by kernel_rfl) (c8 1 rfl) (λc K z=>E c z)) ?_|refine fF rfl (nu (a) _ rfl func223 (by kernel_rfl) (c8 2 rfl) (λc K z=>E c z)) ?_|refine fF rfl (nu (a) _ rfl func223 (by kernel_rfl) (c8 3 rfl) (λc K z=>E c z)) ?_|refine fF rfl (nu (a) _ rfl func223 (by kernel_rfl) (c8 4 rfl) (λc K z=>E c z)) ?_|refine fF rfl (nu (a) _ rfl func223 (by kernel_rfl) (c8 5 rfl) (λc K z=>E c z)) ?_|refine fF rfl (nu (a) _ rfl func223 (by kernel_rfl) (c8 6 rfl) (λc K z=>E c z)) ?_)
      rintro _ _ w7 ⟨_,rfl,Q,rfl,rfl,X⟩;refine⟨_,de [1,1] _ rfl,?_⟩;refine cQ ?_;refine fY (fF rfl (mP [vE,J 0,J 0]) ?_);rintro _ _ ao ⟨W,rfl,rfl⟩;refine⟨_,eg.symm,?_⟩
      (first|refine fY (lK rfl (O6 (us:=[_,_,_]) rfl rfl rfl (by kernel_rfl) (by simp[Value.oneCell']) rfl rfl) ?_)|refine fY (lK rfl (O7 (us:=[_,_,_]) rfl rfl rfl (by kernel_rfl) (by simp[Value.oneCell']) rfl rfl) ?_)|refine fY (lK rfl (O8 (z:=[_,_,_]) rfl rfl rfl (by kernel_rfl) (by simp[Value.oneCell']) rfl rfl) ?_)|refine fY (lK rfl (O9 (z:=[_,_,_]) rfl rfl rfl (by kernel_rfl) (by simp[Value.oneCell']) rfl rfl) ?_))
      rintro _ _ ap rfl;refine⟨_,cD _,?_⟩;refine Y ?_;refine IM [0,9,10] ?_;exact⟨W,Q,rfl,rfl,X⟩
     .refine fF rfl (mP [vE,J 0,J 0]) ?_;rintro _ _ ao ⟨W,rfl,rfl⟩;refine⟨_,eg.symm,?_⟩
      (first|refine fY (fF rfl (nu (a) _ rfl func223 (by kernel_rfl) (c8 0 rfl) (λc K z=>E c z)) ?_)|refine fY (fF rfl (nu (a) _ rfl func223 (by kernel_rfl) (c8 1 rfl) (λc K z=>E c z)) ?_)|refine fY (fF rfl (nu (a) _ rfl func223 (by kernel_rfl) (c8 2 rfl) (λc K z=>E c z)) ?_)|refine fY (fF rfl (nu (a) _ rfl func223 (by kernel_rfl) (c8 3 rfl) (λc K z=>E c z)) ?_)|refine fY (fF rfl (nu (a) _ rfl func223 (by kernel_rfl) (c8 4 rfl) (λc K z=>E c z)) ?_)|refine fY (fF rfl (nu (a) _ rfl func223 (by kernel_rfl) (c8 5 rfl) (λc K z=>E c z)) ?_)|refine fY (fF rfl (nu (a) _ rfl func223 (by kernel_rfl) (c8 6 rfl) (λc K z=>E c z)) ?_))
      rintro _ _ w7 ⟨_,rfl,Q,rfl,rfl,X⟩;refine⟨_,de [1,1] _ rfl,?_⟩;refine cQ ?_
      (first|refine fY (lK rfl (O6 (us:=[_,_,_]) rfl rfl rfl (by kernel_rfl) (by simp[Value.oneCell']) rfl rfl) ?_)|refine fY (lK rfl (O7 (us:=[_,_,_]) rfl rfl rfl (by kernel_rfl) (by simp[Value.oneCell']) rfl rfl) ?_)|refine fY (lK rfl (O8 (z:=[_,_,_]) rfl rfl rfl (by kernel_rfl) (by simp[Value.oneCell']) rfl rfl) ?_)|refine fY (lK rfl (O9 (z:=[_,_,_]) rfl rfl rfl (by kernel_rfl) (by simp[Value.oneCell']) rfl rfl) ?_))
      rintro _ _ ap rfl;refine⟨_,cD _,?_⟩;refine Y ?_;refine oy [0,9,10] [0,0,1,0,0,0,0,0,0] ?_;exact⟨W,Q,rfl,rfl,X⟩
    rintro _ _ aC ⟨b9,Q,rfl,rfl,X⟩;refine N [0,9,10,97] ?_;refine cQ ?_;refine eO 7 [5] [_,_] [_,_,_,_,_,_,_] (de [1,1] _ rfl) λaU=>?_;refine cL ?_;refine cN rfl (di 1 (b:=dy (some S))) ?_;refine eh rfl (ft (P) [_,_,_,_,_,_,_,_] func220 (c8 4 rfl) (λc K z=>Vw S s1 (by omega) (by omega) aj z y6 aK (by omega))) ?_;rintro _ _ a2 ⟨_,rfl,aQ,rfl,rfl,aB⟩;refine⟨_,de [1,1] _ rfl,?_⟩;refine N [4] ?_;refine cK [0,3,1,3,3,3] ?_;refine dG (d:=[]) [_,_,_,_,_,_] ?_;refine dP results172 ?_;exact⟨Q,aQ,rfl,rfl,by rw[R];exact X,by rw[R];exact aB⟩
end
structure FM (c:PC)(b:PT)(a:TD):Prop where
 keys:(a.hm.map Prod.fst).Perm (cE b.T.L++cE b.X)
 rows:a.rows.length=c.depth
section
variable{q:MC}{k:jO}{l:jX}{o p:Nat}{b:PC}{g i:M}{j:TD}{f:O}{h e c d:V}{a:U}{n:TA}{m:PT}{r:U->Nat}
def akF (A:Nat)(Q:b.Ok)(hI:uW b m r)(al:uX b n m e c d)(hB:IP q b k l)(hd:FM b m j)(hm:fQ o p q (j.hs++k) (j.ks++l) h)(D:a≠ByteArray.empty)(ay:a.size<=q.lr)(hv:1<=A)(B:m.sum+A<=9223372036854775808)(h0:atV f [h,cz (ic o p b g i n j e c d)]):aAg 128 [Z n.t,.string a,J A] f [h,cz (ic o p b g i n j e c d)] λu H=>∃(an:V)(d':TD)(ai P E:V),u=F 0/\H=[an,cz (ic o p b g i n d' ai P E)]/\uX b n (m.add b a A) ai P E/\FM b (m.add b a A) d'/\fQ o p q (d'.hs++k) (d'.ks++l) an:=by
 have aO:=hB.km;have T:a.size<=255:=by omega
 have ax:1<=a.size:=by
  rcases Bc a.size with v|v
  .exact absurd (ByteArray.size_eq_zero_iff.1 v) D
  .exact v
 have y:=hI.x;have S:=y.nD;have aB:=y.sN;have aN:=Q.exact;have af:=hI.sk.Kr (k:=a) Q.depth.1;obtain⟨G,z,ad,w⟩:=m;dsimp only at hI B y S aB af;have aJ:=y.dY;have aM:=al;obtain⟨hT,hE,hS⟩:=al;dsimp only at hT hE hS;refine hJ func128 h0 ?_;refine Pw 1 func166 (λf R s=>MQ s) ?_;rintro _ _ aK ⟨rfl,rfl⟩;refine I (wD rfl) ?_;refine N [0,1,2,11] ?_;refine cL ?_;refine I (cU (oO rfl rfl) (z:=.bool false) (dq Value.bool (fL D))) ?_;refine N [0,1,2,15] ?_;refine N [0,1,2,18] ?_;refine N [0,1,2,22] ?_;refine cC ?_;refine eu (ic o p b g i n j e c d) ?_;refine Pw 3 func167 (λf R s=>Tx Q hS s) ?_;rintro _ _ aL ⟨rfl,rfl⟩;refine Y ?_;refine dw (eB func121 (λf R=>zV w A f (by omega) (by omega))) ?_;rw[gb B];rintro _ _ w1 ⟨_,rfl,rfl,rfl⟩;refine I (wD rfl) ?_;refine cB ?_;refine cY (d) [_,_,_,_,_,_] func168 (cD _) (λf R s=>ajz Q hS s (by omega) D hv B af) ?_;rintro _ _ w2 ⟨E,rfl,rfl,am⟩;refine cB ?_;refine cY (c) [_,_,_,_,_,_] func169 (c8 3 rfl) (λf R s=>atJ S (by omega) hE s) ?_;rintro _ _ w3 ⟨rfl,K,aI,rfl,av,aw⟩;refine NV [vE,J 0,J 0] λaG aH=>?_;refine cO 0 λaF=>?_;refine fP (λae=>?_) λae=>?_
 .have hf:=av ae;have ao:K.2.1+K.2.2+A<=9223372036854775808:=by have:=y.one K (ki.2 (.inr (KO hf)));omega
  have ah:PT.add b ⟨G,z,ad,w⟩ a A=⟨G,z.map (λK=>if K.1=a then(a,K.2.1+A,K.2.2)else K),lZ (b.at a) (qb (b.at a) ad+A) 0 ad,w+A⟩:=by unfold PT.add;dsimp only;rw[hf]
  refine iq ?_;refine cY (c) [_,_,_,_,_,_,_] func170 (c8 1 rfl) (λf R s=>atG A K S (by omega) hE s hf ao) ?_;rintro _ _ w4 ⟨P,rfl,rfl,ap⟩;refine N [6] ?_;refine cK [3,3,0,1,1,1,1] ?_;refine dG [_,_,_,_,_,_] ?_;refine cK [1,0] ?_;refine dP results128 ?_;rw[ah];refine⟨h,j,e,P,E,rfl,rfl,⟨hT,ap,am⟩,⟨?_,hd.rows⟩,hm⟩;have:cE (z.map (λK=>if K.1=a then(a,K.2.1+A,K.2.2)else K))=cE z:=by
   unfold cE;rw[jj];refine k5 λx _=>?_;show(if x.1=a then(a,x.2.1+A,x.2.2)else x).1=x.1;split
   .rename_i v;exact v.symm
   .rfl
  dsimp only;rw[this];exact hd.keys
 .have ag:a∉cE z:=aw (by simpa using ae);have ah:PT.add b ⟨G,z,ad,w⟩ a A=⟨(m8 b (G.add b.mode b.et a A) z a).1,(m8 b (G.add b.mode b.et a A) z a).2,lZ (b.at a) (qb (b.at a) ad+A) 0 ad,w+A⟩:=by unfold PT.add;dsimp only;rw[rq.2 ag]
  have W:=y.Up Q hv D T ag;have ak:(cE (G.add b.mode b.et a A).L++cE z).length<=b.et+b.exact:=by have:=W.len;rw[cX,cE,cE,dL,dL];omega
  have aA:∀ab∈cE G.L,ab.size<=255:=λab hq=>by obtain⟨K,hy,rfl⟩:=dz.1 hq;exact(y.one (iM b.mode G.base K) (ki.2 (.inl ⟨K,hy,rfl⟩))).2.2.2.2.2.2
  refine cQ ?_;refine cK [3,3,1,1,1,1,1] ?_;refine dG [_,_,_,_,_,_] ?_;refine cL ?_;refine dw (ox [_,_] [] func171 (de [1,0] _ rfl) (λf R s=>alk (X:=cE z) A Q hT hB hm D ax ay (by omega) y.len (by omega) hd.keys y.nd W.nd ak ag aA s)) ?_;rintro _ _ w5 ⟨_,rfl,aE,aP,ai,rfl,rfl,ar,az,aj⟩;refine Pw 1 func172 (λf R s=>alb Q W B T ar hE s) ?_;rintro _ _ w6 ⟨aD,aC,rfl,rfl,au,aq⟩;refine N [6] ?_;refine cK [1,0] ?_;refine dP results128 ?_;rw[ah];refine⟨aE,⟨j.rows,aP⟩,aD,aC,E,rfl,rfl,⟨au,aq,am⟩,⟨?_,hd.rows⟩,az⟩;exact aj.trans (ahJ (Ej W.nd) (y.nD.imp λv=>pj v)).symm
end
structure qm (lt:En->En->Bool):Prop where
 rj:∀a,lt a a=false
 tr:∀{a b c:En},lt a b=true->lt b c=true->lt a c=true
 dY:∀{a b:En},a.1≠b.1->lt a b=false->lt b a=true
def iF (lt:En->En->Bool)(c:C En):Prop:=c.Pairwise λa b=>lt a b=true
def rW (f:dX)(a:fR)(lt:En->En->Bool):Prop:=∀(c d:En)(h:O),fz f a [.agg (dy (some c)).toArray,.agg (dy (some d)).toArray] h cW λg e=>(∃b:Int,g=F b/\decide (b<0)=lt c d)/\e=[]
def Gp (a d:C En)(c:En){b:Nat}(e:a.length=b):((dn (a++c::d)).drop (0+b*3)).take 3=dy (some c):=by subst e;exact tZ (by rw[nm (dT _),nK];rfl)
def Kk (a b:C En)(d e:En){c:Nat}(f:a.length=c):(dn (a++d::b)).take (0+c*3)++dy (some e)++(dn (a++d::b)).drop (0+c*3+3)=dn (a++e::b):=by subst f;rw[dU,BJ,oF,show a.length*3+3=(a.length+1)*3 by omega,DP,x9,Pm,dJ];congr 3;rw[<-xy,kZ];rfl
def My {lt:En->En->Bool}{f g:C En}{h:En}(c:iF lt (f++g))(d:∀i∈f,lt i h=true)(e:∀i∈g,lt h i=true):iF lt (f++h::g):=by
 unfold iF at*;rw[mU]at c|-;refine⟨c.1,jD.2 ⟨e,c.2.1⟩,λj b k a=>?_⟩;rcases dh.1 a with rfl|a
 .exact d j b
 .exact c.2.2 j b k a
set_option maxRecDepth 100000 in
def VP:(∀(lt:En->En->Bool)(r:qm lt){o:fR}{j:Func}(Q:prog.funcs[o]? =some j)(L:(j.body.isNone,j.name== "runtime.NumGoroutine")=(false,false))(B:rW prog o lt)(y cap g f X:Nat)(i b t:C En)(T:O)(h0:0<b.length)(hN:g=i.length+b.length+t.length)(ae:g<=1000000)(A:f=i.length)(hb:X=i.length+b.length)(R:(cE b).Nodup)(ah:Hl T (row (vS y g cap) 302 3 g (dn (i++b++t)))),Sr 297 [vS y g cap,F f,F X,.func (.func o) #[] #[]] T (row (vS y g cap) 302 3 g (dn (i++b++t))) λ_ W=>∃w,W=[row (vS y g cap) 302 3 g (dn (i++w++t))]/\w.Perm b/\iF lt w)/\(∀(lt:En->En->Bool)(r:qm lt){o:fR}{j:Func}(Q:prog.funcs[o]? =some j)(L:(j.body.isNone,j.name== "runtime.NumGoroutine")=(false,false))(B:rW prog o lt)(y cap g f X:Nat)(i b t:C En)(T:O)(h0:0<b.length)(hN:g=i.length+b.length+t.length)(ae:g<=1000000)(A:f=i.length)(hb:X=i.length+b.length)(R:(cE b).Nodup)(ah:Hl T (row (vS y g cap) 48 3 g (dn (i++b++t)))),Sr 305 [vS y g cap,F f,F X,.func (.func o) #[] #[]] T (row (vS y g cap) 48 3 g (dn (i++b++t))) λ_ W=>∃w,W=[row (vS y g cap) 48 3 g (dn (i++w++t))]/\w.Perm b/\iF lt w):=by
 refine⟨fa @results297 (fa @underlying302 (oX 302 (fa @func297 ?_))),fa @results305 (fa @underlying48 (oX 48 (fa @func305 ?_)))⟩
 all_goals
  intro au S _ av aw lt r o j Q L B y cap g f X i b t T h0 hN ae A hb R ah;refine sP au ah ?_;refine K4 [0,1,2,3,8] ?_;refine dB (λk m W T=>∃(q:Nat)(ab:C En),m=[(0,vS y g cap),(1,F f),(2,F X),(3,.func (.func o) #[] #[]),(8,F ((f+q:Nat):Int))]/\W=[row (vS y g cap) S 3 g (dn (i++(ab++b.drop q)++t))]/\ab.length=q/\1<=q/\k+q=b.length/\ab.Perm (b.take q)/\iF lt ab) (b.length-1) ⟨1,b.take 1,rfl,by rw[gJ],by rw[eD];omega,by omega,by omega,cD _,by obtain⟨x,w,rfl⟩:=yZ h0;exact r4 _ _⟩ ?_;rintro k _ _ w1 ⟨q,ab,rfl,rfl,ao,az,hk,l,u⟩;refine cZ (λaj=>?_) λaj=>?_
  .obtain⟨n,ht⟩:∃n,b[q]? =some n:=⟨b[q]'(by omega),dr (by omega)⟩;have D:b.drop q=n::b.drop (q+1):=by obtain⟨r,he⟩:=da.1 ht;rw[<-he,jP r]
   have an:∀d∈ab,d.1≠n.1:=λd hy e=>by
    have h1:(cE (b.take q++n::b.drop (q+1))).Nodup:=by rw[<-D,gJ];exact R
    exact(wY h1).1 (by rw[<-e];exact gu (l.mem_iff.1 hy))
   refine K4 [0,1,2,3,8,9] ?_;refine dB (λv m W T=>∃(E H:C En),m=[(0,vS y g cap),(1,F f),(2,F X),(3,.func (.func o) #[] #[]),(8,F ((f+q:Nat):Int)),(9,F ((f+v:Nat):Int))]/\W=[row (vS y g cap) S 3 g (dn ((i++E)++n::(H++(b.drop (q+1)++t))))]/\E.length=v/\E++H=ab/\∀x∈H,lt n x=true) q ⟨ab,[],rfl,by rw[D];simp,ao,by simp,by simp⟩ ?_;rintro v _ _ w2 ⟨E,H,rfl,rfl,P,p,hr⟩;have ai:(i++E).length=f+v:=by rw[cX,P,A]
   have aA:v+1<=b.length:=by have:=dq List.length p;rw[cX]at this;omega
   refine cC ?_;refine eS (λm W w'=>∃c:Bool,m=[(0,vS y g cap),(1,F f),(2,F X),(3,.func (.func o) #[] #[]),(8,F ((f+q:Nat):Int)),(9,F ((f+v:Nat):Int)),(34,.bool c)]/\W=[row (vS y g cap) S 3 g (dn ((i++E)++n::(H++(b.drop (q+1)++t))))]/\(c=true->∃a d,E=a++[d]/\lt n d=true)/\(c=false->∀d∈E,lt d n=true)) ?_ ?_
   .by_cases ad:(f:Int)<((f+v:Nat):Int)
    .obtain⟨a,d,rfl⟩:∃a d,E=a++[d]:=⟨E.dropLast,E.getLast (by rintro rfl;simp at P;omega),(CT _).symm⟩;have ap:a.length+1=v:=by simpa using P
     refine kB 17 [14] λar=>?_;refine cC ?_;refine cN rfl (cU (gA rfl rfl) (dq Value.bool (gb ad))) ?_;refine cL ?_;refine fX rfl rfl rfl (cR (ab:=f+v)) ?_;refine fX rfl rfl rfl (je 0 (b:=dy (some n)) (hv:=Gp _ _ _ ai)) ?_;refine cQ ?_;refine fX rfl rfl rfl (cR (ab:=f+a.length) (hi:=by omega)) ?_;refine fX rfl rfl rfl (je 0 (b:=dy (some d)) (hv:=by rw[<-dJ,dJ,nJ];exact Gp (i++a) _ d (by rw[cX,A]))) ?_;refine Og rfl rfl rfl (q7 [] _ rfl rfl Q L (cD _) (λT hh _=>by rw[so];exact B n d T)) ?_;rintro _ _ w4 ⟨_,rfl,⟨n4,rfl,am⟩,rfl⟩;refine⟨_,cD _,?_⟩;refine fX rfl rfl rfl (cU (z:=.bool (lt n d)) (gN rfl rfl) (dq Value.bool am)) ?_;refine cN rfl (mC rfl rfl rfl) ?_;refine iK [0,1,2,3,8,9,34] ?_;refine⟨lt n d,rfl,rfl,λh=>⟨a,d,rfl,h⟩,λh z G=>?_⟩;have af:lt d n=true:=r.dY (λe=>an d (by rw[<-p];simp) e.symm) h;rcases dV.1 G with G|G
     .rw[<-p]at u;have:=(mU.1 (mU.1 u).1).2.2 z G d (fI.2 rfl);exact r.tr this af
     .rw[fI]at G;subst G;exact af
    .refine kB 17 [14] λar=>?_;refine cC ?_;refine cN rfl (cU (gA rfl rfl) (dq Value.bool (fL ad))) ?_;refine fh ?_;refine cC ?_;refine Am rfl rfl rfl ?_;refine Y ?_;refine cN rfl (mC rfl rfl rfl) ?_;refine iK [0,1,2,3,8,9,34] ?_;refine⟨false,rfl,rfl,λh=>(by cases h),λ_ d hy=>?_⟩;have:E=[]:=ll (by omega);subst this;cases hy
   rintro _ _ w5 ⟨c,rfl,rfl,al,ak⟩;refine kL rfl (λK=>?_) (λK=>?_)
   .obtain⟨a,d,rfl,aq⟩:=al K;have ap:a.length+1=v:=by simpa using P
    have s:(i++a).length=f+a.length:=by rw[cX,A]
    rw[<-dJ,dJ (i++a),nJ];refine cQ ?_;refine mm 18 [15,17] [(_,some 15)] [] (cD _) λaB=>?_;refine iq ?_;refine ew rfl (cR (ab:=f+a.length) (hi:=by omega)) ?_;refine ew rfl (je 0 (b:=dy (some d)) (hv:=Gp _ _ d s)) ?_;refine cC ?_;refine ew rfl (cR (ab:=f+v)) ?_;refine ew rfl (Gu (D:=dy (some n)) 0 rfl av rfl (by kernel_rfl) rfl (by
     have:=Gp ((i++a)++[d]) (H++(b.drop (q+1)++t)) n (b:=f+v) (by rw[cX,s,lD];omega)
     rwa [dJ,nJ]at this)) ?_
    refine ew rfl (cR (ab:=f+v)) ?_;refine jC rfl (aam (B:=dy (some d)) (G:=dn ((i++a)++d::d::(H++(b.drop (q+1)++t)))) rfl rfl rfl (by kernel_rfl) (by simp[dy,Value.oneCell']) (by rw[pX,tY];simp;omega) (by have:=Kk ((i++a)++[d]) (H++(b.drop (q+1)++t)) n d (c:=f+v) (by rw[cX,s,lD];omega);rw[dJ (i++a),dJ (i++a),nJ,nJ]at this;exact this)) ?_;rintro _ _ ax rfl;refine⟨_,cD _,?_⟩;refine ew rfl (cR (ab:=f+a.length) (hi:=by omega)) ?_;refine jC rfl (fK 0 (q:=dy (some n)) (y:=dn ((i++a)++n::d::(H++(b.drop (q+1)++t)))) (h1:=by simp[dy,Value.oneCell']) (hl:=by rw[pX,tY];simp;omega) (ae:=Kk (i++a) _ d n s)) ?_;rintro _ _ ay rfl;refine⟨_,cD _,?_⟩;refine ir [0,1,2,3,8,9] ?_;refine⟨v-1,by omega,a,d::H,?_,rfl,by omega,by rw[<-p];simp,?_⟩
    .rw[show((f+(v-1):Nat):Int)=((f+v:Nat):Int)-1 by omega]
    .intro x hx;rcases dh.1 hx with rfl|hx
     .exact aq
     .exact hr x hx
   .have ag:=ak (by simpa using K);refine dI ?_;refine N [0,1,2,3,8] ?_;refine⟨k-1,by omega,q+1,E++n::H,rfl,by simp,?_,by omega,by omega,?_,?_⟩
    .have:=dq List.length p;simp at this|-;omega
    .rw[ia,ht];refine List.Perm.trans ?_ ((l.append_right [n]));rw[<-p,dJ];exact vX E (pK n H).symm
    .rw[<-p]at u;exact My u ag hr
  .rw[gS (by omega)]at l;rw[qn (by omega),eN];refine dI ?_;refine⟨_,_,λf A hh=>im (p:=[]) aw rfl f A _,gq _,?_⟩;exact⟨ab,rfl,l,u⟩
abbrev acx {lt:En->En->Bool}:=@sV _ _ VP lt
abbrev acz {lt:En->En->Bool}:=@tE _ _ VP lt
def Ek (a b:En):Bool:=eI a.1 b.1
def ack (d:M)(a:M)(e:O):Sn 297 [d,F 0,F 0,a] e λ_ b=>b=[]:=by refine sP func297 hS ?_;refine K4 [0,1,2,3,8] ?_;refine dB (λh i b e=>i=[(0,d),(1,F 0),(2,F 0),(3,a),(8,F 1)]/\b=[]) 0 ⟨rfl,rfl⟩ ?_;rintro h _ _ j ⟨rfl,rfl⟩;refine N [0,1,2,3,8,14] ?_;refine Y ?_;refine dI ?_;refine⟨_,_,λf c g=>im (p:=[]) results297 rfl f c _,gq _,?_⟩;rfl
section
variable{lt:En->En->Bool}{d:fR}{b:Func}{a:C En}{c:O}{e cap:Nat}
def ahE (h:Int)(m:qm lt)(l:prog.funcs[d]? =some b)(k:(b.body.isNone,b.name== "runtime.NumGoroutine")=(false,false))(i:rW prog d lt)(n:(cE a).Nodup)(h0:0<a.length)(v:a.length<=12)(s:Hl c (row (vS e a.length cap) 302 3 a.length (dn a))):Sr 271 [vS e a.length cap,F 0,F a.length,F h,.func (.func d) #[] #[]] c (row (vS e a.length cap) 302 3 a.length (dn a)) λ_ q=>∃f,q=[row (vS e a.length cap) 302 3 a.length (dn f)]/\f.Perm a/\iF lt f:=by
 have g:=λ(j:O) (p:Hl j (row (vS e a.length cap) 302 3 a.length (dn a)))=>
  acx m l k i e cap a.length 0 a.length [] a [] j h0 (by simp) (by omega) rfl (by simp) n (by simpa using p)
 simp only[kF,eN]at g;refine Aq func271 s ?_;refine K4 [0,1,2,3,4,10,11] ?_;refine dB (λw x q c=>x=[(0,vS e a.length cap),(1,F 0),(2,F a.length),(3,F h),(4,.func (.func d) #[] #[]),(10,.bool true),(11,.bool true)]/\q=[row (vS e a.length cap) 302 3 a.length (dn a)]) 0 ⟨rfl,rfl⟩ ?_;rintro w _ _ j ⟨rfl,rfl⟩;refine Pw 0 func297 (λc u o=>g _ o) ?_;rintro _ _ y ⟨f,rfl,r,t⟩;refine db results271 ?_;exact⟨f,rfl,r,t⟩
def ahD (i g:M)(f:Int)(c:O):Sn 271 [i,F 0,F 0,F f,g] c λ_ h=>h=[]:=by refine Aq func271 hS ?_;refine K4 [0,1,2,3,4,10,11] ?_;refine dB (λk l h c=>l=[(0,i),(1,F 0),(2,F 0),(3,F f),(4,g),(10,.bool true),(11,.bool true)]/\h=[]) 0 ⟨rfl,rfl⟩ ?_;rintro k _ _ m ⟨rfl,rfl⟩;refine Ku func297 (λc j=>ack i g c) ?_;rintro _ _ n rfl;refine db results271 ?_;rfl
def ajb (k:cG Addr)(cap:Nat)(i:M)(c:O):fz prog 235 [.slice k 0 cap,i] c cW λ_ m=>m=[]:=by refine dR func235 hS ?_;refine cB ?_;refine dd func151 (λc g=>Ce 0 c (by omega)) ?_;rintro _ _ n ⟨h,rfl,rfl⟩;refine Ku func271 (λc g=>ahD _ _ h c) ?_;rintro _ _ o rfl;refine cH [] ?_;refine⟨_,_,λf j g=>im (p:=[]) results235 rfl f j _,gq _,?_⟩;rfl
def ajc (m:qm lt)(j:prog.funcs[d]? =some b)(i:(b.body.isNone,b.name== "runtime.NumGoroutine")=(false,false))(h:rW prog d lt)(n:(cE a).Nodup)(h0:0<a.length)(r:a.length<=12)(t:Hl c (row (vS e a.length cap) 302 3 a.length (dn a))):Sr 235 [vS e a.length cap,.func (.func d) #[] #[]] c (row (vS e a.length cap) 302 3 a.length (dn a)) λ_ v=>∃f,v=[row (vS e a.length cap) 302 3 a.length (dn f)]/\f.Perm a/\iF lt f:=by refine dR func235 t ?_;refine cB ?_;refine dd func151 (λc k=>Ce a.length c (by omega)) ?_;rintro _ _ w ⟨p,rfl,rfl⟩;refine Pw 0 func271 (λc k o=>ahE p m j i h n h0 r o) ?_;rintro _ _ x ⟨f,rfl,s,u⟩;refine cH [] ?_;refine⟨_,_,λg q k=>im (p:=[]) results235 rfl g q _,gq _,?_⟩;exact⟨f,rfl,s,u⟩
end
def akY:rW prog 236 Ek:=λg h f=>by refine dR func236 hS ?_;refine Mf λa c=>?_;refine dK λb d=>?_;refine Ku func112 (λf i=>DF.Gc g.1 h.1 f) ?_;rintro _ _ e ⟨rfl,rfl⟩;refine N [4] ?_;refine cK [] ?_;refine dP results236 ?_;exact⟨⟨_,rfl,zr g.1 h.1⟩,rfl⟩
def LQ:qm Ek:=⟨λe=>yr e.1,λc d=>sC c d,λa f=>by
 unfold Ek at f|-;rename_i e g;cases b:eI g.1 e.1 with
 |true=>rfl
 |false=>exact absurd (uk f b) a⟩
def H9 {lt:En->En->Bool}(e:qm lt):∀{f g:C En},iF lt f->iF lt g->f.Perm g->f=g
 |[],g,_,_,a=>a.nil_eq
 |i::f,[],_,_,a=>a.eq_nil
 |i::f,k::g,b,c,a=>by
  unfold iF at b c;rw[jD]at b c;have h:i=k:=by
   rcases dh.1 (a.mem_iff.1 (dQ ..))with j|j
   .exact j
   rcases dh.1 (a.mem_iff.2 (dQ ..))with d|d
   .exact d.symm
   have:=e.tr (c.1 i j) (b.1 k d);rw[e.rj]at this;cases this
  subst h;rw[H9 e b.2 c.2 ((List.perm_cons i).1 a)]
def TR {b:C En}(a:gd (cE b)):iF Ek b:=by unfold gd cE at a;rw[oE]at a;exact a
def abR (j:Nat)(t:O)(r:j<=1000000):Sn 269 [vN,F j] t λc k=>k=[row c 302 3 0 []]:=by
 refine dR func269 hS ?_;refine cB ?_;refine I (Ky rfl underlying203) ?_;refine cQ ?_;refine I (cU (z:=F j) (Px rfl rfl) (by first|rfl|(congr 1;omega))) ?_;refine N [0,1] ?_;refine N [0,1,16] ?_;refine eS (λs k p=>∃c,s=[(0,c)]/\(c=vN/\k=[]\/∃(d a:Nat)(b:C M),c=vS d 0 a/\k=[cF d b 302]/\a<=maxLen/\b.length=a*3)) ?_ ?_
 .refine jc rfl (λe=>?_) (λe=>?_)
  .have h:0<j:=by omega
   refine cQ ?_;refine I (Ky rfl underlying203) ?_;refine I (qB 3 (w:=0) (x:=0) rfl underlying203 (by kernel_rfl) rfl ⟨_,rfl⟩) ?_;refine Y ?_;refine dw (aac (t:=j) sH rfl rfl underlying3 h (by omega) (by omega)) ?_;rintro _ _ u ⟨d,a,b,rfl,rfl,q,f,i⟩;refine cC ?_;refine I (cU (z:=vS d 0 a) (oP 3 (w:=0) (A:=0) rfl underlying203 (by kernel_rfl) rfl ⟨_,rfl⟩) (by simp)) ?_;refine N [0] ?_;exact⟨_,rfl,.inr ⟨_,_,_,rfl,rfl,f,i⟩⟩
  .refine kw [0] rfl (iY ?_);exact⟨_,rfl,.inl ⟨rfl,rfl⟩⟩
 .rintro _ _ v ⟨c,rfl,o⟩;refine as2 (w:=[row c 302 3 0 []]) (λp g=>?_) ?_
  .rcases o with⟨rfl,rfl⟩|⟨d,a,b,rfl,rfl,m,n⟩
   .exact g.Cm _ _
   .exact g.N4 (gK _) m n (by simp)
  refine db results269 ?_;rfl
def s9 (a:C (M×C En))(b:Nat):Nat:=((a.take b).map λc=>c.2.length).sum
def Om {a:C (M×C En)}{b:Nat}{c:M×C En}(d:a[b]? =some c):s9 a (b+1)=s9 a b+c.2.length:=by unfold s9;rw[ia,d];simp
def Y6 (d cap:Nat)(a:C (M×C En))(g:O)(A:Rd g cW 1 (vS d a.length cap) a.length (a.map Prod.fst))(E:∀e∈a,Rd g cW 3 e.1 e.2.length (dn e.2))(L:a.length<=1000)(f:∀b≤a.length,s9 a b<=10000):Sn 233 [vS d a.length cap] g λu k=>k=[row u 302 3 (a.flatMap Prod.snd).length (dn (a.flatMap Prod.snd))]:=by
 have h:∀{b:Nat}{e:M×C En},a[b]? =some e->g.cell? ⟨d,0+b*1,.none⟩=some e.1:=λ{b e} c=>by obtain⟨P,o,v,_,y⟩:=A.at_ (da.1 c).1;injection v with v;injection v with w x;subst w;subst x;rw[fT];exact y b e.1 (by rw[eK,c];rfl)
 refine dS func233 hS ?_;refine K4 [0,3,9,10,11] ?_;refine dB (λl t k g=>∃b:Nat,t=[(0,vS d a.length cap),(3,F (s9 a b:Nat)),(9,vS d a.length cap),(10,F a.length),(11,F b)]/\k=[]/\l+b=a.length) a.length ⟨0,rfl,rfl,rfl⟩ ?_;rintro l _ _ R ⟨b,rfl,rfl,z⟩;refine cZ (λp=>?_) λp=>?_
 .obtain⟨e,c⟩:∃e,a[b]? =some e:=⟨a[b]'(by omega),dr (by omega)⟩;obtain⟨B,m⟩:=e;obtain⟨H,K,j,_,_,_⟩:=E _ (eH c);dsimp only at j;subst j;have i:=Om c;have n:=f (b+1) (by omega);refine cC ?_;refine eS (λt k Q=>t=[(0,vS d a.length cap),(3,F (s9 a (b+1):Nat)),(9,vS d a.length cap),(10,F a.length),(11,F b)]/\k=[]) ?_ ?_
  .refine cQ ?_;refine I (cR (ab:=b)) ?_;refine I (jd (hc:=h c)) ?_;refine N [0,3,5,9,10,11] ?_;refine df ?_;refine I (cU (z:=F (s9 a (b+1):Nat)) (kH rfl rfl (by dsimp only at i;omega)) (by rw[i];congr 1)) ?_;refine N [0,3,9,10,11] ?_;refine N [0,3,9,10,11,20] ?_;refine Y ?_;refine kw [0,3,9,10,11] rfl (iY ?_);exact⟨rfl,rfl⟩
  .rintro _ _ X ⟨rfl,rfl⟩;refine N [0,3,9,10,11] ?_;exact⟨l-1,by omega,b+1,rfl,rfl,by omega⟩
 .refine dI ?_;refine cQ ?_;refine dd func269 (λg r=>abR (s9 a b) g (by have:=f b (by omega);omega)) ?_;rintro D _ S rfl;obtain rfl:b=a.length:=by omega
  refine K4 [6,25,26,27] ?_;refine dB (λl t k g=>∃(b:Nat)(u:M),t=[(6,u),(25,vS d a.length cap),(26,F a.length),(27,F b)]/\k=[row u 302 3 ((a.take b).flatMap Prod.snd).length (dn ((a.take b).flatMap Prod.snd))]/\l+b=a.length) a.length ⟨0,D,rfl,rfl,rfl⟩ ?_;rintro l _ _ T ⟨b,u,rfl,rfl,z⟩;refine cZ (λq=>?_) λq=>?_
  .obtain⟨e,c⟩:∃e,a[b]? =some e:=⟨a[b]'(by omega),dr (by omega)⟩;obtain⟨B,m⟩:=e;have s:=E _ (eH c);have n:=f (b+1) (by omega);have G:((a.take b).flatMap Prod.snd).length+m.length=s9 a (b+1):=by rw[Om c,List.length_flatMap];rfl
   refine df ?_;refine I (cR (ab:=b)) ?_;refine I (jd (hc:=h c)) ?_;refine cB ?_;refine dw (DD sH rfl rfl (λg r=>s.dx r) (ya m) (by dsimp only;omega) (by dsimp only;omega)) ?_;rintro u2 _ W rfl;refine ir [6,25,26,27] ?_;refine⟨l-1,by omega,b+1,u2,rfl,?_,by omega⟩;rw[ia,c];simp only[Option.toList,j9,ji,CX,eN,cX,x9]
  .obtain rfl:b=a.length:=by omega
   rw[j6];refine dI ?_;refine db results233 ?_;rfl
def fz.ea {s:dX}{t:fR}{args:C M}{e:O}{l:Nat->Prop}{g:V}{m i:C V}{f:M->C V->Prop}(q:cI e l [cz m] e)(k:m.Perm (g::i))(v:Hl e g->fz s t args e g.fq f)(o:∀h b,f h b->∃d,b=d++[g]):fz s t args e l λh r=>∃d,f h (d++[g])/\r=cz m::d:=by
 have j:cI e l ([g]++i) e:=by have a:=cI.cz.2 q;rw[eN]at a;exact a.perm k
 have a:=v (by have:=B2 j;rwa [ud]at this);rw[<-ud]at a;refine nY (fz.frame j a) λ_ _ ⟨h,r,n,p,b,c,u⟩=>?_;obtain⟨d,rfl⟩:=o h b c;subst u;refine⟨h,_,n,?_,d,c,rfl⟩;refine cI.cz.1 (p.perm ?_);rw[dJ];exact lF.trans (k.symm.append_right d)
def Yu (i j:Int)(f g:M)(d:∃a c b,f=.slice a c b)(e:∃a c b,g=.slice a c b)(h:O):(Instr.build 206 [(0,J i),(1,f),(2,J j),(3,g)].toArray).run prog h=.ok (PE [J i,f,J j,g]) h:=by obtain⟨a,c,b,rfl⟩:=d;obtain⟨k,m,l,rfl⟩:=e;kernel_rfl
def adh (f g:M)(d:∃a c b,f=.slice a c b)(e:∃a c b,g=.slice a c b)(h:O):(Instr.buildSlice 427 2 [(0,f),(1,g)].toArray).run prog h=.ok (vS h.heap.size 2 2) (h.alloc (.cells [f,g].toArray 203)):=by obtain⟨a,c,b,rfl⟩:=d;obtain⟨i,k,j,rfl⟩:=e;kernel_rfl
def ajd {lt:En->En->Bool}{b:fR}{a:Func}{e:C En}{o:Nat}{t:O}{p:M}(k:qm lt)(j:prog.funcs[b]? =some a)(h:(a.body.isNone,a.name== "runtime.NumGoroutine")=(false,false))(d:rW prog b lt)(l:(cE e).Nodup)(m:o=e.length)(s:e.length<=12)(c:Hl t (row p 302 3 o (dn e))):Sr 235 [p,.func (.func b) #[] #[]] t (row p 302 3 o (dn e)) λ_ w=>∃f,w=[row p 302 3 o (dn f)]/\f.Perm e/\iF lt f:=by
 subst m;rcases Bc e.length with n|n
 .obtain rfl:=ll n;obtain⟨v,u,rfl⟩:=fS c (p:=0) rfl;have g:=ajb v u (.func (.func b) #[] #[]) t;rw[<-so]at g;exact(fz.frame (Hc:=[]) c g).mono λ_ _ ⟨_,q,r⟩=>⟨[],by rw[r,q];rfl,cD _,List.Pairwise.nil⟩
 .obtain⟨x,u,rfl⟩:=fs c (q:=0) rfl n;exact ajc k j h d l n s c
section
variable{j l:Nat}{b:PC}{f g:M}{k:TD}{h:O}{d e c:V}{i:TA}{a:PT}
def atH {m:U->Nat}(n:jy b a.T a.X a.sum m):(cE (ml b a.T a.X)).Nodup:=by rw[Gn];exact n.nd
def ak1 {z:U->Nat}(r:b.Ok)(hI:uW b a z)(hO:uX b i a d e c)(h0:Hl h (cz (ic j l b f g i k d e c))):Sr 175 [Z i.t] h (cz (ic j l b f g i k d e c)) λu H=>H=[cz (ic j l b f g i k d e c),row u 302 3 (mh (ml b a.T a.X)).length (dn (mh (ml b a.T a.X)))]/\∃E n b,u=.slice E n b:=by
 have s:=hI.x;have A:=atH s;obtain⟨hT,hE,hS⟩:=hO;have v:(mh (a.T.L.map (iM b.mode a.T.base))).length=a.T.L.length:=by rw[(xm _).length_eq,dL]
 have S:∀(E R:M)(m:Nat),m<=2->s9 [(E,mh (a.T.L.map (iM b.mode a.T.base))),(R,a.X)] m<=10000:=λE R m P=>by
  have ad:=s.len;have ae:=s.sN;have h3:=r.et;have h4:=r.exact;rcases m with _|_|_|m
  .exact gK _
  .simp[s9,v];omega
  .simp[s9,v];omega
  .omega
 have K:∀E R:M,([(E,mh (a.T.L.map (iM b.mode a.T.base))),(R,a.X)]:C (M×C En)).flatMap Prod.snd=mh (a.T.L.map (iM b.mode a.T.base))++a.X:=λE R=>by simp
 have D:(mh (a.T.L.map (iM b.mode a.T.base))++a.X).Perm (ml b a.T a.X):=(xm _).append_right _;have Q:(cE (mh (a.T.L.map (iM b.mode a.T.base))++a.X)).Nodup:=(D.map Prod.fst).nodup_iff.2 A;have w:(mh (a.T.L.map (iM b.mode a.T.base))++a.X).length<=12:=by have ad:=s.len;have ae:=s.sN;have h3:=r.et;have h4:=r.exact;rw[cX,v];omega
 refine dS func175 h0 ?_;refine N [0] ?_;refine Y ?_;refine eu (ic j l b f g i k d e c) ?_;refine oW [0,1,2,3,5,6,7,8,1004,1009,1010,1011,12] [_] [_,_,_,_,_] (cD _) λag=>?_;refine iq ?_;refine eh rfl (ft (d) [_,_,_,_,_] func214 (c8 1 rfl) (λh p o=>(Sx (by have:=r.et;omega) hT o).held)) ?_;rintro u1 _ w1 ⟨_,rfl,rfl,_,af,W⟩;obtain⟨A1,c1,rfl⟩:=fS W (p:=1) rfl;refine⟨_,de [2] _ rfl,?_⟩;refine eh rfl (ft (e) [_,_,_,_,_,_] func234 (c8 3 rfl) (λh p o=>atI (by have:=s.sN;have:=r.exact;omega) hE o)) ?_;rintro u2 _ w2 ⟨_,rfl,rfl,A2,c2,rfl⟩;refine⟨_,de [2] _ rfl,?_⟩;refine eh rfl (vg (g:=203) (b:=1) rfl (λh=>adh _ _ ⟨_,_,_,rfl⟩ ⟨_,_,_,rfl⟩ h) rfl (by decide)) ?_;rintro _ _ w3 ⟨ab,rfl,rfl⟩;refine⟨_,de [1] _ rfl,?_⟩;refine eh rfl (DG rfl func233 (by kernel_rfl) (λh p=>Y6 ab 2 [(_,_),(_,_)] h (Rd.dM p (l:=1) rfl) (λq y=>by
  rcases dh.1 y with rfl|y
  .exact Rd.dM p (l:=5) rfl
  .rw[fI]at y;subst y;exact Rd.dM p (l:=2) rfl) (by simp) (λm P=>S _ _ m P))) ?_
 rintro u4 _ w4 ⟨_,rfl,rfl⟩;rw[K];refine⟨_,de [1] _ rfl,?_⟩;refine cB ?_;refine cY (_) [_,_,_,_,_,_,_,_,_] func235 (c8 1 rfl) (λh p o=>ajd LQ func236 (by kernel_rfl) akY Q rfl w o) ?_;rintro _ _ w5 ⟨l',rfl,B,o⟩;refine cH [3] ?_;refine N [2] ?_;refine cK [1,4,3,4,4,4,0] ?_;refine dG [_,_,_,_,_,_] ?_;refine eQ λp=>?_;obtain⟨A5,c5,rfl⟩:=fS p (p:=1) rfl;clear p;refine dP results175 ?_;have G:l'=mh (ml b a.T a.X):=H9 LQ o (TR (EE A)) ((B.trans D).trans (xm _).symm);subst G;refine⟨?_,_,_,_,rfl⟩;rw[B.length_eq.symm];rfl
def ak0 {n:U->Nat}(r:b.Ok)(p:uW b a n)(q:uX b i a d e c)(h0:atV h (ic j l b f g i k d e c)):aAg 175 [Z i.t] h (ic j l b f g i k d e c) λv u=>u=ic j l b f g i k d e c++[row v 302 3 (mh (ml b a.T a.X)).length (dn (mh (ml b a.T a.X)))]/\∃w x b,v=.slice w x b:=fz.conv (h:=(cz (ic j l b f g i k d e c)).fq) (ak1 r p q (cI.cz.1 (by rw[eN];exact h0))) λz u ⟨m,o⟩=>⟨_,λy s=>by subst m;exact cI.cz.2 s,rfl,o⟩
def fz.Lf {A:dX}{n:fR}{args:C M}{h:O}{y:Nat->Prop}{o:V}{s r:C V}{B:M}(w:cI h y [cz s] h)(v:s.Perm (o::r))(m:Hl h o->fz A n args h o.fq λp q=>p=B/\q=[o]):fz A n args h y λp q=>p=B/\q=[cz s]:=(fz.ea w v m λp D m=>⟨[],m.2⟩).mono λp q ⟨z,⟨x,u⟩,t⟩=>by have:z=[]:=List.append_cancel_right (show z++[o]=[]++[o]from u);subst this;exact⟨x,t⟩
def xo (o:Nat)(m:M)(n:Nat)(p:M):M:=PE [J o,m,J n,p]
def alg {p:U->Nat}(q:b.Ok)(y:uW b a p)(s:uX b i a d e c)(h0:Hl h (cz (ic j l b f g i k d e c))):Sr 134 [Z i.t] h (cz (ic j l b f g i k d e c)) λW K=>∃n v r,W=xo a.sum n a.T.base v/\Dg v a.R r/\K=[cz (ic j l b f g i k d e c),row n 302 3 (mh (ml b a.T a.X)).length (dn (mh (ml b a.T a.X))),r]:=by obtain⟨z,hE,hS⟩:=id s;refine dS func134 h0 ?_;refine NV [J 0,vN,J 0,vN] λx B=>?_;refine Pw 1 func166 (λh o m=>MQ m) ?_;rintro _ _ D ⟨rfl,rfl⟩;refine N [0,2,5] ?_;refine cQ ?_;refine eu (ic j l b f g i k d e c) ?_;refine oW [0,1,2,3,5,7,8,9,10,12,13,14,15,1004,1006,1011,1016,17,1018] [_] [_,_,_,_,_,_] (cD _) λE=>?_;refine fh ?_;refine cL ?_;refine eh rfl (ft (c) [_,_,_,_,_,_] func167 (c8 3 rfl) (λh o m=>Tx q hS m)) ?_;rintro _ _ w2 ⟨_,rfl,rfl,rfl⟩;refine⟨_,de [1] _ rfl,?_⟩;refine eh rfl (ox (ic j l b f g i k d e c) [_] func175 (de [0,1,1,0,0,0] _ rfl) (λh o m=>ak0 q y s m)) ?_;rintro _ _ w3 ⟨_,rfl,rfl,G,ne,L,rfl⟩;refine⟨_,de [0] _ rfl,?_⟩;refine eh rfl (ft (d) [_,_,_,_,_,_,_] func176 (c8 1 rfl) (λh o m=>ahQ z m)) ?_;rintro _ _ w4 ⟨_,rfl,rfl,rfl⟩;refine⟨_,de [1] _ rfl,?_⟩;refine eh rfl (ft (c) [_,_,_,_,_,_,_] func177 (c8 3 rfl) (λh o m=>ajE q hS m)) ?_;rintro vr _ w5 ⟨_,rfl,r,rfl,u,H,S,Q,rfl⟩;refine⟨_,de [2] _ rfl,?_⟩;refine cN rfl (ee (Yu _ _ _ _ ⟨_,_,_,rfl⟩ ⟨_,_,_,rfl⟩)) ?_;refine jW rfl (gD 8 (y:=[_,_,_,_])) ?_;rintro _ _ w rfl;refine⟨_,cD _,?_⟩;refine iK [2] ?_;refine cK [0,2,2,1,1,1,1,0,0] ?_;refine dG [_,_,_,_,_,_] ?_;refine eM ?_;refine⟨_,_,λj A o=>eW results134 (eX (e4 3 rfl underlying206 rfl (by kernel_rfl) rfl) eY) j A _ o,mr [_,_,_] [_],?_⟩;exact⟨_,_,_,rfl,u,rfl⟩
end
def akZ (a g:Nat){c:O}(h0:atV c [cF a [F 0] 53]):IS prog 165 [Z a,Z g] c (gO [cF a [F 0] 53]) λd=>d=[cF a [F 0] 53]:=by refine aaw (e:=6) func165 rfl rfl [(0,_),(1,_)] rfl ⟨rfl,rfl,trivial⟩ h0 ?_;refine N [1,3] ?_;refine cC ?_;refine⟨_,_,λe b f=>im (p:=[]) results165 rfl e b _,gq _,?_⟩;rfl
def YA (h j i:Nat)(c:PC){a b:M}(f:∃d e c,a=.slice d e c)(g:∃d e c,b=.slice d e c)(k:O):(Instr.build 294 [(0,Z h),(1,Z j),(2,gV c a b),(7,.map (some i))].toArray).run prog k=.ok (.agg (Z h::Z j::(cP c a b++[vQ,vQ,vQ,vN,.map (some i)])).toArray) k:=by obtain⟨d,e,m,rfl⟩:=f;obtain⟨l,o,n,rfl⟩:=g;kernel_rfl
def Uk:fB prog 292 280 3 24 (.agg #[F 0,F 0,F 0]):=.mk' underlying292 (by kernel_rfl) rfl (by decide)
def Ir (h j:Nat)(i:PC)(a g f b e d:M)(c:Nat):C M:=Z h::Z j::(cP i a g++[f,b,e,d,.map (some c)])
def aiG (c:C Hd)(a:Hd)(b:jO):((0,a)::(TD.hs ⟨c,[]⟩++b)).Perm (TD.hs ⟨c++[a],[]⟩++b):=by unfold TD.hs;simp only[dE,kD,eN,dA,dJ];exact eg.symm
section
variable{h:MC}{d:jO}{i:jX}{c e:Nat}{b:PC}{a j:M}{f:O}{g:V}
def ak9 (B:b.Ok)(hm:fQ c e h d i g)(hw:h.sz 0=8*b.width)(au:gz d 0+b.depth<=h.cap 0)(P:Rd f g.fq 1 j 16 (dF b.table))(ah:∃A n b,a=.slice A n b)(h0:Hl f g):Sr 127 [Z c,Z e,gV b a j] f g λu H=>∃z T R S o y,u=PF [Z z.t,F 0]/\H=[y,cz (ic c e b a j z o T R S)]/\uX b z (PT.new b) T R S/\o.hm=[]/\o.rows.length=b.depth/\fQ c e h (o.hs++d) i y:=by
 obtain⟨At,q,rfl,-⟩:=id P;have E:=B.depth;have aK:=B.width;refine mz.spec ?_;refine abJ (e:=95) func127 rfl rfl [(0,_),(1,_),(2,.agg (cP b a (.slice At 16 q)).toArray)] rfl ⟨rfl,rfl,rfl,trivial⟩ h0 165 func165 (by kernel_rfl) ?_
 iterate 2 (first|refine fG ?_|refine Y ?_)
 refine dK (l:=cP b a (.slice At 16 q)) λK aC=>?_;refine Y ?_;refine CN (F 0) λs aD=>?_;refine cH [0,1,5,7] ?_
 iterate 9 (first|refine fG ?_|refine Y ?_)
 refine cH [0,1,5,7,16] ?_;refine yf rfl ?_
 iterate 5 (first|refine fG ?_|refine Y ?_)
 refine I (di 1 (b:=cP b a (.slice At 16 q))) ?_;refine dw (DJ (g:=.string) (a:=Value.string) (d:=pY)) ?_;rintro _ _ w3 ⟨x,rfl,rfl⟩;refine I (ee (YA c e _ b ah ⟨_,_,_,rfl⟩)) ?_;refine dK (l:=Ir c e b a (.slice At 16 q) vQ vQ vQ vN x) λp aG=>?_;refine CN vQ λw aH=>?_;refine cO 0 (u:=[_]) λaI=>?_;refine cH [0,5,7,8] ?_
 iterate 2 (first|refine fG ?_|refine Y ?_)
 refine zC [(0,true),(1,true),(2,true),(3,true),(4,true),(5,false),(6,true),(7,true),(8,true),(9,true),(10,true),(11,false),(12,false)] ([_,_]) ([_,_,_,_]) lN (by kernel_rfl) (by kernel_rfl) (by kernel_rfl) rfl (de [0,3] _ rfl) (λaM=>?_)
 iterate 5 (first|refine fG ?_|refine Y ?_)
 refine eh rfl (eB func162 (λf r=>ahN B.mode B.et.1 (by have:=B.et;omega))) ?_;rintro _ _ w4 ⟨_,rfl,G,T,rfl,rfl,ak⟩;refine⟨_,de [1,1] _ rfl,?_⟩
 iterate 5 (first|refine fG ?_|refine Y ?_)
 refine jW rfl (gD 3 (q:=[_]) (y:=Ir c e b a (.slice At 16 q) (Z G) vQ vQ vN x)) ?_;rintro _ _ az rfl;refine⟨_,cD _,?_⟩;refine jW rfl (gD 5 (q:=[_]) (y:=[F 0])) ?_;rintro _ _ aA rfl;refine⟨_,cD _,?_⟩;refine iK [0,5,7,8] ?_
 iterate 2 (first|refine fG ?_|refine Y ?_)
 refine I (dH 5 (n:=F 0)) ?_;refine N [0,5,7,8,35] ?_;refine yf rfl ?_
 iterate 3 (first|refine fG ?_|refine Y ?_)
 refine zC [(0,true),(1,true),(2,true),(3,false),(4,true),(5,true),(6,true),(7,true),(8,true),(9,false),(10,false)] ([_,_]) ([_,_,_,_,_]) lN (by kernel_rfl) (by kernel_rfl) (by kernel_rfl) rfl (cD _) (λaN=>?_)
 iterate 3 (first|refine fG ?_|refine Y ?_)
 refine eh rfl (eB func163 (λf r=>atO b.exact (by have:=B.exact;omega) f)) ?_;rintro _ _ w5 ⟨_,rfl,L,R,rfl,rfl,ai⟩;refine⟨_,de [1,1] _ rfl,?_⟩
 iterate 5 (first|refine fG ?_|refine Y ?_)
 refine jW rfl (gD 4 (q:=[_]) (y:=Ir c e b a (.slice At 16 q) (Z G) (Z L) vQ vN x)) ?_;rintro _ _ aJ rfl;refine⟨_,cD _,?_⟩;refine jW rfl (gD 6 (q:=[_]) (y:=[F 0])) ?_;rintro _ _ aB rfl;refine⟨_,cD _,?_⟩;refine iK [0,5,7,8] ?_
 iterate 2 (first|refine fG ?_|refine Y ?_)
 refine I (dH 6 (n:=F 0)) ?_;refine N [0,5,7,8,47] ?_;refine yf rfl ?_
 iterate 3 (first|refine fG ?_|refine Y ?_)
 refine zC [(0,true),(1,true),(2,true),(3,true),(4,true),(5,true),(6,true),(7,true),(8,true),(9,false),(10,true),(11,true),(12,true),(13,true),(14,true),(15,false),(16,false)] ([_,_]) ([_,_,_,_,_,_]) lN (by kernel_rfl) (by kernel_rfl) (by kernel_rfl) rfl (cD _) (λaE=>?_)
 iterate 9 (first|refine fG ?_|refine Y ?_)
 refine eh rfl (eB func164 (λf r=>ajC B (.slice At 16 q) f (P.dx r))) ?_;rintro _ _ w6 ⟨_,rfl,X,S,rfl,rfl,aj⟩;refine⟨_,de [1,1] _ rfl,?_⟩
 iterate 5 (first|refine fG ?_|refine Y ?_)
 refine jW rfl (gD 5 (q:=[_]) (y:=Ir c e b a (.slice At 16 q) (Z G) (Z L) (Z X) vN x)) ?_;rintro _ _ ao rfl;refine⟨_,cD _,?_⟩;refine jW rfl (gD 7 (q:=[_]) (y:=[F 0])) ?_;rintro _ _ ap rfl;refine⟨_,cD _,?_⟩;refine iK [0,5,7,8] ?_
 iterate 2 (first|refine fG ?_|refine Y ?_)
 refine I (dH 7 (n:=F 0)) ?_;refine N [0,5,7,8,65] ?_;refine yf rfl ?_
 iterate 2 (first|refine fG ?_|refine Y ?_)
 refine GI ?_;refine wT (by simp) (wQ rfl rfl) ?_;refine abP rfl ?_ rfl;refine KZ [(0,_),(5,_),(7,_),(8,_)] ⟨rfl,rfl,rfl,rfl,trivial⟩ ?_
 iterate 6 (first|refine fG ?_|refine Y ?_)
 refine cH [0,5,7,8,69,70] ?_;refine fG ?_;refine Qv 280 3 ?_;refine GG (λk ds m H f=>∃(l:Nat)(D:C Hd)(W:M)(y:V),ds=[vf 165 [Z s,Z w]]/\m=[(0,Z c),(5,Z K),(7,Z s),(8,Z w),(69,F b.depth),(70,F l)]/\H=[row W 280 3 D.length (D.flatMap jz),cF w [Z p] 253,cF K (cP b a (.slice At 16 q)) 27,S,R,T,cF p (rU c e b a (.slice At 16 q) ⟨p,G,L,X,W,x⟩) 294,mp .string Value.string pY x [],cF s [F 0] 53,y]/\k+l=b.depth/\D.length=l/\fQ c e h (TD.hs ⟨D,[]⟩++d) i y) b.depth ⟨0,[],_,_,rfl,rfl,rfl,rfl,rfl,hm⟩ ?_;rintro k _ _ _ w7 ⟨l,D,W,ab,rfl,rfl,rfl,hk,hR,Q⟩
 iterate 3 (first|refine fG ?_|refine Y ?_)
 refine cH [0,5,7,8,69,70,71] ?_;refine fG ?_;refine zE rfl (λag=>?_) (λag=>?_)
 .have al:gz (TD.hs ⟨D,[]⟩++d) 0<h.cap 0:=by rw[om,(TD.Lr D []).2.1];omega
  iterate 8 (first|refine fG ?_|refine Y ?_)
  refine I (cU (z:=F (h.sz 0:Nat)) (oh rfl rfl) (by rw[hw];first|rfl|(congr 1;omega))) ?_;refine cY (ab) [_,_,_,_,_,_,_,_,_] func157 (c8 9 rfl) (λf r am=>LC 0 (by omega) al Q am) ?_;rintro _ _ w8 ⟨E,an,rfl,rfl,ad⟩
  iterate 3 (first|refine fG ?_|refine Y ?_)
  refine dj [F 0,F 0,F 0] λaq av=>?_;refine cO 0 (u:=[_,_,_]) (H:=jz E) λaw=>?_;refine N [0,5,7,8,9,10,69,70] ?_
  iterate 5 (first|refine fG ?_|refine Y ?_)
  refine cH [0,5,7,8,9,10,69,70,81] ?_;refine yf rfl ?_;refine fG ?_;refine KS [(0,true),(1,true),(2,true),(3,true),(4,true),(5,true),(6,false),(7,false),(8,true),(9,true),(10,false)] ([(_,none),(_,some 10),(_,none)]) ([_,_,_,_,_,_,_,_]) lN (by kernel_rfl) (by kernel_rfl) (by kernel_rfl) rfl rfl (de [3,7,0] _ rfl) (λaF=>?_)
  iterate 5 (first|refine fG ?_|refine Y ?_)
  refine ew rfl (di 2 (b:=jz E)) ?_;refine gY rfl (qi Uk (b:=jz E) (ae:=by decide)) ?_;rintro _ _ ax ⟨ar,rfl,rfl⟩;refine⟨_,eg.symm,?_⟩;refine gY rfl (jo 5 Uk (hr:=λf r=>Rd.dM r (l:=3) rfl) (h1:=by simp[jz,Value.oneCell'])) ?_;rintro _ _ w9 ⟨⟨ae,af,rfl⟩,rfl⟩;refine⟨_,cD _,?_⟩
  iterate 2 (first|refine fG ?_|refine Y ?_)
  refine jC rfl (gD 1 (q:=[_]) (y:=rU c e b a (.slice At 16 q) ⟨p,G,L,X,.slice ae (D.length+1) af,x⟩)) ?_;rintro _ _ aL rfl;refine⟨_,de [0,1] _ rfl,?_⟩;refine ui [0,5,7,8,69,70] rfl ?_;refine mx [5,0,4,4,4,4,1,3,3,2] rfl ?_
  iterate 3 (first|refine fG ?_|refine Y ?_)
  refine cH [0,5,7,8,69,70] ?_;refine⟨k-1,by omega,l+1,D++[E],.slice ae (D.length+1) af,an,rfl,rfl,?_,by omega,by rw[cX,hR];rfl,ad.perm (aiG D E d) (cD _)⟩;simp only[cX,j9,ji,CX,eN,lD]
 .refine KT ?_
  iterate 4 (first|refine fG ?_|refine Y ?_)
  refine cO 8 (u:=[_]) (H:=[F 0]) λay=>?_;refine cH [6,7] ?_;refine mx [6,5,4,3,0,2,2,2] rfl ?_;refine ye [_,_,_,_,_,_] ?_;refine mx [2,0,0] rfl ?_;refine vn ?_;refine⟨_,_,λc w2 H2 ha r=>eW results127 (gg rfl (eX (YG 2 rfl underlying53 rfl rfl rfl) eY)) c ha _ (r.j0 (C6 _ _)),mr [_,_] [_],?_,.inr ⟨_,[_],_,rfl,c8 2 rfl,λw' r=>akZ s w (B2 (r.perm (c8 2 rfl)))⟩⟩;exact⟨⟨p,G,L,X,W,x⟩,T,R,S,⟨D,[]⟩,ab,rfl,rfl,⟨ak,ai,aj⟩,rfl,by show D.length=_;omega,Q⟩
end
section
variable{p:dX}{u:Nat}{n:O}{e:Nat->Prop}{l:dD}{o:C V}{r:O}{m:dk}{s t:fj}{a d:Type}[DecidableEq a]{i:TypeDesc}{b:a->M}{c:d->M}{f:C (a×d)}{q k j:dk}{h:Nat}{g:a}{es:Array MapEntry}{clock:Nat}
def aa2 {x:M}(v:Nat)(L:sT p q k j i x)(K:tD i b)(E:js i b c es clock f)(G:ev l s=some (.map (some h)))(H:ev l t=some (b g))(D:o[v]? =some (ob h (.map es clock))):dp p u n e (.lookup q s t false) m l o (((ed f g).map c).getD x):=λy ac r z Q w B=>by have A:r.heap[h]? =some (.map es clock):=B.ok D;have:=Mj (d:=c) (c:=f) (f:=g) L K A E false;simp[execOp,z,w.eval G,w.eval H,this]
end
def Qf {d j:Type}{e:d->C j}(a:∀c,(e c).length=3):∀{b:C d}{f:Nat}{c:d},b[f]? =some c->((b.flatMap e).drop (f*3)).take 3=e c
 |i::b,0,c,g=>by injection g with g;subst g;rw[qt,yX,ji,uO (by rw[a];exact dT _),gS (by rw[a];exact dT _)]
 |i::b,f+1,c,g=>by
  have h:b[f]? =some c:=by simpa using g
  have:=Qf a h;rw[ji,show(f+1)*3=3+f*3 by omega,<-xy,show(e i++b.flatMap e).drop 3=b.flatMap e by rw[<-a i];exact kZ ..];exact this
def N8:∀{d:C MapEntry}{e g:MapEntry},(d.map (·.born)).Nodup->e∈d->g∈d->e.born=g.born->e=g
 |k::d,e,g,a,i,j,h=>by
  rw[dA,iB]at a;rcases dh.1 i with rfl|b<;>rcases dh.1 j with rfl|c
  .rfl
  .exact absurd (by rw[h];exact gu (f:=(·.born)) c) a.1
  .exact absurd (by rw[<-h];exact gu (f:=(·.born)) b) a.1
  .exact N8 a.2 b c h
section
variable{n:MC}{o j:jO}{p k:jX}{b e id:Nat}{m:PC}{c d:M}{t:TD}{l:O}{g s q r:V}{a:U}{f:Hd}{h:TA}{i:Hm}{es:Array MapEntry}{clock:Nat}
def ak4 (hm:fQ b e n ((1,f)::o) ((id,a)::p) g)(D:js .string Value.string pY es clock i)(h0:atV l [g,cF h.t (rU b e m c d h) 294,ob h.hb (.map es clock)])(P:ed i a=some (f,id)):aAg 184 [Z h.t,.string a] l [g,cF h.t (rU b e m c d h) 294,ob h.hb (.map es clock)] λ_ R=>∃w u,R=[w,cF h.t (rU b e m c d h) 294,ob h.hb (.map u clock)]/\fQ b e n o p w/\js .string Value.string pY u clock (ig i a)/\u.toList.Sublist es.toList:=by refine fz.conv (f:=λ_ R=>∃B w u,R=[cF B (jz f++[F id]) 370,cF h.t (rU b e m c d h) 294,w,ob h.hb (.map u clock)]/\fQ b e n o p w/\js .string Value.string pY u clock (ig i a)/\u.toList.Sublist es.toList) ?_ λv R ⟨B,w,u,z,G,T,W⟩=>⟨_,λw' y=>by subst z;exact y.pick (de [2,1,1] _ rfl),w,u,rfl,G,T,W⟩;refine dR func184 h0 ?_;refine cK [1,0,0] ?_;refine fw ?_;refine I (cU (z:=pY (f,id)) (aa2 2 Ch vp D rfl rfl rfl) (by rw[P];rfl)) ?_;refine dj [F 0,F 0,F 0,F 0] λS ab=>?_;refine cO 0 (H:=jz f++[F id]) λad=>?_;refine cH [0,1,4] ?_;refine Y ?_;refine eO 7 [6] [_,_] [_,_] (cD _) λae=>?_;refine df ?_;refine cN rfl (di 0 (b:=jz f)) ?_;refine eh rfl (ft (g) [_,_,_] func159 (c8 2 rfl) (λl y x=>Hh hm x)) ?_;rintro _ _ w1 ⟨_,rfl,L,rfl,rfl,H⟩;refine⟨_,de [1,1] _ rfl,?_⟩;refine iK [0,1,4] ?_;refine Y ?_;refine eO 7 [6] [_,_] [_,_] (cD _) λaf=>?_;refine eL ?_;refine eh rfl (ft (L) [_,_,_] func161 (c8 2 rfl) (λl y x=>L5 H x)) ?_;rintro _ _ w2 ⟨_,rfl,Q,rfl,rfl,K⟩;refine⟨_,de [1,1] _ rfl,?_⟩;refine cB ?_;refine iQ (aai 3 Ch vp D rfl rfl rfl) ?_;rintro _ _ w3 ⟨u,rfl,E,A,-⟩;refine cH [] ?_;refine⟨_,_,λb X y=>im (p:=[]) results184 rfl b X _,gq _,?_⟩;exact⟨_,Q,u,rfl,K,E,A⟩
def alc (hm:fQ b e n (t.hs++j) (t.ks++k) g)(ar:t.rows.length<=1000)(h0:atV l [g,cz (ic b e m c d h t s q r)]):aAg 142 [Z h.t] l [g,cz (ic b e m c d h t s q r)] λ_ H=>∃D,H=[D]/\fQ b e n j k D:=by
 obtain⟨B,tb,ex,sk,rv,W⟩:=h;obtain⟨u,M0⟩:=t;have aH:u.length<=1000:=ar;refine fz.conv (f:=λ_ H=>∃D L,H=L++[D]/\fQ b e n j k D) ?_ λv H ⟨D,L,w,Q⟩=>⟨_,λw' X=>by subst w;exact X.j0 (C6 _ _),D,rfl,Q⟩;refine dS func142 h0 ?_;refine Pw 1 func166 (λl X ae=>MQ ae) ?_;rintro _ _ aN ⟨rfl,rfl⟩;refine N [0,7] ?_;refine cL ?_;refine eu (ic b e m c d ⟨B,tb,ex,sk,rv,W⟩ ⟨u,M0⟩ s q r) ?_;refine cK [0,3,3,3] ?_;refine eQ λX=>?_;obtain⟨A,ad,ap⟩:=fS X (p:=1) rfl;dsimp only at ap;subst ap;clear X;refine K4 [0,11,12,13] ?_;refine dB (λG R H l=>∃(y:Nat)(D:V),R=[(0,Z B),(11,.slice A u.length ad),(12,F u.length),(13,F y)]/\H=[cF B (rU b e m c d ⟨B,tb,ex,sk,.slice A u.length ad,W⟩) 294,row (.slice A u.length ad) 280 3 u.length (u.flatMap jz),mp .string Value.string pY W M0,D]/\G+y=u.length/\fQ b e n (TD.hs ⟨u.drop y,M0⟩++j) (TD.ks ⟨u,M0⟩++k) D) u.length ⟨0,g,rfl,rfl,rfl,hm⟩ ?_;rintro G _ _ w2 ⟨y,af,rfl,rfl,hk,K⟩;refine cZ (λaB=>?_) λaB=>?_
 .obtain⟨x,hx⟩:∃x,u[y]? =some x:=⟨u[y]'(by omega),dr (by omega)⟩;have aC:u.drop y=x::u.drop (y+1):=by obtain⟨aD,P⟩:=da.1 hx;rw[<-P,jP aD]
  rw[aC]at K;refine eQ λX=>?_;obtain⟨aK,c2,w⟩:=fs X (q:=1) rfl;injection w with e1 e2 e3;subst e1;subst e3;clear X e2;refine df ?_;refine I (cR (ab:=y)) ?_;refine I (je 1 (b:=jz x) (hv:=by rw[dU];exact Qf (λ_=>rfl) hx)) ?_;refine dj [F 0,F 0,F 0] λaM aO=>?_;refine cO 0 (u:=[_,_,_]) (H:=jz x) λaP=>?_;refine cH [0,3,11,12,13] ?_;refine eO 6 [5] [_,_] [_,_,_] (cD _) λaR=>?_;refine cL ?_;refine cN rfl (di 0 (b:=jz x)) ?_;refine eh rfl (ft (af) [_,_,_,_] func159 (c8 4 rfl) (λl X ae=>Hh (z:=0) K ae)) ?_;rintro _ _ w3 ⟨_,rfl,aF,rfl,rfl,ag⟩;refine⟨_,de [1,1] _ rfl,?_⟩;refine iK [0,11,12,13] ?_;refine cK [1,2,2,1] ?_;refine N [0,11,12,13] ?_;exact⟨G-1,by omega,y+1,aF,rfl,rfl,by omega,ag⟩
 .refine dI ?_;refine cC ?_;obtain rfl:y=u.length:=by omega
  rw[Jd]at K;refine as6 2 rfl λes clock E=>?_;refine cL ?_;refine I (dH 0 (n:=.map (some W))) ?_;refine dw (aak underlying288 2 rfl rfl) ?_;rintro _ _ w4 ⟨T,rfl,rfl⟩;refine K4 [0,28] ?_;refine dB (λG R H l=>∃(es:Array MapEntry)(i:Hm)(seen:Array Nat)(c0:Nat)(D:V),R=[(0,Z B),(28,Z T)]/\H=[ob T (.mapIter (some W) clock seen c0),cF B (rU b e m c d ⟨B,tb,ex,sk,.slice A u.length ad,W⟩) 294,row (.slice A u.length ad) 280 3 u.length (u.flatMap jz),ob W (.map es clock),D]/\G=i.length/\js .string Value.string pY es clock i/\(∀w∈es.toList,seen.contains w.born=false)/\clock<=c0/\fQ b e n (TD.hs ⟨[],i⟩++j) (TD.ks ⟨[],i⟩++k) D) M0.length ⟨es,M0,#[],clock,af,rfl,rfl,rfl,E,λ_ _=>by simp,dT _,K⟩ ?_;rintro G _ _ w5 ⟨es,i,seen,c0,af,rfl,rfl,rfl,E,aj,aA,K⟩;refine Y ?_;refine eS (λR H w'=>∃(S:Bool)(v:M)(ab:Array Nat)(c1:Nat),R=[(0,Z B),(28,Z T),(30,.bool S)]/\H=[ob T (.mapIter (some W) clock ab c1),cF B (rU b e m c d ⟨B,tb,ex,sk,.slice A u.length ad,W⟩) 294,row (.slice A u.length ad) 280 3 u.length (u.flatMap jz),ob W (.map es clock),af]/\((S=false/\i=[])\/(S=true/\c1=clock/\∃w∈es.toList,ab=seen.push w.born))) ?_ ?_
  .refine kj ?_;refine dw (aaj 3 0 rfl rfl rfl (λx hx=>E.1.1 x hx) aA) ?_;rintro _ _ w6 (⟨h0,rfl,rfl⟩|⟨w,P,rfl,rfl⟩)
   .refine Y ?_;refine cH [0,28,30] ?_;refine⟨false,F 0,seen,c0,rfl,rfl,.inl ⟨rfl,?_⟩⟩;refine ll ?_;rw[<-E.size];refine Nat.eq_zero_of_not_pos λhp=>?_;have h1:es[0]∈leftOf es seen:=by unfold leftOf;rw[Array.mem_filter];exact⟨Array.getElem_mem hp,by rw[aj _ (by simp)];rfl⟩
    have:=Array.size_pos_of_mem h1;omega
   .refine Y ?_;refine cH [0,28,30] ?_;exact⟨true,F 0,_,_,rfl,rfl,.inr ⟨rfl,rfl,w,by unfold leftOf at P;simp at P;simpa using P.1,rfl⟩⟩
  rintro _ _ w6 ⟨S,v,ab,c1,rfl,rfl,hq⟩;refine fP (λah=>?_) λah=>?_
  .obtain⟨rfl,rfl,w,P,rfl⟩:=hq.resolve_left (by rintro⟨Q,_⟩;rw[Q]at ah;cases ah);obtain⟨aL,hj⟩:=ka.1 P;rw[vU]at hj;obtain⟨⟨a,f,id⟩,ay,an,aQ⟩:=E.at hj;have ak:ed i a=some (f,id):=s5 E.nd (eH ay);obtain⟨p1,p2⟩:=TD.split (rows:=[]) E.nd ak;have ag:=K.perm (p1.append_right j) (p2.append_right k);refine cL ?_;refine I (aaR 0 3 rfl rfl rfl P E.1.2.1) ?_;refine I (cU (z:=.string a) (PN rfl rfl) an) ?_;refine cB ?_;refine dw (ox [_,_,_] [_,_] func184 (de [4,1,2] _ rfl) (λl X ae=>ak4 (h:=⟨B,tb,ex,sk,.slice A u.length ad,W⟩) ag E ae ak)) ?_;rintro _ _ w7 ⟨_,rfl,aG,ax,rfl,au,al,av⟩;refine fu [3,1,2,1,0] ?_;refine cH [0,28] ?_;refine⟨_,?_,ax,ig i a,_,_,aG,rfl,rfl,rfl,al,?_,dT _,au⟩
   .obtain⟨A1,B1,e1,e2⟩:=NJ E.nd ak;rw[e2]
    conv=>rhs;rw[e1]
    simp
   .intro x hx;have aq:=av.subset hx;have h1:=aj x aq;have h2:x.born≠w.born:=λaz=>by have aw:x=w:=N8 E.1.2.1 aq P az;subst aw;obtain⟨j',am⟩:=ka.1 hx;rw[vU]at am;obtain⟨p',aE,ai,-⟩:=al.at am;rw[an]at ai;injection ai with ai;have ao:=eH aE;unfold ig at ao;have:=(kE.1 ao).2;simp at this;exact this ai.symm
    have h3:x.born∉seen:=by simpa using h1
    simpa using⟨h3,h2⟩
  .obtain⟨rfl,rfl⟩:=hq.resolve_right (by rintro⟨Q,_⟩;exact ah Q);refine dI ?_;refine KW 1 (t:=[_]) λaI=>?_;refine KW 1 (t:=[_]) λaJ=>?_;refine cH [] ?_;refine⟨_,_,λb ha X=>im (p:=[]) results142 rfl b ha _,gq _,?_⟩;exact⟨af,[_,_,_,_],rfl,K⟩
end
structure TW where
 w:Nat
 z:TA
 d:TD
 rT:V
 rE:V
 rS:V
def yJ (e g:Nat)(f:PC)(b c:M)(a:TW):V:=cz (ic e g f b c a.z a.d a.rT a.rE a.rS)
structure JC (b:PC)(c:C Ev)(a:TW):Prop where
 o:uX b a.z (PT.of b (ez a.w c)) a.rT a.rE a.rS
 d:FM b (PT.of b (ez a.w c)) a.d
def lP (a:C TW):jO:=a.flatMap λb=>b.d.hs
def ng (a:C TW):jX:=a.flatMap λb=>b.d.ks
structure nL (d:PC)(c:C Ev)(e:cG Nat)(a:C TW):Prop where
 ok:∀f∈a,JC d c f
 nd:(a.map (·.w)).Nodup
 iff:∀b,b∈a.map (·.w)↔some b≠e/\ez b c≠[]
def GW (a:Nat)(d:C Ev)(b:Ev):ez a (d++[b])=if b.1=a then ez a d++[b.2]else ez a d:=by
 rw[B5];unfold ez;by_cases c:b.1=a
 .rw[cM c,oC (by simpa using c)];rfl
 .rw[cJ c,nI (by simpa using c)];simp
def nL.put {n:PC}{l:C Ev}{h:C TW}{x:TW}{i:Ev}(m:nL n l (some i.1) h)(k:x.w=i.1)(q:JC n (l++[i]) x):nL n (l++[i]) none (x::h):=by
 have g:∀e∈h,i.1≠e.w:=λe b a=>by have:=((m.iff e.w).1 (gu b)).1;rw[a]at this;exact this rfl
 refine⟨λe b=>?_,?_,λr=>?_⟩
 .rcases dh.1 b with rfl|b
  .exact q
  .have f:=m.ok e b;have c:ez e.w (l++[i])=ez e.w l:=by rw[GW,cJ (g e b)]
   exact⟨by rw[c];exact f.o,by rw[c];exact f.d⟩
 .rw[dA,iB];refine⟨λp=>?_,m.nd⟩;obtain⟨e,b,a⟩:=dz.1 p;exact g e b (by rw[a,k])
 .rw[dA,dh,GW,m.iff];constructor
  .rintro(rfl|⟨f,c⟩)
   .rw[cM k.symm];exact⟨by simp,by simp⟩
   .rw[cJ (λa=>f (by rw[a]))];exact⟨by simp,c⟩
  .rintro⟨-,c⟩;by_cases a:i.1=r
   .exact .inl (by rw[k,a])
   .rw[cJ a]at c;exact .inr ⟨λj=>a (by injection j with j;exact j.symm),c⟩
def nL.out {n:PC}{m:C Ev}{g b:C TW}{o:TW}(i:nL n m none g)(f:g.Perm (o::b)):nL n m (some o.w) b:=by
 have d:=(f.map (·.w)).nodup_iff.1 i.nd;rw[dA,iB]at d;refine⟨λq l=>i.ok q (f.mem_iff.2 (dN _ l)),d.2,λp=>?_⟩;have e:=(f.map (·.w)).mem_iff (a:=p);rw[i.iff,dA,dh]at e;constructor
 .intro h;exact⟨λc=>by injection c with c;subst c;exact d.1 h,(e.2 (.inr h)).2⟩
 .rintro⟨j,k⟩;rcases e.1 ⟨by simp,k⟩with c|c
  .exact absurd (by rw[c]) j
  .exact c
def nL.tf {g:PC}{c:C Ev}{b:C TW}{h:Nat}(e:nL g c none b)(f:ez h c=[]):nL g c (some h) b:=⟨e.ok,e.nd,λi=>by
 rw[e.iff];constructor
 .rintro⟨-,a⟩;exact⟨λd=>by injection d with d;subst d;exact a f,a⟩
 .rintro⟨-,a⟩;exact⟨by simp,a⟩⟩
def nL.close {c:PC}{m:C Ev}{j:C TW}{i:Nat}(n:nL c m (some i) j):nL c (m.filter λg=> !decide (g.1=i)) none j:=by
 have f:∀k,k≠i->ez k (m.filter λg=> !decide (g.1=i))=ez k m:=λk b=>by
  unfold ez;rw[Jf];congr 1;refine CU λg _=>?_;by_cases a:g.1=k
  .subst a;simp[b]
  .simp[a]
 have Rc:ez i (m.filter λg=> !decide (g.1=i))=[]:=B6.2 λg p=>by have:=(kE.1 p).2;simpa using this
 have h:∀l∈j,l.w≠i:=λl e g=>((n.iff l.w).1 (gu e)).1 (by rw[g]);refine⟨λl e=>?_,n.nd,λk=>?_⟩
 .have a:=n.ok l e;exact⟨by rw[f _ (h l e)];exact a.o,by rw[f _ (h l e)];exact a.d⟩
 .rw[n.iff];by_cases b:k=i
  .subst b;rw[Rc];simp
  .rw[f _ b];simp[b]
def Hp:∀(f a:Nat){c:C Nat},c.Nodup->(∀b∈c,a<=b/\b<a+f)->c.length<=f
 |0,a,c,_,g=>by
  cases c with
  |nil=>exact dT _
  |cons b c=>have:=g b (dQ ..);omega
 |f+1,a,c,d,g=>by
  have h:=Hp f a (c:=c.filter λb=> !decide (b=a+f)) (d.filter _) λb e=>by
   obtain⟨m,l⟩:=kE.1 e;have:=g b m;have l:b≠a+f:=by simpa using l
   omega
  have o:c.length<=(c.filter λb=> !decide (b=a+f)).length+1:=by
   clear h g;generalize a+f=p;induction c with
   |nil=>exact gK _
   |cons b c j=>
    rw[iB]at d;by_cases e:b=p
    .subst e;have:(c.filter λk=> !decide (k=b))=c:=sW.2 λk i=>by have:k≠b:=λn=>d.1 (n▸i);simpa using this
     rw[nI (by simp),this,eE];exact dT _
    .rw[oC (by simpa using e),eE,eE];have:=j d.2;omega
  omega
def Lt {c:PC}{j:C Ev}{a:C TW}(p:c.Ok)(o:∀v∈j,lQ v.2)(q:∀H,eA (ez H j)<=9223372036854775808)(w:∀b∈a,JC c j b):
 gz (lP a) 1<=a.length*(c.et+c.exact)/\gz (lP a) 0=a.length*c.depth/\gz (lP a) 2=0/\(ng a).length<=a.length*(c.et+c.exact):=by
 induction a with
 |nil=>exact⟨by simp[lP,gz],by simp[lP,gz],by simp[lP,gz],by simp[ng]⟩
 |cons b a s=>
  obtain⟨x,y,z,A⟩:=s λK r=>w K (dN _ r);have i:=w b (dQ ..);obtain⟨e,-⟩:=PT.HA p (ez b.w j) (λv g=>by unfold ez at g;obtain⟨k,h,rfl⟩:=dz.1 g;exact o k (kE.1 h).1) (q b.w);have B:=e.x.len;have D:=e.x.sN;have n:=i.d.keys.length_eq;have E:=i.d.rows;obtain⟨t,k0,u⟩:=TD.Lr b.d.rows b.d.hm;have l:lP (b::a)=b.d.hs++lP a:=rfl;have m:ng (b::a)=b.d.ks++ng a:=rfl;have G:b.d.hm.length<=c.et+c.exact:=by simp only[dL,cX,cE]at n;omega
  have f:b.d.hs=TD.hs ⟨b.d.rows,b.d.hm⟩:=rfl;rw[l,m,om,om,om,cX,TD.Rk,eE,mu,mu,f,t,k0,u];refine⟨by omega,by omega,by omega,by omega⟩
structure Jy (b:MC)(a:PC)(c:jO)(d:jX):Prop where
 Km:gz c 1+a.ga*(a.et+a.exact)<=b.cap 1
 row:gz c 0+a.ga*a.depth<=b.cap 0
 Py:gz c 2+a.queue<=b.cap 2
 key:d.length+(a.ga*(a.et+a.exact)+a.queue)<=b.gW
 s8:b.sz 0=8*a.width
 Mk:b.sz 1=32
 JN:b.sz 2=24
 km:b.lr<=255
def zR (a:Nat):M:=Z a
def Hk:sT prog 179 3 253 (.int .i64) vQ:=⟨underlying179,underlying3,λa=>by kernel_rfl⟩
def zY (d f:Nat)(e:PC)(a c:M)(g b:Nat):C M:=Z d::Z f::(cP e a c++[Z g,.map (some b)])
def nC (f h:Nat)(g:PC)(a c:M)(k j b:Nat)(e:V)(i:C (Int×Nat))(d:C TW):C V:=[cF k (zY f h g a c j b) 181,e,mp (.int .i64) (Value.int .i64) zR b i,cz (d.map (yJ f h g a c))]
def oI (i j:Nat)(d:PC)(e g:M)(o:Nat)(m:C Ev)(c:C PQ)(a:C TW)(n:V):Prop:=∃k f b h,n=cz (nC i j d e g o k f b h a)/\vT k i j d.queue c b/\nL d m none a/\h.Perm (a.map λl=>((l.w:Int),l.z.t))
def X8 (a:O):(Instr.build 57 [].toArray).run prog a=.ok (B8 ByteArray.empty 0 0) a:=by kernel_rfl
def Yv (a:O):(Instr.build 206 [].toArray).run prog a=.ok (PE [J 0,vN,J 0,vN]) a:=by kernel_rfl
def Yr (h j k i:Nat)(c:PC){a b:M}(f:∃d e c,a=.slice d e c)(g:∃d e c,b=.slice d e c)(l:O):(Instr.build 181 [(0,Z h),(1,Z j),(2,gV c a b),(3,Z k),(4,.map (some i))].toArray).run prog l=.ok (.agg (zY h j c a b k i).toArray) l:=by obtain⟨d,e,n,rfl⟩:=f;obtain⟨m,p,o,rfl⟩:=g;kernel_rfl
def wG {b f:O}{a:Nat->Prop}{j d c:C V}{e:V}(i:j.Perm (e::d))(k:cI b a (cz j::c) f):cI b a (e::cz d::c) f:=by have g:cI b a ((e::d)++c) f:=(cI.cz.2 k).perm (i.append_right c);have h:cI b a (d++(e::c)) f:=g.perm eg.symm;exact(cI.cz.1 h).perm (List.Perm.swap ..)
def qZ {b f:O}{a:Nat->Prop}{j d c:C V}{e:V}(i:j.Perm (e::d))(k:cI b a (e::cz d::c) f):cI b a (cz j::c) f:=by have g:cI b a (cz d::e::c) f:=k.perm (List.Perm.swap ..);have h:cI b a (d++(e::c)) f:=cI.cz.2 g;exact cI.cz.1 (h.perm (eg.trans (i.symm.append_right c)))
def FI (f:M)(a:PS)(d c:V):Prop:=∃e b,f=xo a.total e a.iO b/\d=row e 302 3 a.E.length (dn a.E)/\Dg b a.R c
section
variable{w:MC}{s r:jO}{u t:jX}{g j l k f o:Nat}{e:PC}{c d:M}{a:O}{v n h:V}{q:U}{m:C Ev}{p:C PQ}{b:C TW}{i:C (Int×Nat)}
def ahU (L:vT k g j o [] h)(h0:Hl a h):Sr 126 [Z k] a h λx D=>x=PF [F 0,B8 ByteArray.empty 0 0,.bool false]/\D=[h]:=by obtain⟨Q,B,rfl,T,W,X,h4⟩:=L;refine fz.conv (f:=λx D=>∃y,x=PF [F 0,B8 ByteArray.empty 0 0,.bool false]/\D=[cF y (oR ByteArray.empty 0 0) 57,cz (tt k g j Q [] B o)]) ?_ λE D ⟨y,z,H⟩=>⟨_,λw' A=>by subst H;exact A.pick (de [1] _ rfl),z,rfl⟩;refine dS func126 h0 ?_;refine NV [vE,F 0,J 0] λG R=>?_;refine cB ?_;refine dZ rfl rfl (eZ 1 0 (n:=F 0)) ?_;refine cB ?_;refine I (ee X8) ?_;refine KW 0 (G:=oR ByteArray.empty 0 0) (h1:=by simp[oR,Value.oneCell']) λS=>?_;refine N [2,3,4] ?_;refine eM ?_;refine⟨_,_,λg K A=>eW results126 (gg rfl (eX (e4 0 rfl underlying57 rfl (by kernel_rfl) rfl) (gg rfl eY))) g K _ A,gq _,?_⟩;exact⟨_,rfl,rfl⟩
def ala (a:O):Sn 166 [vQ] a λx y=>x=.bool false/\y=[]:=by refine dS func166 hS ?_;refine N [0] ?_;refine cQ ?_;refine I (cU (z:=.bool false) (zx rfl rfl underlying253) rfl) ?_;refine db results166 ?_;exact⟨rfl,rfl⟩
def alf (a:O):Sn 134 [vQ] a λx G=>∃D B,FI x PS.zero D B/\G=[D,B]:=by refine fz.conv (f:=λx G=>x=xo 0 vN 0 vN/\∃y,G=[cF y [J 0,vN,J 0,vN] 206]) ?_ λH G ⟨A,y,Q⟩=>⟨[row vN 302 3 0 [],cz (Ey vN [])],λE z=>by subst Q;have R:=z.pick (de [] _ rfl);have S:cI a cW [cz []] E:=cI.Od R;have T:=S.Cm 25 1;have W:cI a cW [cz (Ey vN [])] E:=(cI.cz (L:=Ey vN []) (H:=[])).1 (by rw[eN];exact T);exact W.Cm 302 3,_,_,⟨vN,vN,A,rfl,[],rfl,rfl⟩,rfl⟩;refine dS func134 hS ?_;refine NV [J 0,vN,J 0,vN] λK P=>?_;refine Ku func166 (λa z=>ala a) ?_;rintro _ _ ab ⟨rfl,rfl⟩;refine cB ?_;refine I (ee Yv) ?_;refine cO 0 (H:=[_,_,_,_]) λad=>?_;refine cH [2] ?_;refine eM ?_;refine⟨_,_,λg X z=>eW results134 (eX (e4 0 rfl underlying206 rfl (by kernel_rfl) rfl) eY) g X _ z,gq _,?_⟩;exact⟨rfl,_,rfl⟩
def ajr (H:e.Ok)(z:∃D o e,c=.slice D o e)(B:∃D o e,d=.slice D o e)(a:O):Sn 47 [Z g,Z j,gV e c d] a λx R=>∃l n,x=PF [Z l,F 0]/\R=[n]/\oI g j e c d l [] [] [] n:=by have y:=H.queue;refine enter (g:=28) func47 rfl rfl [(0,_),(1,_),(2,.agg (cP e c d).toArray)] rfl ⟨rfl,rfl,rfl,trivial⟩ hS ?_;refine Mf (f:=cP e c d) λE L=>?_;refine Ku func75 (λa S=>ahT g j e.queue y.1 y.2 a) ?_;rintro _ _ T ⟨k,h,rfl,rfl,A⟩;refine K3 1 (f:=cP e c d) ?_;refine Y ?_;refine dw (DJ (g:=.int .i64) (a:=Value.int .i64) (d:=zR)) ?_;rintro _ _ W ⟨f,rfl,rfl⟩;refine I (ee (Yr g j _ _ e z B)) ?_;refine dK (l:=zY g j e c d k f) λG Q=>?_;refine N [6,7] ?_;refine sL ?_;refine cK [1,2,1,0] ?_;refine dG (d:=[]) [_,_,_,_] ?_;refine dP results47 ?_;exact⟨_,_,rfl,rfl,k,f,h,[],rfl,A,⟨λX K=>(nomatch K),List.Pairwise.nil,λa=>by simp[ez]⟩,cD _⟩
def Mn (B:oI g j e c d l m p b n)(h0:Hl a n):Sr 85 [Z l] a n λy E=>y=F p.length/\E=[n]:=by obtain⟨k,f,h,i,rfl,A,H,G⟩:=B;refine dS func85 h0 ?_;refine NX 0 0 (v:=Z k) ?_;refine cY (_) [] func123 (cD _) (λa K z=>fz.Lf z (c8 1 rfl) (λx=>ahS A x)) ?_;rintro _ _ D ⟨rfl,rfl⟩;refine db results85 ?_;exact⟨rfl,rfl⟩
def HX (y:Nat)(h0:atV a [cF l (zY g j e c d k f) 181,mp (.int .i64) (Value.int .i64) zR f i]):aAg 133 [Z l,F y] a [cF l (zY g j e c d k f) 181,mp (.int .i64) (Value.int .i64) zR f i] λx z=>x=((ed i (y:Int)).map zR).getD vQ/\z=[cF l (zY g j e c d k f) 181,mp (.int .i64) (Value.int .i64) zR f i]:=by refine dR func133 h0 ?_;refine cB ?_;refine I (DX 1 Hk wU rfl rfl rfl) ?_;refine db results133 ?_;exact⟨rfl,rfl⟩
def UN (D:nL e m none b)(H:i.Perm (b.map λE=>((E.w:Int),E.z.t))):(i.map Prod.fst).Nodup/\∀a:Nat,(a:Int)∈i.map Prod.fst↔ez a m≠[]:=by
 have B:=H.map Prod.fst;rw[jj]at B;have G:b.map (Prod.fst∘λE:TW=>((E.w:Int),E.z.t))=(b.map (·.w)).map Int.ofNat:=by rw[jj];rfl
 rw[G]at B;refine⟨B.nodup_iff.2 (oE.2 (D.nd.imp λy x=>y (Int.ofNat.inj x))),λa=>?_⟩;rw[B.mem_iff,dz];constructor
 .rintro⟨A,K,x⟩;have:A=a:=Int.ofNat.inj x;subst this;exact((D.iff A).1 K).2
 .intro y;exact⟨a,(D.iff a).2 ⟨by simp,y⟩,rfl⟩
def MN {y:Nat}(B:nL e m none b)(A:i.Perm (b.map λy=>((y.w:Int),y.z.t)))(x:ez y m=[]):ed i (y:Int)=none:=Dl λD=>((UN B A).2 y).1 D x
def Ip {A:TW}{x:C TW}(B:nL e m none b)(y:i.Perm (b.map λE=>((E.w:Int),E.z.t)))(D:b.Perm (A::x)):ed i (A.w:Int)=some A.z.t:=s5 (UN B y).1 (y.mem_iff.2 (dz.2 ⟨A,D.mem_iff.2 (dQ ..),rfl⟩))
def Io {E:Nat}(B:nL e m none b)(y:ez E m≠[]):∃A z,b.Perm (A::z)/\A.w=E:=by obtain⟨A,D,x⟩:=dz.1 ((B.iff E).2 ⟨by simp,y⟩);obtain⟨G,H,rfl⟩:=pJ D;exact⟨A,G++H,eg,x⟩
end
section
variable{q:MC}{r u:jO}{s v:jX}{h i j m e w:Nat}{g:PC}{a b:M}{k:O}{o t f:V}{d:U}{p:C Ev}{n:C PQ}{c:C TW}{l:C (Int×Nat)}
def ajv (Q:Nat)(A:ed l (Q:Int)=none)(h0:Hl k (cz (nC h i g a b j m e f l c))):Sr 94 [Z j,F Q] k (cz (nC h i g a b j m e f l c)) λy T=>∃D B,FI y PS.zero D B/\T=[cz (nC h i g a b j m e f l c),D,B]:=by refine dR func94 h0 ?_;refine eu (nC h i g a b j m e f l c) ?_;refine NV [J 0,vN,J 0,vN] λH K=>?_;refine cB ?_;refine dw (ox [_,_] [_,_,_] func133 (de [1,2] _ rfl) (λk x E=>HX Q E)) ?_;rintro _ _ w1 ⟨_,rfl,rfl,rfl⟩;rw[A];refine dd func134 (λk x=>alf k) ?_;rintro _ _ w2 ⟨D,B,⟨G,rv,rfl,rfl,z⟩,rfl⟩;refine kq λx=>?_;obtain⟨R,X,rfl⟩:=fS x (p:=0) rfl;obtain⟨W,rfl,-⟩:=id z;obtain⟨S,cr,rfl⟩:=Ew ((In.here (w0:=k) (i:=1) rfl).cz (j:=0) rfl _ x);clear x;refine cO 4 (H:=[_,_,_,_]) λL=>?_;refine cH [4] ?_;refine cK [2,4,2,3,0,0,0] ?_;refine dG [_,_,_,_] ?_;refine eM ?_;refine⟨_,_,λh A x=>eW results94 (eX (e4 3 rfl underlying206 rfl (by kernel_rfl) rfl) eY) h A _ x,mr [_,_,_] [_],?_⟩;exact⟨_,_,⟨_,_,rfl,rfl,z⟩,rfl⟩
def ajw {y:TW}{L:C TW}{B:U->Nat}{T:PT}(P:g.Ok)(Q:c.Perm (y::L))(G:ed l (y.w:Int)=some y.z.t)(X:uW g T B)(u:uX g y.z T y.rT y.rE y.rS)(h0:Hl k (cz (nC h i g a b j m e f l c))):Sr 94 [Z j,F y.w] k (cz (nC h i g a b j m e f l c)) λD H=>∃R K,FI D (T.jU g) R K/\H=[cz (nC h i g a b j m e f l c),R,K]:=by refine dR func94 h0 ?_;refine eu (nC h i g a b j m e f l c) ?_;refine cK [3,0,0,0] ?_;refine lh (wG (Q.map (yJ h i g a b))) ?_;refine NV [J 0,vN,J 0,vN] λW ab=>?_;refine cB ?_;refine dw (ox [_,_] [_,_,_,_] func133 (de [3,4] _ rfl) (λk x A=>HX y.w A)) ?_;rintro _ _ w1 ⟨_,rfl,rfl,rfl⟩;rw[G];refine cY ((cz (ic h i g a b y.z y.d y.rT y.rE y.rS))) [_,_,_,_,_] func134 (c8 3 rfl) (λk x A=>alg P X u A) ?_;rintro _ _ w2 ⟨S,rv,K,rfl,E,rfl⟩;refine kq λx=>?_;obtain⟨Ae,ce,rfl⟩:=fS x (p:=1) rfl;obtain⟨Rw,rfl,-⟩:=id E;obtain⟨Ar,cr,rfl⟩:=Ew ((In.here (w0:=k) (i:=2) rfl).cz (j:=0) rfl _ x);clear x;refine cO 5 (H:=[_,_,_,_]) λad=>?_;refine cH [4] ?_;refine cK [0,5,2,4,2,0,0,0] ?_;refine lh (qZ (Q.map (yJ h i g a b))) ?_;refine cK [1,1,1,0,0,0,0] ?_;refine dG [_,_,_,_] ?_;refine eM ?_;refine⟨_,_,λh G x=>eW results94 (eX (e4 3 rfl underlying206 rfl (by kernel_rfl) rfl) eY) h G _ x,mr [_,_,_] [_],?_⟩;exact⟨_,_,⟨_,_,rfl,rfl,E⟩,rfl⟩
def ajx (T:Nat)(G:g.Ok)(P:∀z∈p,lQ z.2)(Q:eA (ez T p)<=9223372036854775808)(hr:oI h i g a b j p n c t)(h0:Hl k t):Sr 94 [Z j,F T] k t λB H=>∃S R,FI B (jU g (ez T p)) S R/\H=[t,S,R]:=by
 obtain⟨m,e,f,l,rfl,hq,A,E⟩:=hr;by_cases x:ez T p=[]
 .have X:=ajv T (MN A E x) h0;unfold jU;rw[cM x];exact X
 .obtain⟨y,ad,D,rfl⟩:=Io A x;obtain⟨ab,-⟩:=PT.HA G (ez y.w p) (λz K=>by unfold ez at K;obtain⟨W,L,rfl⟩:=dz.1 K;exact P W (kE.1 L).1) Q;unfold jU;rw[cJ x];exact ajw G D (Ip A E D) ab (A.ok y (D.mem_iff.2 (dQ ..))).o h0
def ajs (z y x:Nat)(hm:fQ h i q r s o)(hr:oI h i g a b j p n c t)(h0:atV k [o,t])(G:q.sz 2=24)(B:gz r 2<q.cap 2)(R:s.length<q.gW)(K:1<=d.size)(L:d.size<=q.lr)(Q:q.lr<=255)(hl:n.length<g.queue):aAg 86 [Z j,F z,B8 d y x] k [o,t] λD H=>∃A id E X,D=F 0/\H=[E,X]/\fQ h i q ((2,A)::r) ((id,d)::s) E/\oI h i g a b j p (n++[⟨z,y,x,A,id,d⟩]) c X:=by obtain⟨m,e,f,l,rfl,hq,hX,hT⟩:=hr;refine enter (g:=16) func86 rfl rfl [(0,_),(1,_),(2,.agg (oR d y x).toArray)] rfl ⟨rfl,rfl,rfl,trivial⟩ h0 ?_;refine Mf (f:=oR d y x) λad ae=>?_;refine N [0,1,5] ?_;refine N [0,1,5,8] ?_;refine cQ ?_;refine cK [2,0,0] ?_;refine eu (nC h i g a b j m e f l c) ?_;refine eO 8 [6] [_,_] [_,_,_,_] (de [0,3] _ rfl) λaf=>?_;refine df ?_;refine cN rfl (di 1 (b:=oR d y x)) ?_;refine eh rfl (ox [o,f] [_,_,_,_] func124 (de [5,2] _ rfl) (λk hh W=>ahW z y x hm hq W G B R K L Q hl)) ?_;rintro _ _ w2 ⟨_,rfl,A,id,P,ab,rfl,rfl,S,T⟩;refine⟨_,de [2,2] _ rfl,?_⟩;refine N [6] ?_;refine cK [0,2,2,2,1] ?_;refine dG [_,_,_,_] ?_;refine cK [1,0] ?_;refine dP results86 ?_;exact⟨A,id,P,_,rfl,rfl,S,m,e,ab,l,rfl,T,hX,hT⟩
end
structure SV where
 S:PS
 e:M
 rv:M
def nc (a:SV):C M:=[J a.S.total,a.e,J a.S.iO,a.rv]
def akf (a:SV):(nc a).length=4:=rfl
def me (d:O)(b:Nat->Prop)(sv:M)(c:C SV):Prop:=Rd d b 4 sv c.length (c.flatMap nc)/\∀a∈c,Rd d b 3 a.e a.S.E.length (dn a.S.E)/\o7 d b a.rv a.S.R
def qd (a:C SV):Nat:=(a.map λb=>b.S.total).sum
section
variable{b:O}{a:C SV}{sv:M}
def me.at_ {m n v q:Nat}(t:me b cW (.slice (some ⟨m,n,.none⟩) v q) a){i j:Nat}{p:SV}{l:M}(d:a[i]? =some p)(k:(nc p)[j]? =some l):b.cell? ⟨m,n+i*4+j,.none⟩=some l:=by
 obtain⟨w,r,s,_,_,g⟩:=t.1;have u:=(da.1 d).1;obtain⟨e,o,rfl,_,_,h⟩:=g.resolve_left (by omega);injection s with c;injection c with c;injection c with c f;subst c;subst f;have:=h (i*4+j) l (by have:=qC akf d k;simpa using this)
 rwa [<-ma]at this
def me.form {m:Nat}{e:SV}(l:me b cW sv a)(g:a[m]? =some e):(∃c h d,e.e=.slice c h d)/\∃c h d,e.rv=.slice c h d:=by obtain⟨⟨c,d,k,-⟩,n,-,⟨i,j,f,-⟩,-⟩:=l.2 e (eH g);exact⟨⟨c,_,d,k⟩,i,_,j,f⟩
def Ig {k:SV}(i:∃c f d,k.e=.slice c f d)(j:∃c f d,k.rv=.slice c f d):∀l∈nc k,l.oneCell'=true:=by obtain⟨c,f,d,g⟩:=i;obtain⟨m,o,n,h⟩:=j;unfold nc;rw[g,h];simp[Value.oneCell']
def aka {c:Nat}{e:SV}(d:a[c]? =some e):qd (a.take (c+1))=qd (a.take c)+e.S.total/\qd (a.take (c+1))<=qd a:=by
 constructor
 .unfold qd;rw[ia,d];simp
 .exact xn ((wg _ _).map _)
def RY (d:me b cW sv a)(u:a.length<=100)(p:qd a<=9223372036854775808):Sn 137 [sv] b λw h=>w=J (qd a:Int)/\h=[]:=by
 obtain⟨q,r,rfl,_,k,j⟩:=id d.1;refine dS func137 hS ?_;refine K4 [3,6,7,8] ?_;refine dB (λm v h x=>∃c:Nat,v=[(3,J (qd (a.take c):Int)),(6,.slice q a.length r),(7,F a.length),(8,F c)]/\h=[]/\m+c=a.length) a.length ⟨0,rfl,rfl,rfl⟩ ?_;rintro m _ _ y ⟨c,rfl,rfl,t⟩;refine cZ (λg=>?_) λg=>?_
 .obtain⟨f,e⟩:∃f,a[c]? =some f:=⟨a[c]'(by omega),dr (by omega)⟩;obtain⟨A,D,rfl,_⟩:=j.resolve_left (by omega);obtain⟨f1,f2⟩:=d.form e;obtain⟨t1,t2⟩:=aka e;refine df ?_;refine I (cR (ab:=c)) ?_;refine I (kY (b:=nc f) (hc:=λB E l=>d.at_ e l)) ?_;refine dj [J 0,vN,J 0,vN] λi n=>?_;refine cO 0 (u:=nc f) (H:=nc f) (h1:=Ig f1 f2) λo=>?_;refine cB ?_;refine dd func88 (λb s=>qL (qd (a.take c)) f.S.total b) ?_;rintro _ _ z ⟨rfl,rfl⟩;rw[cM (show qd (a.take c)+f.S.total<18446744073709551616 by omega)];refine N [3,6,7,8] ?_;refine cK [] ?_;refine N [3,6,7,8] ?_;exact⟨m-1,by omega,c+1,by rw[t1];rfl,rfl,by omega⟩
 .obtain rfl:c=a.length:=by omega
  rw[j6];refine dI ?_;refine db results137 ?_;exact⟨rfl,rfl⟩
end
def uZ (a:Nat×Nat):M:=PE [J a.1,J a.2]
def JO (b c:Int)(a:O):(Instr.build 96 [(0,J b),(1,J c)].toArray).run prog a=.ok (PE [J b,J c]) a:=by kernel_rfl
def o7.dx {c l:O}{a:Nat->Prop}{m:C V}{k:M}{j:C (C Nat)}(n:o7 c a k j)(b:cI c a m l):o7 l cW k j:=by obtain⟨i,d,e,f⟩:=n;exact⟨i,d,e.dx b,λo q p h g=>(f o q p h g).dx b⟩
section
variable{c:PC}{a:O}{b:U}
def XD (d:En)(o:d.2.1+d.2.2<18446744073709551616)(a:O):Sn 276 [.agg (dy (some d)).toArray] a λp m=>p=uZ (d.2.1,d.2.1+d.2.2)/\m=[]:=by refine enter (g:=17) func276 rfl rfl [(0,.agg (dy (some d)).toArray)] rfl ⟨rfl,trivial⟩ hS ?_;refine Mf λg j=>?_;refine dj [J 0,J 0] λh k=>?_;refine cB ?_;refine dd func88 (λa f=>qL d.2.1 d.2.2 a) ?_;rintro _ _ q ⟨rfl,rfl⟩;rw[cM o];refine cB ?_;refine I (ee (JO _ _)) ?_;refine cO 0 (H:=[_,_]) λl=>?_;refine cH [2] ?_;refine eM ?_;refine⟨_,_,λe i f=>eW results276 (eX (e4 0 rfl underlying96 rfl (by kernel_rfl) rfl) eY) e i _ f,iw _,?_⟩;exact⟨rfl,rfl⟩
def Xs (d:Nat×Nat)(f:Nat)(a:O):Sn 277 [uZ d,J f] a λp o=>p=uZ (min d.1 f,min d.2 f)/\o=[]:=by refine enter (g:=14) func277 rfl rfl [(0,PE [J d.1,J d.2]),(1,_)] rfl ⟨rfl,rfl,trivial⟩ hS ?_;refine Mf λg k=>?_;refine dj [J 0,J 0] λh l=>?_;refine cH [1,2,4] ?_;refine df ?_;refine I (BS (r:=((min d.1 f:Nat):Int)) rfl rfl (by split<;>omega)) ?_;refine cQ ?_;refine I (BS (r:=((min d.2 f:Nat):Int)) rfl rfl (by split<;>omega)) ?_;refine I (ee (JO _ _)) ?_;refine cO 0 (H:=[_,_]) λm=>?_;refine cH [4] ?_;refine eM ?_;refine⟨_,_,λe i j=>eW results277 (eX (e4 0 rfl underlying96 rfl (by kernel_rfl) rfl) eY) e i _ j,iw _,?_⟩;exact⟨rfl,rfl⟩
def Xr (d e:Nat×Nat)(a:O)(j:d.1+e.1<18446744073709551616)(k:d.2+e.2<18446744073709551616):Sn 188 [uZ d,uZ e] a λs r=>s=uZ (d.1+e.1,d.2+e.2)/\r=[]:=by refine enter (g:=28) func188 rfl rfl [(0,PE [J d.1,J d.2]),(1,PE [J e.1,J e.2])] rfl ⟨rfl,rfl,trivial⟩ hS ?_;refine Mf λg m=>?_;refine dK λh o=>?_;refine dj [J 0,J 0] λi p=>?_;refine cB ?_;refine dd func88 (λa f=>qL d.1 e.1 a) ?_;rintro _ _ t ⟨rfl,rfl⟩;rw[cM j];refine cB ?_;refine dd func88 (λa f=>qL d.2 e.2 a) ?_;rintro _ _ u ⟨rfl,rfl⟩;rw[cM k];refine cB ?_;refine I (ee (JO _ _)) ?_;refine cO 0 (H:=[_,_]) λq=>?_;refine cH [4] ?_;refine eM ?_;refine⟨_,_,λd l f=>eW results188 (eX (e4 0 rfl underlying96 rfl (by kernel_rfl) rfl) eY) d l _ f,iw _,?_⟩;exact⟨rfl,rfl⟩
def XI (h:En)(i:U)(d:Nat)(a:O)(f:a.cell? ⟨d,0,.none⟩=some (.string i)):Sn 275 [.agg (dy (some h)).toArray,Z d] a λk j=>k=.bool (decide (h.1=i))/\j=[]:=by refine enter (g:=8) func275 rfl rfl [(0,.agg (dy (some h)).toArray),(1,_)] rfl ⟨rfl,rfl,trivial⟩ hS ?_;refine Mf λe g=>?_;refine cB ?_;refine I (jd (hc:=f)) ?_;refine N [3] ?_;refine gT results275 ?_;exact⟨rfl,rfl⟩
def Xu {d:PS}(t:c.Ok)(h e o m:M)(u:∃n H c,o=.slice n H c)(j:o7 a cW m d.R)(w:d.R=[]\/d.R.length=c.depth)(l:∀y∈d.R,y.length=c.width)(x:Rd a cW 1 e 16 (dF c.table))(v:b.size<=140737488355328):Sn 278 [gV c h e,xo d.total o d.iO m,.string b] a λy G=>y=J (d.q9 c b:Int)/\G=[]:=by
 obtain⟨K,E,⟨n,i,rfl,-⟩,D⟩:=id j;obtain⟨p,ne,s,rfl⟩:=u;refine enter (g:=21) func278 rfl rfl [(0,.agg (cP c h e).toArray),(1,PE [J d.total,.slice p ne s,J d.iO,.slice n d.R.length i]),(2,_)] rfl ⟨rfl,rfl,rfl,trivial⟩ hS ?_;refine Mf (f:=cP c h e) λq z=>?_;refine dK λr A=>?_;refine cZ (λf=>?_) λf=>?_
 .refine N [6] ?_;refine gT results278 ?_;refine⟨?_,rfl⟩;unfold PS.q9;rw[cM (ll (by omega))];rfl
 .have g:d.R≠[]:=λo=>f (by rw[o];rfl);refine fh ?_;refine Ku func307 (λa k=>ajD t (.slice n d.R.length i) e (o7.dx j k) (w.resolve_left g) l (x.dx k) v) ?_;rintro _ _ B ⟨rfl,rfl⟩;refine N [6] ?_;refine gT results278 ?_;refine⟨?_,rfl⟩;unfold PS.q9;rw[cJ g];rfl
end
section
variable{c:PC}{b:O}{a:U}
def abt {d:C En}{g:Nat}{i:En}{h:U}(m:d[g]? =some i)(k:i.1=h)(f:h∉cE (d.take g)):kh d h=some i:=by
 obtain⟨n,j⟩:=da.1 m;have l:d=d.take g++i::d.drop (g+1):=by rw[<-j,Fi,gJ]
 have e:kh (d.take g) h=none:=rq.2 f;unfold kh at e|-;rw[l,Fg,e,List.find?_cons_of_pos (by simpa using k)];rfl
def ab5 (u:cG Addr)(p:Nat)(e:C En)(t:U)(d:Nat)(b:O)(A:b.cell? ⟨d,0,.none⟩=some (.string t))(H:Rd b cW 3 (.slice u e.length p) e.length (dn e))(ab:e.length<=1000000):Sn 274 [.slice u e.length p,.func (.func 275) #[] #[Z d]] b λR v=>v=[]/\((kh e t=none/\R=F (-1))\/∃(i:Nat)(n:En),R=F i/\e[i]? =some n/\kh e t=some n):=by
 obtain⟨T,W,D,P,B,z⟩:=id H;injection D with w X x;subst w;subst x;refine dR func274 hS ?_;refine K4 [0,1,7,8] ?_;refine dB (λK m v w'=>∃i:Nat,m=[(0,.slice u e.length p),(1,.func (.func 275) #[] #[Z d]),(7,F e.length),(8,F i)]/\v=[]/\K+i=e.length/\t∉cE (e.take i)) e.length ⟨0,rfl,rfl,rfl,by simp[cE]⟩ ?_;rintro K _ _ w1 ⟨i,rfl,rfl,ad,h⟩;refine cZ (λr=>?_) λr=>?_
 .obtain⟨n,l⟩:∃n,e[i]? =some n:=⟨e[i]'(by omega),dr (by omega)⟩;obtain⟨g,o,rfl,_,_,k⟩:=z.resolve_left (by omega);refine N [0,1,5,7,8] ?_;refine df ?_;refine I (cR (ab:=i)) ?_;refine I (Gt (E:=dy (some n)) rfl underlying302 rfl (by kernel_rfl) (λQ S s=>by
   have G:=(da.1 s).1;rw[tY]at G;rw[ma];refine k (i*3+Q) S ?_;have q:=tZ l;rw[dU]at q;have y:(((dn e).drop (i*3)).take 3)[Q]? =some S:=by rw[q];exact s
   rwa [mT,cM (by omega),kQ]at y) id) ?_
  refine dw (q7 [] _ rfl rfl func275 (by kernel_rfl) (cD _) (λb E L=>by rw[so];exact XI n t d b (E.rJ A id))) ?_;rintro _ _ w2 ⟨_,rfl,rfl,rfl⟩;refine cZ (λj=>?_) λj=>?_
  .refine db results274 ?_;exact⟨rfl,.inr ⟨i,n,rfl,l,abt l j h⟩⟩
  .refine N [0,1,7,8] ?_;refine⟨K-1,by omega,i+1,rfl,rfl,by omega,?_⟩;rw[ia,l];intro f;unfold cE at f h;rw[dE,dV]at f;rcases f with f|f
   .exact h f
   .simp at f;exact j f.symm
 .obtain rfl:i=e.length:=by omega
  rw[j6]at h;refine dI ?_;refine db results274 ?_;exact⟨rfl,.inl ⟨rq.2 h,rfl⟩⟩
def Ta {d:PS}(hc:c.Ok)(s q e ag:M)(P:Rd b cW 3 e d.E.length (dn d.E))(W:o7 b cW ag d.R)(hl:d.R=[]\/d.R.length=c.depth)(ae:∀r∈d.R,r.length=c.width)(ht:Rd b cW 1 q 16 (dF c.table))(hk:a.size<=140737488355328)(hn:d.E.length<=1000000)(T:∀k∈d.E,k.2.1+k.2.2<18446744073709551616):Sn 242 [gV c s q,xo d.total e d.iO ag,.string a] b λr aj=>r=PF [uZ (d.iC c a),.bool (kh d.E a).isSome]/\aj=[]:=by
 obtain⟨ah,B,rfl,aA,ak,hA⟩:=id P;obtain⟨vs,aB,⟨ai,z,rfl,-⟩,az⟩:=id W;refine enter (g:=33) func242 rfl rfl [(0,.agg (cP c s q).toArray),(1,PE [J d.total,.slice ah d.E.length B,J d.iO,.slice ai d.R.length z]),(2,_)] rfl ⟨rfl,rfl,rfl,trivial⟩ hS ?_;refine Mf (f:=cP c s q) λt al=>?_;refine dK λw am=>?_;refine dK λp an=>?_;refine dj [J 0,J 0] λx ao=>?_;refine cB ?_;refine I (ee (λb=>by kernel_rfl) (n:=uZ (0,d.iO))) ?_;refine dj [J 0,J 0] λy ap=>?_;refine cO 0 (H:=[J 0,J d.iO]) λaq=>?_;refine cB ?_;refine I (wQ rfl rfl) ?_;refine dd func274 (λb i=>ab5 ah B d.E a p b (by rw[rz (m:=prog) i (l:=2) rfl];rfl) (P.dx i) hn) ?_;rintro v9 _ w3 ⟨rfl,Q⟩;obtain⟨af,rfl,L⟩:∃n:Int,v9=F n/\((kh d.E a=none/\n= -1)\/∃(G:Nat)(k:En),n=(G:Int)/\d.E[G]? =some k/\kh d.E a=some k):=by
  rcases Q with⟨f,rfl⟩|⟨G,k,rfl,A,f⟩
  .exact⟨_,rfl,.inl ⟨f,rfl⟩⟩
  .exact⟨_,rfl,.inr ⟨G,k,rfl,A,f⟩⟩
 refine N [3,4,5,6,8,9] ?_;refine N [3,4,5,6,8,9,18] ?_;refine eS (λm aj w'=>∃l:Nat×Nat,m=[(3,Z t),(4,Z w),(5,Z p),(6,Z x),(8,Z y),(9,F af)]/\aj=[cF y [J l.1,J l.2] 96,cF x [J 0,J 0] 96,cF p [.string a] 9,cF w [J d.total,.slice ah d.E.length B,J d.iO,.slice ai d.R.length z] 206,cF t (cP c s q) 27]/\d.iC c a=(min l.1 (d.q9 c a),min l.2 (d.q9 c a))/\(kh d.E a).isSome=decide ((0:Int)<=af)) ?_ ?_
 .refine jc rfl (λK=>?_) (λK=>?_)
  .obtain⟨G,k,rfl,A,f⟩:=L.resolve_left (by rintro⟨-,h⟩;omega);have ay:=(da.1 A).1;obtain⟨g,o,rfl,_,_,D⟩:=hA.resolve_left (by omega);refine cL ?_;refine I (cR (ab:=G)) ?_;refine I (Gt (E:=dy (some k)) rfl underlying302 rfl (by kernel_rfl) (λj u ad=>by
    have hj:=(da.1 ad).1;rw[tY]at hj;rw[ma];refine D (G*3+j) u ?_;have S:=tZ A;rw[dU]at S;have h2:(((dn d.E).drop (G*3)).take 3)[j]? =some u:=by rw[S];exact ad
    rwa [mT,cM (by omega),kQ]at h2) id) ?_
   refine dd func276 (λb i=>XD k (T k (eH A)) b) ?_;rintro _ _ ar ⟨rfl,rfl⟩;refine cO 0 (H:=[J k.2.1,J ((k.2.1+k.2.2:Nat):Int)]) λau=>?_;refine cH [3,4,5,6,8,9] ?_;refine⟨(k.2.1,k.2.1+k.2.2),rfl,rfl,?_,?_⟩
   .unfold PS.iC;rw[f]
   .rw[f,gb (by omega)];rfl
  .obtain⟨f,rfl⟩:=L.resolve_right (by rintro⟨G,k,h,-⟩;exact K (by omega));refine kw [3,4,5,6,8,9] rfl (iY ?_);refine⟨(0,d.iO),rfl,rfl,?_,?_⟩
   .unfold PS.iC;rw[f];show(0,_)=(min 0 _,_);rw[Nat.zero_min]
   .rw[f];rfl
 .rintro _ _ w8 ⟨l,rfl,rfl,X,ab⟩;refine Y ?_;refine oW [0,1,2,3,6,7,1004,1005,1008,9] [_,_,_,_] [_] (de [0,1,1,1] _ rfl) λaC=>?_;refine cN rfl (di 0 (b:=[J l.1,J l.2])) ?_;refine cN rfl (di 3 (b:=cP c s q)) ?_;refine cN rfl (di 2 (b:=[J d.total,.slice ah d.E.length B,J d.iO,.slice ai d.R.length z])) ?_;refine cQ ?_;refine eh rfl (eB func278 (λb i=>Xu hc s q _ _ ⟨_,_,_,rfl⟩ (o7.dx W i) hl ae (ht.dx i) hk)) ?_;rintro _ _ av ⟨_,rfl,rfl,rfl⟩;refine⟨_,jQ _ _ _,?_⟩;refine eh rfl (eB func277 (λb i=>Xs l (d.q9 c a) b)) ?_;rintro _ _ aw ⟨_,rfl,rfl,rfl⟩;refine⟨_,jQ _ _ _,?_⟩;refine jW rfl (gD 4 (y:=[_,_])) ?_;rintro _ _ ax rfl;refine⟨_,cD _,?_⟩;refine N [6,7] ?_;refine eM ?_;refine⟨_,_,λH ha i=>eW results242 (eX (e4 4 rfl underlying96 rfl (by kernel_rfl) rfl) (gg rfl eY)) H ha _ i,iw _,?_⟩;refine⟨?_,rfl⟩;rw[X,ab];rfl
end
def oT (a:C Int):C M:=a.map (Value.int .i64)
def ab0 (a:C Nat):(ec a).length=a.length:=by simp[ec]
def GS (a b:C Nat):ec (a++b)=ec a++ec b:=by simp[ec]
def ab1 (c:C Nat):∀b∈ec c,b.oneCell'=true:=λb a=>by unfold ec at a;obtain⟨d,-,rfl⟩:=dz.1 a;rfl
section
variable{a:O}
def ab6 (n:cG Addr)(h:Nat)(b:C Nat)(j:Nat)(a:O)(u:Rd a cW 1 (.slice n b.length h) b.length (ec b))(D:b.length<=1000000):Sn 273 [.slice n b.length h,F j] a λH o=>o=[]/\∃x:Int,H=F x/\(0<=x↔j∈b):=by
 obtain⟨y,z,t,B,s,r⟩:=id u;injection t with p A q;subst p;subst q;refine dR func273 hS ?_;refine K4 [0,1,7,8] ?_;refine dB (λw G o K=>∃e:Nat,G=[(0,.slice n b.length h),(1,F j),(7,F b.length),(8,F e)]/\o=[]/\w+e=b.length/\j∉b.take e) b.length ⟨0,rfl,rfl,rfl,by simp⟩ ?_;rintro w _ _ L ⟨e,rfl,rfl,E,d⟩;refine cZ (λl=>?_) λl=>?_
 .obtain⟨k,i⟩:∃k,b[e]? =some k:=⟨b[e]'(by omega),dr (by omega)⟩;obtain⟨Q,R,rfl,_,_,g⟩:=r.resolve_left (by omega);refine N [0,1,5,7,8] ?_;refine df ?_;refine I (cR (ab:=e)) ?_;refine I (jd (n:=F k) (hc:=by rw[fT];exact g e _ (by unfold ec;rw[eK,i];rfl))) ?_;refine cZ (λc=>?_) λc=>?_
  .refine db results273 ?_;have m:j=k:=by have:(j:Int)=(k:Int):=c;omega
   subst m;exact⟨rfl,_,rfl,⟨λ_=>eH i,λ_=>by omega⟩⟩
  .refine N [0,1,7,8] ?_;refine⟨w-1,by omega,e+1,rfl,rfl,by omega,?_⟩;rw[ia,i,dV];rintro(f|f)
   .exact d f
   .have f:j=k:=by simpa using f
    exact c (by rw[f])
 .obtain rfl:e=b.length:=by omega
  rw[j6]at d;refine dI ?_;refine db results273 ?_;exact⟨rfl,_,rfl,⟨λf=>absurd f (by decide),λf=>absurd f d⟩⟩
def Y7 (d:cG Addr)(b:Nat)(c:C Nat)(i:Nat)(a:O)(g:Rd a cW 1 (.slice d c.length b) c.length (ec c))(f:c.length<=1000000):Sn 241 [.slice d c.length b,F i] a λk j=>k=.bool (decide (i∈c))/\j=[]:=by refine dR func241 hS ?_;refine Ku func273 (λa e=>ab6 d b c i a (g.dx e) f) ?_;rintro _ _ l ⟨rfl,m,rfl,h⟩;refine db results241 ?_;exact⟨dq Value.bool (uU.2 h),rfl⟩
def akP (g c:C Nat){b d:Nat}(i:c[b]? =some d):(g++[d]++(c.take b++c.drop (b+1))).Perm (g++c):=by
 obtain⟨h,e⟩:=da.1 i;have f:c=c.take b++d::c.drop (b+1):=by rw[<-e,Fi,gJ]
 rw[dJ];refine vX g ?_
 conv=>rhs;rw[f]
 exact(eg (a:=d) (l₁:=c.take b) (l₂:=c.drop (b+1))).symm
def ahn (G:M)(i:C Int)(n:Nat)(a:O)(hr:Rd a cW 1 G i.length (oT i))(hn:n<=1000)(hP:i.length<=1000000)(hb:∀f∈i,-4611686018427387904<=f/\f<=4611686018427387904):Sn 243 [G,F n] a λx p=>∃o:C Nat,o.Perm (List.range n)/\p=[row x 3 1 n (ec o)]:=by
 obtain⟨Q,q,rfl,hl,ab,hA⟩:=id hr;refine dR func243 hS ?_;refine N [0,1] ?_;refine N [0,1,5,6] ?_;refine cL ?_;refine I (wR (r:=(n:Int)) rfl rfl (by split<;>omega)) ?_;refine N [0,5,6,11,12] ?_;refine Y ?_;refine gh 3 1 ?_;refine dB (λw E p H=>∃(h:Nat)(x:M),E=[(0,.slice Q i.length q),(5,x),(6,vN),(11,F n),(12,F h)]/\p=[row x 3 1 h (ec (List.range h))]/\w+h=n) n ⟨0,_,rfl,rfl,by omega⟩ ?_;rintro w _ _ w1 ⟨h,x,rfl,rfl,hq⟩;refine cZ (λy=>?_) λy=>?_
 .refine cB ?_;refine gZ mj (ae:=by decide) λR af=>?_;refine dw (jo 1 mj) ?_;rintro u2 _ w2 ⟨_,rfl⟩;refine fu [1] ?_;refine ir [0,5,6,11,12] ?_;refine⟨w-1,by omega,h+1,u2,rfl,?_,by omega⟩;rw[pL,GS];rfl
 .refine dI ?_;refine N [0,5,6,8] ?_;refine Y ?_;obtain rfl:h=n:=by omega
  refine gh 3 1 ?_;refine dB (λw E p H=>∃(m:Nat)(b out:C Nat)(u5 u6:M),E=[(0,.slice Q i.length q),(5,u5),(6,u6),(8,F m)]/\p=[row u6 3 1 out.length (ec out),row u5 3 1 b.length (ec b)]/\w=b.length/\m+b.length=h/\(out++b).Perm (List.range h)) h ⟨0,List.range h,[],x,_,rfl,by rw[sZ];rfl,by rw[sZ],by rw[sZ];omega,cD _⟩ ?_;rintro w _ _ w3 ⟨m,b,out,u5,u6,rfl,rfl,rfl,hj,c⟩;refine eQ λe=>?_;obtain⟨A5,j,rfl⟩:=fS e (p:=1) rfl;clear e;refine cZ (λz=>?_) λz=>?_
  .have g:0<b.length:=by omega
   have ag:b.length<=1000:=by omega
   refine eQ λe=>?_;obtain⟨k,c6,s⟩:=fs e (q:=1) rfl g;injection s with s X P;subst s;subst P;clear e X;refine N [0,5,6,8,9] ?_;refine N [0,5,6,8,9,28] ?_;refine eS (λE p H=>∃d:Nat,d<b.length/\E=[(0,.slice Q i.length q),(5,vS k b.length j),(6,u6),(8,F m),(9,F d)]/\p=[row u6 3 1 out.length (ec out),row (vS k b.length j) 3 1 b.length (ec b)]) ?_ ?_
   .refine jc rfl (λA=>?_) (λA=>?_)
    .obtain⟨f,hx⟩:∃f,i[m]? =some f:=⟨i[m]'(by omega),dr (by omega)⟩;obtain⟨gp,op,rfl,_,_,l⟩:=hA.resolve_left (by omega);have ad:f.tmod (b.length:Int)<(b.length:Int):=AP f (by omega);have ae: -(b.length:Int)<f.tmod (b.length:Int):=Int.lt_tmod_of_pos f (by omega);refine cQ ?_;refine I (cR (ab:=m)) ?_;refine I (jd (n:=F f) (hc:=by rw[fT];exact l m _ (by unfold oT;rw[eK,hx];rfl))) ?_;refine cC ?_;refine I (zy rfl rfl (by omega) rfl) ?_;refine df ?_;refine I (te rfl rfl ⟨by omega,by omega⟩) ?_;refine N [0,5,6,8,9] ?_;have h1:=xx (f.tmod (b.length:Int)+b.length) (show(b.length:Int)≠0 by omega);have h2:=AN (f.tmod (b.length:Int)+b.length) (show(0:Int)<b.length by omega);refine⟨((f.tmod (b.length:Int)+b.length) % b.length).toNat,by omega,?_,rfl⟩;rw[rY h1]
    .refine kw [0,5,6,8,9] rfl (iY ?_);exact⟨0,g,rfl,rfl⟩
   .rintro _ _ w8 ⟨d,t,rfl,rfl⟩;obtain⟨u,D⟩:∃u,b[d]? =some u:=⟨b[d]'t,dr t⟩;refine df ?_;refine I (cR (ab:=d)) ?_;refine I (gj 1 (n:=F u) (hv:=by unfold ec;rw[dU,fT,eK,D];rfl)) ?_;refine gZ mj (ae:=by decide) λK L=>?_;refine dw (jo 1 mj (ae:=by have:=c.length_eq;simp only[cX,sZ]at this;omega) (ah:=by have:=c.length_eq;simp only[cX,sZ]at this;omega)) ?_;rintro u7 _ w9 ⟨_,rfl⟩;refine cB ?_;refine cY ((row (vS k b.length j) 3 1 b.length (ec b))) [_,_] func279 (c8 2 rfl) (λa e B=>Zl k j b.length d (ec b) a t (by omega) (ab1 b) B) ?_;rintro _ _ ah ⟨rfl,rfl⟩;refine fu [2,0] ?_;refine ir [0,5,6,8] ?_;refine⟨b.length-1,by omega,m+1,b.take d++b.drop (d+1),out++[u],_,u7,rfl,?_,?_,?_,(akP out b D).trans c⟩
    .have S:(b.take d++b.drop (d+1)).length=b.length-1:=by rw[cX,eD,iz];omega
     have T:(ec b).take (d*1)++(ec b).drop ((d+1)*1)=ec (b.take d++b.drop (d+1)):=by rw[fT,fT,GS];unfold ec;rw[uN,uM]
     have W:ec (out++[u])=ec out++[Value.int .i64 (u:Int)]:=GS out [u];rw[S,T,W,cX];rfl
    .rw[cX,eD,iz];omega
    .rw[cX,eD,iz];omega
  .obtain rfl:b=[]:=ll (by omega);rw[eN]at c;refine dI ?_;refine N [4] ?_;refine cK [0] ?_;refine dP results243 ?_;refine⟨out,c,?_⟩;have:=c.length_eq;rw[sZ]at this;rw[this];rfl
end
structure V9 (d:O)(g:PC)(l e:M)(sv:M)(m:C SV)(b:M)(a:C Nat)(c:U)(h i j k:Nat):Prop where
 p2:d.cell? ⟨h,0,.none⟩=some sv
 p3:d.cell? ⟨i,0,.none⟩=some b
 p4:∀(n:Nat)(o:M),(cP g l e)[n]? =some o->d.cell? ⟨j,0+n,.none⟩=some o
 p5:d.cell? ⟨k,0,.none⟩=some (.string c)
 rs:me d cW sv m
 Y:Rd d cW 1 b a.length (ec a)
 tb:Rd d cW 1 e 16 (dF g.table)
 ok:∀f∈m,(f.S.R=[]\/f.S.R.length=g.depth)/\(∀q∈f.S.R,q.length=g.width)/\f.S.E.length<=1000000/\∀p∈f.S.E,p.2.1+p.2.2<18446744073709551616
 ks:c.size<=140737488355328
 sl:a.length<=1000000
section
variable{c:PC}{f:O}{a:U}{d e sv g:M}{l:C SV}{b:C Nat}{h i j k:Nat}
def adp (X:c.Ok)(L:V9 f c d e sv l g b a h i j k)(p:Nat×Nat)(q:Nat)(w:SV)(D:l[q]? =some w)(hl:l.length<=1000)(h1:p.1+(w.S.iC c a).1<18446744073709551616)(h2:p.2+(w.S.iC c a).2<18446744073709551616):
 Sn 240 [uZ p,F q,Z h,Z i,Z j,Z k] f λr H=>
  r=uZ (if q∈b then(p.1+(w.S.iC c a).1,p.2+(w.S.iC c a).2)else p)/\H=[]:=by
 obtain⟨ah,p3,p4,p5,E,Q,tb,ok,ab,sl⟩:=L
 have ar:=(da.1 D).1
 obtain⟨A,cp,rfl,-,al,hA⟩:=id E.1
 obtain⟨aj,o,rfl,-⟩:=hA.resolve_left (by omega)
 obtain⟨B,cs,rfl,-⟩:=id Q
 obtain⟨f1,f2⟩:=E.form D
 obtain⟨ad,ae,af,ag⟩:=ok w (eH D)
 obtain⟨d1,d2⟩:=E.2 w (eH D)
 refine enter (g:=35) func240 rfl rfl [(0,PE [J p.1,J p.2]),(1,_),(2,_),(3,_),(4,_),(5,_)] rfl ⟨rfl,rfl,rfl,rfl,rfl,rfl,trivial⟩ hS ?_
 refine Mf λy am=>?_
 refine dj [J 0,J 0] λz an=>?_
 refine cB ?_
 refine I (jd (hc:=ah)) ?_
 refine cQ ?_
 refine dZ rfl rfl (jd (hc:=p3)) ?_
 refine Y ?_
 refine nh rfl rfl (eB func241 (λf s=>Y7 B cs b q f (Q.dx s) sl)) ?_
 rintro _ _ w2 ⟨_,rfl,rfl,rfl⟩
 refine fP (λx=>?_) λx=>?_
 .have P:q∉b:=λW=>by rw[gb W]at x;cases x
  refine K3 1 (f:=[J p.1,J p.2]) ?_;refine cO 0 (H:=[_,_]) λao=>?_;refine cH [8] ?_;refine eM ?_;refine⟨_,_,λv T s=>eW results240 (eX (e4 0 rfl underlying96 rfl (by kernel_rfl) rfl) eY) v T _ s,iw _,?_⟩;rw[cJ P];exact⟨rfl,rfl⟩
 .have hi:q∈b:=pI λW=>x (by rw[fL W];rfl);refine cC ?_;refine eS (λm H w'=>∃R:Nat,m=[(6,Z y),(8,Z z),(9,Z R)]/\H=[cF R [J ((w.S.iC c a).1:Int),J ((w.S.iC c a).2:Int)] 96,cF z [J 0,J 0] 96,cF y [J p.1,J p.2] 96]) ?_ ?_
  .refine xr (.fl 0 (.fl 1 (.fl 2 (.fl 3 (.fl 4 (.fl 5 (.two 6 (.fl 7 (.fl 8 (.fl 9 (.ef 10 (.ef 11 (.fl 12 .done)))))) 10 (.ef 6 (.fl 7 (.fl 8 (.fl 9 (.ef 11 (.fl 12 .done))))))))))))) ([]) ([_,_]) lN (by kernel_rfl) (by kernel_rfl) rfl (cD _) (λai=>?_);refine nW rfl (kY (b:=cP c d e) (hc:=p4)) ?_;refine nW rfl (jd (hc:=ah)) ?_;refine Y ?_;refine nW rfl (cR (ab:=q)) ?_;refine nW rfl (kY (b:=nc w) (hc:=λak u hu=>E.at_ D hu)) ?_;refine nW rfl (jd (hc:=p5)) ?_;refine rV ?_ ?_
   .refine fF rfl (eB func242 (λf s=>Ta X d e w.e w.rv (d1.dx s) (o7.dx d2 s) ad ae (tb.dx s) ab af ag)) ?_;rintro _ _ w4 ⟨_,rfl,rfl,rfl⟩;refine⟨_,cD _,?_⟩;refine cQ ?_;refine fY (fF rfl (mP [J 0,J 0]) ?_);rintro _ _ G ⟨t,rfl,rfl⟩;refine⟨_,eg.symm,?_⟩;refine fY (lK rfl (gD 0) ?_);rintro _ _ K rfl;refine⟨_,cD _,?_⟩;refine Y ?_;refine IM [6,8,9] ?_;exact⟨t,rfl,rfl⟩
   .refine fF rfl (mP [J 0,J 0]) ?_;rintro _ _ G ⟨t,rfl,rfl⟩;refine⟨_,eg.symm,?_⟩;refine fY (fF rfl (eB func242 (λf s=>Ta X d e w.e w.rv (d1.dx s) (o7.dx d2 s) ad ae (tb.dx s) ab af ag)) ?_);rintro _ _ w4 ⟨_,rfl,rfl,rfl⟩;refine⟨_,cD _,?_⟩;refine cQ ?_;refine fY (lK rfl (gD 0) ?_);rintro _ _ K rfl;refine⟨_,cD _,?_⟩;refine Y ?_;refine IM [6,8,9] ?_;exact⟨t,rfl,rfl⟩
  rintro _ _ ai ⟨R,rfl,rfl⟩;refine K3 2 (f:=[J p.1,J p.2]) ?_;refine I (di 0 (b:=[J ((w.S.iC c a).1:Int),J ((w.S.iC c a).2:Int)])) ?_;refine dd func188 (λf s=>Xr p (w.S.iC c a) f h1 h2) ?_;rintro _ _ ap ⟨rfl,rfl⟩;refine cO 1 (H:=[_,_]) λaq=>?_;refine cH [8] ?_;refine eM ?_;refine⟨_,_,λv T s=>eW results240 (eX (e4 1 rfl underlying96 rfl (by kernel_rfl) rfl) eY) v T _ s,iw _,?_⟩;rw[cM hi];exact⟨rfl,rfl⟩
end
def pn (b:Nat->Nat)(a d:C Nat):Nat:=((d.filter λc=>decide (c∈a)).map b).sum
def Se (d:Nat->Nat)(a e:C Nat)(c:Nat):pn d a (e++[c])=pn d a e+if c∈a then d c else 0:=by
 unfold pn;rw[qT,dE,mV];congr 1;by_cases b:c∈a
 .rw[oC (by simpa using b),cM b];simp
 .rw[nI (by simpa using b),cJ b];rfl
def Sc {g d:Nat->Nat}{b f:C Nat}(a:∀c∈f,g c<=d c)(h:Nat):pn g b (f.take h)<=(f.map d).sum:=by unfold pn;refine gF (vG (f:=d) _ λc e=>a c (qq (kE.1 e).1)) ?_;exact xn ((vZ.trans (wg _ _)).map _)
def Sd {f:Nat->Nat}{d:PC}(b:d.Ok)(a:U){g:C Nat}(c:g.Perm (List.range d.dm)):pn f (d.set a) g=((d.set a).map f).sum:=by unfold pn;refine List.Perm.sum_nat (List.Perm.map _ ((tH ((c.nodup_iff.2 zb).filter _) (PC.Mm b a)).2 λh=>?_));rw[kE,c.mem_iff,lE];simp only[fU];exact⟨λe=>e.2,λe=>⟨PC.xj b e,e⟩⟩
def Yb (a:U)(c d:Int)(b:O):(Instr.build 48 [(0,.string a),(1,J c),(2,J d)].toArray).run prog b=.ok (PE [.string a,J c,J d]) b:=by kernel_rfl
def me.dx {d h:O}{b:Nat->Prop}{i:C V}{sv:M}{f:C SV}(e:me d b sv f)(a:cI d b i h):me h cW sv f:=⟨e.1.dx a,λg c=>⟨(e.2 g c).1.dx a,o7.dx (e.2 g c).2 a⟩⟩
section
variable{b:PC}{d:O}{a:U}{h i sv f:M}{e:C SV}{g:C Int}{c:Nat->PS}
def adJ (y:b.Ok)(hL:e.length=b.dm)(am:∀(k:Nat)(D:SV),e[k]? =some D->D.S=c k)(hr:me d cW sv e)(ht:Rd d cW 1 i 16 (dF b.table))(ap:∃A n b,h=.slice A n b)(ok:∀D∈e,(D.S.R=[]\/D.S.R.length=b.depth)/\(∀r∈D.S.R,r.length=b.width)/\D.S.E.length<=1000000/\∀p∈D.S.E,p.2.1+p.2.2<18446744073709551616)(hk:a.size<=140737488355328)(ag:∀k,k<b.dm->((c k).iC b a).1<=(c k).total/\((c k).iC b a).2<=(c k).total)(aq:((List.range b.dm).map λk=>(c k).total).sum<=9223372036854775808)(hp:Rd d cW 1 f g.length (oT g))(hP:g.length<=1000000)(al:∀p∈g,-4611686018427387904<=p/\p<=4611686018427387904):Sn 179 [gV b h i,sv,.string a,f] d λr H=>r=PE [.string a,J ((ot b c a).2.1:Int),J ((ot b c a).2.2:Int)]/\H=[]:=by
 have aJ:=y.dm;have aK:=y.spread;obtain⟨A,cp,rfl,-⟩:=id hr.1;obtain⟨At,x,rfl,-⟩:=id ht;obtain⟨v,B,w,rfl⟩:=ap;refine enter (g:=38) func179 rfl rfl [(0,.agg (cP b (.slice v B w) (.slice At 16 x)).toArray),(1,_),(2,_),(3,_)] rfl ⟨rfl,rfl,rfl,rfl,trivial⟩ hS ?_;refine Mf (f:=cP b (.slice v B w) (.slice At 16 x)) λG av=>?_;refine dK λK aw=>?_;refine dK λs ax=>?_;refine dj [vE,J 0,J 0] λQ ay=>?_;refine K3 3 (f:=cP b (.slice v B w) (.slice At 16 x)) ?_;refine Ku func122 (λd l=>S2 y (.slice v B w) (.slice At 16 x) a d (ht.dx l) hk) ?_;rintro _ _ w2 ⟨P,cs,rfl,rfl,ao⟩;refine CN vN λT az=>?_;refine cO 0 (H:=[vS P b.spread b.spread]) λaA=>?_;refine cB ?_;refine I (wQ rfl rfl) ?_;refine NV [J 0,J 0] λW aB=>?_;refine cH [3,4,6,8,10,11] ?_;refine df ?_;refine I (dH 6 (n:=F b.dm)) ?_;refine dd func243 (λd l=>ahn f g b.dm d (hp.dx l) (by omega) hP al) ?_;rintro uo _ w3 ⟨o,t,rfl⟩;refine kq λl=>?_;have aG:o.length=b.dm:=by have:=t.length_eq;rwa [sZ]at this
 obtain⟨Ao,co,rfl⟩:=fS l (p:=0) rfl;clear l;refine K4 [6,8,10,11,21,22,23] ?_;refine dB (λq m H d=>∃k:Nat,m=[(6,Z s),(8,Z Q),(10,.func (.func 240) #[] #[Z K,Z T,Z G,Z s]),(11,Z W),(21,.slice Ao b.dm co),(22,F b.dm),(23,F k)]/\H=[row (.slice Ao b.dm co) 3 1 b.dm (ec o),cF W [J (pn (λk=>((c k).iC b a).1) (b.set a) (o.take k):Int),J (pn (λk=>((c k).iC b a).2) (b.set a) (o.take k):Int)] 96,cF T [vS P b.spread b.spread] 22,cF P cs 166,cF Q [vE,J 0,J 0] 48,cF s [.string a] 9,cF K [.slice A e.length cp] 201,cF G (cP b (.slice v B w) (.slice At 16 x)) 27]/\q+k=b.dm) b.dm ⟨0,rfl,rfl,rfl⟩ ?_;rintro q _ _ w4 ⟨k,rfl,rfl,hq⟩;refine cZ (λan=>?_) λan=>?_
 .obtain⟨p,ab⟩:∃p,o[k]? =some p:=⟨o[k]'(by omega),dr (by omega)⟩;have ar:p<b.dm:=lE.1 (t.mem_iff.1 (eH ab));obtain⟨D,hv⟩:∃D,e[p]? =some D:=⟨e[p]'(by omega),dr (by omega)⟩;have X:=am p D hv;have af:o.take (k+1)=o.take k++[p]:=by rw[ia,ab];rfl
  have ak:(o.map λk=>(c k).total).sum<=9223372036854775808:=by rw[(t.map _).sum_nat];exact aq
  have ai:=Sc (g:=λk=>((c k).iC b a).1) (d:=λk=>(c k).total) (b:=b.set a) (f:=o.take k) (λk ah=>(ag k (lE.1 (t.mem_iff.1 (qq ah)))).1) k;have aj:=Sc (g:=λk=>((c k).iC b a).2) (d:=λk=>(c k).total) (b:=b.set a) (f:=o.take k) (λk ah=>(ag k (lE.1 (t.mem_iff.1 (qq ah)))).2) k;rw[xF,Nat.min_self]at ai aj;have au:((o.take k).map λk=>(c k).total).sum+(c p).total<=9223372036854775808:=by have h1:((o.take (k+1)).map λk=>(c k).total).sum<=(o.map λk=>(c k).total).sum:=xn ((wg _ _).map _);rw[af,dE,mV]at h1;simp only[dA,kD,iE,pM]at h1;omega
  have aI:(c p).total<=9223372036854775808:=gF (by have:=xn ((List.singleton_sublist.2 (eH ab)).map λk=>(c k).total);simpa using this) ak;obtain⟨aE,aF⟩:=ag p ar;refine eQ λl=>?_;obtain⟨go,c2,ae⟩:=fs l (q:=0) rfl;injection ae with e1 e2 e3;subst e1;subst e3;clear l e2;refine df ?_;refine I (cR (ab:=k)) ?_;refine I (gj 0 (n:=F p) (hv:=by unfold ec;rw[dU,fT,eK,ab];rfl)) ?_;refine K3 1 (f:=[J (pn (λk=>((c k).iC b a).1) (b.set a) (o.take k):Int),J (pn (λk=>((c k).iC b a).2) (b.set a) (o.take k):Int)]) ?_;refine Y ?_;refine dw (q7 [] _ rfl rfl func240 (by kernel_rfl) (cD _) (λd l aH=>by rw[so];exact adp (d:=.slice v B w) (e:=.slice At 16 x) (sv:=.slice A e.length cp) (g:=vS P b.spread b.spread) (b:=b.set a) (l:=e) (a:=a) y ⟨by rw[rz (m:=prog) l (l:=6) rfl];rfl,by rw[rz (m:=prog) l (l:=2) rfl];rfl,λj u hu=>by rw[rz (m:=prog) l (l:=7) rfl,dU];exact hu,by rw[rz (m:=prog) l (l:=5) rfl];rfl,me.dx hr l,by rw[PC.HW];exact Rd.N5 0 l (o:=3) rfl (λj u hu=>by rw[dU];exact ao j u hu) (by rw[ab0,PC.HW,fT]) (dT _),ht.dx l,ok,hk,by rw[PC.HW];omega⟩ (pn (λk=>((c k).iC b a).1) (b.set a) (o.take k),pn (λk=>((c k).iC b a).2) (b.set a) (o.take k)) p D hv (by omega) (by rw[X];dsimp only;omega) (by rw[X];dsimp only;omega))) ?_;rintro _ _ w5 ⟨_,rfl,rfl,rfl⟩;rw[X];refine iQ (Kh 1 (t:=[J (pn (λk=>((c k).iC b a).1) (b.set a) (o.take (k+1)):Int),J (pn (λk=>((c k).iC b a).2) (b.set a) (o.take (k+1)):Int)]) (v:=[J (pn (λk=>((c k).iC b a).1) (b.set a) (o.take (k+1)):Int),J (pn (λk=>((c k).iC b a).2) (b.set a) (o.take (k+1)):Int)]) rfl rfl rfl (by
   rw[af,Se,Se];by_cases z:p∈b.set a
   .rw[cM z,cM z,cM z];rfl
   .rw[cJ z,cJ z,cJ z];rfl) (by kernel_rfl) (by simp[Value.oneCell']) rfl rfl) ?_
  rintro _ _ aC rfl;refine ir [6,8,10,11,21,22,23] ?_;exact⟨q-1,by omega,k+1,rfl,rfl,by omega⟩
 .obtain rfl:k=b.dm:=by omega
  rw[gS (by omega),Sd y a t,Sd y a t];refine dI ?_;refine cC ?_;refine I (dH 5 (n:=.string a)) ?_;refine cL ?_;refine I (ee (Yb _ _ _)) ?_;refine cO 4 (H:=[_,_,_]) λaD=>?_;refine cH [8] ?_;refine eM ?_;refine⟨_,_,λad ha l=>eW results179 (eX (e4 4 rfl underlying48 rfl (by kernel_rfl) rfl) eY) ad ha _ l,iw _,?_⟩;exact⟨rfl,rfl⟩
end
end Go.Proofs.YtdlpoonfcdoiiaaGreat
