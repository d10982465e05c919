/- What the code does, step by step, and plain facts: part 16. They have no conditions. -/
import Derived.Test.YtdlpoonfcdoiiaaGreatMB15
namespace Go.Proofs.YtdlpoonfcdoiiaaGreat
open Go.RowKit Go.Proofs.Tryz
set_option maxHeartbeats 40000000
set_option linter.all false
def jY.adW {c:MC}{j:C Cl}{k:C Int}(h:AI c.K j k [])(e:c.gW<=8192)(f:c.lr<=255)(g:c.Ok):jY c [] [] j k [((0,0,0),0)] []:=by
 refine⟨⟨h,⟨⟨_,rfl⟩,List.Pairwise.nil,λl q d=>(by cases d),λm b=>(nomatch b),λo p q d=>(by cases d)⟩,λm b=>(nomatch b),λm b=>(nomatch b),λo _=>gK _,gK _⟩,λn d r a i=>?_,by show 1<=_;omega,e,f,g⟩
 match n,a with
 |0,a=>injection a with a;injection a with _ a;exact absurd a.symm i
def OB (d:PC)(a c:M)(b:Nat):C M:=cP d a c++[vQ,vN,Z b,vN,J 0,.bool false,F 0]
def XT (h:PC)(f g:cG Addr)(c a d b e:Nat)(i:O):(Instr.build 123 [(0,gV h (.slice f c a) (.slice g d b)),(3,Z e)].toArray).run prog i=.ok (.agg (OB h (.slice f c a) (.slice g d b) e).toArray) i:=by kernel_rfl
def Ue:fB prog 119 129 1 8 vQ:=.mk' underlying119 (by kernel_rfl) rfl (by decide)
def Ad (a:Nat×V):SS:=⟨a.1,[],[],[],a.2⟩
def G8:∀a:C (Nat×V),lhs (a.map Ad)=[]/\nN (a.map Ad)=[]
 |[]=>⟨rfl,rfl⟩
 |b::a=>⟨by rw[dA];exact(G8 a).1,by rw[dA];exact(G8 a).2⟩
section
variable{a:PC}{c:O}{d:C (Nat×Nat)}{b:C Nat}
def aja {g j:Nat}{f:C TW}{i:V}:tN a g (SS.mk j [] [] f i):=⟨λh e=>(nomatch e),λh e=>(nomatch e),λk=>by show eA (ez k [])<=_;exact gK _,λh e=>(nomatch e)⟩
def Oo {cv tv:M}(g:a.Ok)(B:lU b)(W:Rd c cW 2 cv (fM a b).length (lI (fM a b)))(ht:Rd c cW 1 tv 16 (dF a.table)):Sn 24 [gV a cv tv] c λu H=>∃z ah TV rm ab G,u=PF [Z z.k,F 0]/\H=[cz (dO a ah TV z G rm ab (cz []))]/\z.idle/\z.wm=0/\(∃A n a,ah=.slice A n a)/\jr a b ah TV (a.low 0) z G rm ab (dg.new a):=by
 have ak:=J0 (a:=b) g B;have an:=ak.len;have X:=g.dm;have av:=g.ga;have ag:=g.queue;obtain⟨p,t,rfl,-⟩:=id W;obtain⟨E,d0,rfl,-⟩:=id ht;have ap:ni a c cW (.slice p (fM a b).length t) (.slice E 16 d0) (fM a b):=⟨ak,by rw[Gb];exact B,W,_,_,rfl⟩;obtain⟨a1,ae⟩:∃e,e=a.dm*a.ga:=⟨_,rfl⟩;have b1:a1<=16:=by rw[ae];exact mb X.2 av.2
 have b3:a.ix<=4*64:=mb X.2 ag.2;have b5:1<=a.ix:=mb X.1 ag.1;have b4:a.ie<=16*7:=by unfold PC.ie;rw[<-ae];exact mb b1 (by have:=g.et;have:=g.exact;omega)
 have e3:(a.dm:Int)*(a.queue:Int)=(a.ix:Int):=by rw[<-nH];rfl
 refine enter (g:=83) func24 rfl rfl [(0,.agg (cP a (.slice p (fM a b).length t) (.slice E 16 d0)).toArray)] rfl ⟨rfl,trivial⟩ hS ?_;refine Mf (f:=cP a (.slice p (fM a b).length t) (.slice E 16 d0)) λaA aB=>?_;refine K3 0 (f:=cP a (.slice p (fM a b).length t) (.slice E 16 d0)) ?_;refine dd func41 (λc i=>asZ g B (W.dx i) ⟨_,_,rfl⟩) ?_;rintro _ _ aD ⟨rfl,rfl⟩;refine K3 0 (f:=cP a (.slice p (fM a b).length t) (.slice E 16 d0)) ?_;refine dd func42 (λc i=>YJ (W.dx i) (ht.dx i) an.2) ?_;rintro _ _ w2 ⟨o,w,j,d1,rfl,rfl⟩;refine dd func43 (λc i=>ada c) ?_;rintro _ _ w3 ⟨K,ab,rfl,rfl,aq⟩;refine I (ee (λc=>XT a o j _ _ _ _ K c)) ?_;refine dK (l:=OB a (.slice o (fM a b).length w) (.slice j 16 d1) K) λf aE=>?_;refine N [1,5] ?_;refine N [1,5] ?_;refine df ?_;refine I (dH 4 (n:=.slice p (fM a b).length t)) ?_;refine dd func44 (λc i=>W1 (fM a b) _ c ak (W.dx i)) ?_;rintro _ _ w4 ⟨e,ra,rfl,rfl,ar⟩;refine KW 1 (G:=xY a (.slice o (fM a b).length w) (.slice j 16 d1) ⟨f,e,0,K,vN,vN,0,false,0⟩) λaF=>?_;refine N [1,5,6] ?_;refine N [1,5,6,30] ?_;refine cQ ?_;refine oW [0,1,2,3,4,6,7,8,9,10,1005,11,1012,13,14,15,16,17] [_,_,_,_,_,_] [] (ik _) λaG=>?_;refine cQ ?_;refine cN rfl (dH 1 (n:=Z e)) ?_;refine cN rfl (di 5 (b:=cP a (.slice p (fM a b).length t) (.slice E 16 d0))) ?_;refine Y ?_;refine cN rfl (dH 5 (n:=F a.dm)) ?_;refine Y ?_;refine cN rfl (dH 5 (n:=F a.queue)) ?_;refine cN rfl (cU (z:=F a.ix) (oh rfl rfl (by rw[e3];omega)) (by rw[e3])) ?_;refine eh rfl (eB func46 (λc i=>MF g (ap.dx i))) ?_;rintro _ _ w5 ⟨_,rfl,rfl,rfl⟩;refine⟨_,cD _,?_⟩;refine cN rfl (cU (z:=F ((a.ie+a.ix:Nat):Int)) (kH rfl rfl) (by rw[gR])) ?_;refine eh rfl (eB func45 (λc i=>ahI e (a.ie+a.ix) (by omega) (by omega) c)) ?_;rintro _ _ w6 ⟨_,rfl,al,ev,nb,rfl,rfl⟩;refine⟨_,lF (l₁:=[_]) (l₂:=[_,_,_,_,_,_]),?_⟩;refine N [1,5,6,7] ?_;refine N [1,5,6,7,49] ?_;refine eL ?_;refine I (dH 5 (n:=F a.dm)) ?_;refine N [5,7,52,53] ?_;refine Y ?_;obtain⟨T,ai,aj,rfl,am⟩:=ar;refine cK [0,5,0,0,1] ?_;refine dG (d:=[_,_,_]) [_,_] ?_;refine dG [] ?_;refine gh 129 1 ?_;refine cK [3,4,2,2,0,0] ?_;refine dB (λq m H w'=>∃(P:Nat)(Q:cG Addr)(R:Nat)(G:C (Nat×V)),m=[(5,Z f),(7,Z al),(52,F a.dm),(53,F P)]/\H=[cF f (xY a (.slice o (fM a b).length w) (.slice j 16 d1) ⟨f,e,al,K,.slice Q P R,vN,0,false,0⟩) 123,row (.slice j 16 d1) 23 1 16 (dF a.table),cz (pZ e al (a.ie+a.ix) T ai aj ev [((0,0,0),0)] nb []),ab,row (.slice Q P R) 129 1 P ((G.map Ad).map na),cz ((G.map Ad).map (·.r))]/\q+P=a.dm/\G.length=P/\∀x∈G.map Ad,oI e al a (.slice o (fM a b).length w) (.slice j 16 d1) x.s [] [] [] x.r) a.dm ⟨0,_,_,[],rfl,rfl,rfl,rfl,λx h=>(nomatch h)⟩ ?_;rintro q _ _ w7 ⟨P,Q,R,G,rfl,rfl,hq,D,af⟩;refine cZ (λao=>?_) λao=>?_
 .refine cL ?_;refine eO 15 [9] [_,_,_,_,_,_] [] (ik _) λaC=>?_;refine cQ ?_;refine cN rfl (dH 0 (n:=Z e)) ?_;refine cL ?_;refine cN rfl (di 0 (b:=cP a (.slice o (fM a b).length w) (.slice j 16 d1))) ?_;refine eh rfl (eB func47 (λc i=>ajr g ⟨_,_,_,rfl⟩ ⟨_,_,_,rfl⟩ c)) ?_;rintro _ _ w8 ⟨_,rfl,sp,rs,rfl,rfl,au⟩;refine⟨_,lF (l₁:=[_]) (l₂:=[_,_,_,_,_,_]),?_⟩;refine N [5,7,8,9,52,53] ?_;refine N [5,7,8,9,52,53,69] ?_;refine fw ?_;refine I (dH 0 (n:=.slice Q P R)) ?_;refine Y ?_;refine gZ Ue (ae:=by decide) λax ay=>?_;refine dw (jo 5 Ue) ?_;rintro _ _ w9 ⟨⟨Q2,ad,rfl⟩,rfl⟩;refine KW 1 (G:=xY a (.slice o (fM a b).length w) (.slice j 16 d1) ⟨f,e,al,K,.slice Q2 (P+1) ad,vN,0,false,0⟩) λaw=>?_;refine cH [5,7,52,53] ?_;refine cK [7,6,1,1,1,1,1] ?_;refine lh (qZ (j:=(G.map Ad).map (·.r)++[rs]) (pK _ _)) ?_;refine cK [1,1,1,1,1,0] ?_;refine N [5,7,52,53] ?_;refine⟨q-1,by omega,P+1,Q2,ad,G++[(sp,rs)],rfl,?_,by omega,by simp[D],λx l=>?_⟩
  .simp only[dE];rfl
  .rw[dE]at l;rcases dV.1 l with l|l
   .exact af x l
   .obtain rfl:=fI.1 l;exact au
 .obtain rfl:P=a.dm:=by omega
  refine dI ?_;refine N [2,3] ?_;refine dG [] ?_;refine cK [1,1,1,1,1,1,0] ?_;refine dG (d:=[]) [_,_,_,_,_,_,_] ?_;refine dP results24 ?_;refine⟨⟨f,e,al,K,.slice Q a.dm R,vN,0,false,0⟩,(.slice o (fM a b).length w),(.slice j 16 d1),cz (pZ e al (a.ie+a.ix) T ai aj ev [((0,0,0),0)] nb []),ab,G.map Ad,rfl,?_,⟨rfl,rfl,rfl⟩,rfl,⟨_,_,_,rfl⟩,λx l=>?_,by rw[dL,D],?_,rfl,aq,?_⟩
  .unfold dO;rw[dL,D]
  .obtain⟨y,hy,rfl⟩:=dz.1 l;exact⟨af _ l,aja⟩
  .show List.replicate a.dm _=_;rw[jj,<-D];exact(List.eq_replicate_iff.2 ⟨by simp,λaz hb=>by obtain⟨y,_,rfl⟩:=dz.1 hb;rfl⟩).symm
  .rw[(G8 G).1,(G8 G).2];exact⟨T,ai,aj,ev,[((0,0,0),0)],nb,[],rfl,jY.adW am (by show a.ie+a.ix<=8192;omega) g.key.2 (adD g B)⟩
end
section
variable{i:Nat}{f:PC}{n:C Nat}{a d o:M}{j:O}{e c g:V}{h:CA}{b:C SS}{l:dg}{m:C Int}{k:gP}
def YZ {q:Nat}(E:q<f.dm)(w:f.Ok)(x:∃k t f,a=.slice k t f)(p:jr f n a d i h b e c l)(h0:Hl j (cz (dO f a d h b e c g))):
 Sr 55 [Z h.k,F q] j (cz (dO f a d h b e c g)) λ_ D=>∃s A,D=[cz (dO f a d h A s c g)]/\jr f n a d i h A s c (l.step q):=by
 have R:=w.dm
 obtain⟨k,P,K,rfl,rfl⟩:=EF (f:=b) (r:=q) (by rw[p.len];exact E)
 have r:=p.len
 obtain⟨T,L,B,v,S⟩:=P
 have u:(l.step k.length).sh=(k.map SS.sh)++(SS.sh ⟨T,L,B,v,S⟩).step::K.map SS.sh:=by
  show l.sh.modify k.length _=_;rw[p.sh,dE,dA];have:=RW (k.map SS.sh) (K.map SS.sh) (SS.sh ⟨T,L,B,v,S⟩) e8.step
  rwa [dL]at this
 cases B with
 |nil=>have H:=p.ok _ (iA _ (dQ ..));refine(YX h0 H.r (by rw[r];omega)).mono ?_;rintro X D ⟨rfl,rfl⟩;refine⟨e,_,rfl,p.ok,r,?_,p.wm,p.lg,p.mem⟩;rw[u,dE,dA];rfl
 |cons y B=>refine(YY w x p.ok r p.mem h0).mono ?_;rintro X D ⟨s,W,Q,rfl,rfl,z,G⟩;refine⟨s,_,rfl,z,by rw[<-r];simp,?_,p.wm,p.lg,G⟩;rw[u,dE,dA];rfl
def mJ (q:C Nat):C Nat:=(List.range q.length).filter λp=>decide (0<q.getD p 0)
def ah9 {r:C Nat}{p:Nat}(q:p∈mJ r):p<r.length:=lE.1 (kE.1 q).1
def xf (r:C Nat)(q:Nat):C Nat:=(List.range q).filter λp=>decide (0<r.getD p 0)
def ah8 (r:C Nat)(p:Nat):(xf r p).length<=p:=by
 have:=AV (λq=>decide (0<r.getD q 0)) (List.range p)
 rwa [sZ]at this
def aid (D:jr f n a d i h b e c l)(E:f.Ok)(h0:Hl j (cz (dO f a d h b e c g))):Sr 54 [Z h.k] j (cz (dO f a d h b e c g)) λA H=>H=[cz (dO f a d h b e c g),row A 3 1 (mJ (ja b)).length (ec (mJ (ja b)))]:=by
 have P:=D.len;have ae:=E.dm;have R:(ja b).length=b.length:=dL _;have hQ:∀x∈ja b,x<=64:=λx y=>by obtain⟨T,Q,rfl⟩:=dz.1 y;have:=((D.ok T Q).iC E).2.2.2.1;have:=E.queue;omega
 refine dS func54 h0 ?_;refine cB ?_;refine cY ((cz (dO f a d h b e c g))) [] func89 (cD _) (λj w S=>Y0 D.ok (by omega) S) ?_;rintro uq _ w2 rfl;refine kq λw=>?_;obtain⟨G,z,rfl⟩:=fS w (p:=1) rfl;clear w;refine N [3,7,8,9] ?_;refine Y ?_;refine gh 3 1 ?_;refine dB (λT r H w'=>∃(p:Nat)(A:M),r=[(3,A),(7,.slice G b.length z),(8,F b.length),(9,F p)]/\H=[row A 3 1 (xf (ja b) p).length (ec (xf (ja b) p)),cz (dO f a d h b e c g),row (.slice G b.length z) 3 1 b.length (ec (ja b))]/\T+p=b.length) b.length ⟨0,_,rfl,rfl,rfl⟩ ?_;rintro T _ _ w3 ⟨p,A,rfl,rfl,Q⟩;refine cZ (λK=>?_) λK=>?_
 .obtain⟨x,y⟩:∃x,(ja b)[p]? =some x:=⟨_,dr (by omega)⟩;have af:=hQ x (eH y);have ad:=ah8 (ja b) p;have t:xf (ja b) (p+1)=xf (ja b) p++if 0<x then[p]else[]:=by
   unfold xf;rw[pL,qT];congr 1;have:(ja b).getD p 0=x:=by rw[jM,y];rfl
   by_cases q:0<x
   .rw[cM q,oC (by rw[this];simpa using q)];rfl
   .rw[cJ q,nI (by rw[this];simpa using q)];rfl
  refine eQ λw=>?_;obtain⟨u,c2,B⟩:=fs w (q:=2) rfl;injection B with X _ e3;subst X;subst e3;clear w;refine cC ?_;refine eS (λr H w'=>∃A:M,r=[(3,A),(7,vS u b.length z),(8,F b.length),(9,F p)]/\H=[row A 3 1 (xf (ja b) (p+1)).length (ec (xf (ja b) (p+1))),cz (dO f a d h b e c g),row (vS u b.length z) 3 1 b.length (ec (ja b))]) ?_ ?_
  .refine cL ?_;refine I (cR (ab:=p)) ?_;refine I (gj 2 (n:=F x) (hv:=by unfold ec;rw[dU,fT,eK,y];rfl)) ?_;refine cZ (λL=>?_) λL=>?_
   .have s:0<x:=by omega
    rw[cM s]at t;refine cQ ?_;refine gZ mj (ae:=by decide) λW ab=>?_;refine dw (jo 1 mj) ?_;rintro u2 _ w4 ⟨_,rfl⟩;refine fu [1,1,1] ?_;refine N [3,7,8,9] ?_;refine⟨u2,rfl,?_⟩;rw[t,GS,cX];rfl
   .have s:¬0<x:=by omega
    rw[cJ s,eN]at t;refine kw [3,7,8,9] rfl (iY ?_);exact⟨A,rfl,by rw[t]⟩
  .rintro _ _ w5 ⟨u2,rfl,rfl⟩;refine N [3,7,8,9] ?_;exact⟨T-1,by omega,p+1,u2,rfl,rfl,by omega⟩
 .obtain rfl:p=b.length:=by omega
  refine dI ?_;refine N [2] ?_;refine cK [1,0] ?_;refine dP results54 ?_;unfold mJ xf;rw[R];rfl
def ahH (R:f.Ok)(W:∃k L f,a=.slice k L f)(hI:jr f n a d i h b e c l)(hp:Rd j (cz (dO f a d h b e c g)).fq 1 o m.length (oT m))(hP:m.length<=1000000)(h0:Hl j (cz (dO f a d h b e c g))):Sr 28 [Z h.k,o] j (cz (dO f a d h b e c g)) λ_ H=>∃(t:V)(z:C SS)(w:C Nat),H=[cz (dO f a d h z t c g)]/\jr f n a d i h z t c (w.foldl dg.step l):=by
 obtain⟨Ap,cp,rfl,-,-,hA⟩:=id hp;refine dR func28 h0 ?_;refine K4 [0,1,9,10] ?_;refine dB (λq K H w'=>∃(r:Nat)(t:V)(z:C SS)(w:C Nat),K=[(0,Z h.k),(1,.slice Ap m.length cp),(9,F m.length),(10,F r)]/\H=[cz (dO f a d h z t c g)]/\q+r=m.length/\jr f n a d i h z t c (w.foldl dg.step l)) m.length ⟨0,e,b,[],rfl,rfl,rfl,hI⟩ ?_;rintro q _ _ w2 ⟨r,A,p,w,rfl,rfl,hq,s⟩;refine cZ (λT=>?_) λT=>?_
 .obtain⟨B,hx⟩:∃B,m[r]? =some B:=⟨_,dr (by omega)⟩;obtain⟨gp,op,rfl,hF,_,E⟩:=hA.resolve_left (by omega);refine Pw 0 func54 (λj u x=>aid s R x) ?_;rintro ur _ w3 rfl;refine kq λu=>?_;obtain⟨Ar,cr,rfl⟩:=fS u (p:=1) rfl;clear u;refine cZ (λQ=>?_) λQ=>?_
  .refine N [4] ?_;refine cK [0] ?_;refine dP results28 ?_;exact⟨A,p,w,rfl,s⟩
  .have hn:0<(mJ (ja p)).length:=by have:¬((mJ (ja p)).length:Int)=0:=Q;omega
   have ag:(mJ (ja p)).length<=4:=by
    have D:=AV (λr=>decide (0<(ja p).getD r 0)) (List.range (ja p).length);rw[sZ]at D;have h2:(ja p).length=f.dm:=by rw[ja,dL,s.len]
    have:=R.dm;have h3:(mJ (ja p)).length<=(ja p).length:=D;omega
   have ae:B.tmod ((mJ (ja p)).length:Int)<((mJ (ja p)).length:Int):=AP B (by omega);have af: -((mJ (ja p)).length:Int)<B.tmod ((mJ (ja p)).length:Int):=Int.lt_tmod_of_pos B (by omega);have D:=xx (B.tmod ((mJ (ja p)).length:Int)+(mJ (ja p)).length) (show((mJ (ja p)).length:Int)≠0 by omega);have h2:=AN (B.tmod ((mJ (ja p)).length:Int)+(mJ (ja p)).length) (show(0:Int)<(mJ (ja p)).length by omega);obtain⟨ad,ht⟩:∃ad:Nat,(ad:Int)=(B.tmod ((mJ (ja p)).length:Int)+(mJ (ja p)).length) % (mJ (ja p)).length:=⟨_,rY D⟩;obtain⟨y,X⟩:∃y,(mJ (ja p))[ad]? =some y:=⟨_,dr (by omega)⟩;have P:y<f.dm:=by
    have:=ah9 (eH X)
    rwa [ja,dL,s.len]at this
   refine eQ λu=>?_;obtain⟨gr,c3,G⟩:=fs u (q:=1) rfl hn;injection G with e1 _ e3;subst e1;subst e3;clear u;refine eL ?_;refine I (cR (ab:=r)) ?_;refine I (jd (n:=F B) (hc:=by rw[fT];exact E r _ (by unfold oT;rw[eK,hx];rfl)) (hF:=hF)) ?_;refine Y ?_;refine I (zy rfl rfl (by omega) rfl) ?_;refine cQ ?_;refine I (cU (z:=F ad) (te rfl rfl ⟨by omega,by omega⟩) (by rw[ht])) ?_;refine I (cR (ab:=ad)) ?_;refine I (gj 1 (n:=F y) (hv:=by unfold ec;rw[dU,fT,eK,X];rfl)) ?_;refine cY ((cz (dO f a d h p A c g))) [_] func55 (cD _) (λj u x=>YZ P R W s x) ?_;rintro _ _ w5 ⟨ab,l2,rfl,S⟩;refine cH [0,1,9,10] ?_;refine cK [0] ?_;refine N [0,1,9,10] ?_;exact⟨q-1,by omega,r+1,ab,l2,w++[y],rfl,rfl,by omega,by rw[uK];exact S⟩
 .refine dI ?_;refine db results28 ?_;exact⟨A,p,w,rfl,s⟩
end
section
variable{b:PC}{c:O}{a:C (Nat×Nat)}{d:C Nat}
def ah3 (e:b.Ok)(g h:M)(c:O):Sn 67 [gV b g h] c λn j=>n=F 0/\j=[]:=by have k:=e.length;have l:=e.late;have m:=e.ga;refine dS func67 hS ?_;refine Mf λf i=>?_;refine N [1] ?_;refine N [30] ?_;refine N [2] ?_;refine gT results67 ?_;exact⟨rfl,rfl⟩
def aiO (f:cG Addr)(e:Nat)(c:O):Sn 113 [.slice f 16 e] c λh g=>h=F 0/\g=[]:=by refine dS func113 hS ?_;refine db results113 ?_;exact⟨rfl,rfl⟩
def aiN (f:b.Ok)(i:M)(k:cG Addr)(e:Nat)(c:O):Sn 68 [gV b i (.slice k 16 e)] c λp l=>p=F 0/\l=[]:=by have m:=f.dm;have n:=f.spread;refine dS func68 hS ?_;refine Mf λh j=>?_;refine cB ?_;refine nh rfl rfl (eB func113 (λc o=>aiO k e c)) ?_;rintro _ _ g ⟨_,rfl,rfl,rfl⟩;refine N [28] ?_;refine N [2] ?_;refine gT results68 ?_;exact⟨rfl,rfl⟩
def ah2 (a:C (Nat×Nat))(E:M)(c:O)(l:tC a)(r:Rd c cW 2 E a.length (lI a)):Sn 69 [E] c λR n=>R=F 0/\n=[]:=by
 have L:=l.len;obtain⟨A,h,rfl,-⟩:=id r;refine dS func69 hS ?_;refine K4 [0,13,14,15] ?_;refine dB (λw v n x=>∃g:Nat,v=[(0,.slice A a.length h),(13,.slice A a.length h),(14,F a.length),(15,F g)]/\n=[]/\w+g=a.length) a.length ⟨0,rfl,rfl,rfl⟩ ?_;rintro w _ _ S ⟨g,rfl,rfl,Q⟩;refine cZ (λp=>?_) λp=>?_
 .have q:g<a.length:=by omega
  obtain⟨f,m⟩:∃f,a[g]? =some f:=⟨_,dr q⟩;obtain⟨G,H,K⟩:=l.kI f (eH m);obtain⟨o,s,rfl,B,d1⟩:=r.at_ q;refine fw ?_;refine I (kY (b:=oK f) (hc:=tT d1 m)) ?_;refine dj [F 0,F 0] λk y=>?_;refine KW 0 (t:=[_,_]) (G:=[F f.1,F f.2]) λz=>?_;refine cH [0,3,4,13,14,15] ?_;refine N [0,3,4,13,14,15,37] ?_;refine cQ ?_;refine eS (λv n x=>v=[(0,.slice (some ⟨o,s,.none⟩) a.length h),(13,.slice (some ⟨o,s,.none⟩) a.length h),(14,F a.length),(15,F g),(50,.bool false)]/\n=[cF k [F f.1,F f.2] 68]) ?_ ?_
  .by_cases i:(0:Int)<(g:Int)
   .obtain⟨e,rfl⟩:∃e,g=e+1:=⟨g-1,by omega⟩;obtain⟨t,j⟩:∃f,a[e]? =some f:=⟨_,dr (by omega)⟩;have D:=l.od e t f j m;refine eO 13 [] [_] [] (ik _) λu=>?_;refine Y ?_;refine cN rfl (gA rfl rfl) ?_;refine cN rfl (cU (rh rfl) (dq Value.bool (gb i))) ?_;refine df ?_;refine fX rfl rfl rfl (cR (ab:=e) (hi:=by omega)) ?_;refine Y ?_;refine fX rfl rfl rfl (jd (n:=F t.1) (hc:=tT d1 j 0 _ rfl)) ?_;refine fX rfl rfl rfl (FZ rfl rfl (by omega)) ?_;refine N [0,13,14,15,50] ?_;exact⟨rfl,rfl⟩
   .refine eO 13 [] [_] [] (ik _) λu=>?_;refine Y ?_;refine cN rfl (gA rfl rfl) ?_;refine cN rfl (cU (rh rfl) (dq Value.bool (fL i))) ?_;refine N [0,13,14,15,50] ?_;exact⟨rfl,rfl⟩
  rintro _ _ T ⟨rfl,rfl⟩;refine cC ?_;refine cK [] ?_;refine N [0,13,14,15] ?_;exact⟨w-1,by omega,g+1,rfl,rfl,by omega⟩
 .refine dI ?_;refine N [2] ?_;refine gT results69 ?_;exact⟨rfl,rfl⟩
def abi {i m:Nat}(k:m=fC (a.map Prod.fst) i):(∀(n:Nat)(f:Nat×Nat),n<m->a[n]? =some f->f.1<i)/\∀f:Nat×Nat,a[m]? =some f->i<=f.1:=by
 refine⟨λn f l h=>?_,λf h=>?_⟩
 .rw[k]at l;have e:=Fp l;rw[wb]at e;obtain⟨g,rfl⟩:=da.1 h;simpa using e
 .have j:(a.map Prod.fst)[fC (a.map Prod.fst) i]? =some f.1:=by rw[<-k,eK,h];rfl
  have e:=(da.1 j).1;have g:decide (i<=(a.map Prod.fst)[fC (a.map Prod.fst) i])=true:=CW (w:=e);rw[(da.1 j).2]at g;simpa using g
def HO (a:C (Nat×Nat))(E:M)(k:Nat)(c:O)(w:tC a)(m:lU (a.map Prod.fst))(s:Rd c cW 2 E a.length (lI a))(Q:1<=k)(r:k<=256):Sn 39 [E,F k] c λW t=>W=PF [F (fC (a.map Prod.fst) k:Int),F 0]/\t=[]:=by
 have L:=w.len;obtain⟨G,v,rfl,-⟩:=id s;obtain⟨f,q⟩:∃f,f=fC (a.map Prod.fst) k:=⟨_,rfl⟩;have B:f<a.length:=by have:=m.fit r;rw[dL]at this;omega
 obtain⟨n,o⟩:=abi q;rw[<-q];refine dR func39 hS ?_;refine K4 [1,10,11,12] ?_;refine dB (λx S t X=>∃e:Nat,S=[(1,F k),(10,.slice G a.length v),(11,F a.length),(12,F e)]/\t=[]/\x+e=a.length/\e<=f) a.length ⟨0,rfl,rfl,rfl,gK _⟩ ?_;rintro x _ _ w1 ⟨e,rfl,rfl,R,D⟩;refine N [1,10,11,12,13] ?_;refine cC ?_;have h:e<a.length:=by omega
 obtain⟨j,i⟩:∃j,a[e]? =some j:=⟨_,dr h⟩;obtain⟨H,T,rfl,A,d1⟩:=s.at_ h;refine eL ?_;refine I (cR (ab:=e) (ad:=h)) ?_;refine I (kY (b:=oK j) (hc:=tT d1 i)) ?_;refine dj [F 0,F 0] λu y=>?_;refine KW 0 (t:=[_,_]) (G:=[F j.1,F j.2]) λz=>?_;refine cZ (λp=>?_) λp=>?_
 .have g:e=f:=by
   rcases np e f with l|l
   .have:=n e j l i;omega
   .omega
  subst g;refine N [4,5] ?_;refine cK [] ?_;refine dP results39 ?_;exact⟨rfl,rfl⟩
 .have g:e<f:=by
   rcases np e f with l|l
   .exact l
   .have K:e=f:=by omega
    subst K;have:=o j i;omega
  refine Y ?_;refine cK [] ?_;refine N [1,10,11,12] ?_;exact⟨x-1,by omega,e+1,rfl,rfl,by omega,by omega⟩
set_option maxRecDepth 4000 in
def ah4 {l n:M}(e:b.Ok)(A:b.mode=1)(k:ni b c cW l n a):Sn 38 [gV b l n] c λQ y=>Q=F 0/\y=[]:=by
 have z:=e.queue;have B:=e.et;have D:=e.exact;have E:=e.depth;have G:=e.width;have H:=e.top;have K:=e.key;have L:=k.ok.len;obtain⟨S,t⟩:=k.last;obtain⟨At,f,rfl⟩:=k.tv;have m:=k.rd;obtain⟨R,g,rfl,-,-,s⟩:=id k.rd;obtain⟨o,p,rfl,-,-,h⟩:=s.resolve_left (by omega);refine enter (g:=115) func38 rfl rfl [(0,.agg (cP b (.slice (some ⟨o,p,.none⟩) a.length g) (.slice At 16 f)).toArray)] rfl ⟨rfl,trivial⟩ hS ?_;refine Mf (f:=cP b (.slice (some ⟨o,p,.none⟩) a.length g) (.slice At 16 f)) λr u=>?_;refine K3 0 (f:=cP b (.slice (some ⟨o,p,.none⟩) a.length g) (.slice At 16 f)) ?_;refine dd func67 (λc j=>ah3 e _ _ c) ?_;rintro _ _ w ⟨rfl,rfl⟩;refine cC ?_;refine dZ rfl rfl (di 0 (b:=cP b (.slice (some ⟨o,p,.none⟩) a.length g) (.slice At 16 f))) ?_;refine nh rfl rfl (eB func68 (λc j=>aiN e _ At f c)) ?_;rintro _ _ x ⟨_,rfl,rfl,rfl⟩;refine fh ?_;refine eL ?_;refine dZ rfl rfl (cU (z:=.bool false) (jt rfl rfl) (dq Value.bool (fL (show¬((b.mode:Int)≠1) by omega)))) ?_;refine cQ ?_
 first|refine M5 rfl rfl ?_|refine dZ rfl rfl (cU (z:=.bool false) (jt rfl rfl) (dq Value.bool (fL (show¬((b.mode:Int)≠2) by omega)))) ?_
 refine fh ?_;refine fh ?_;refine fh ?_;refine fh ?_;refine fh ?_;refine fh ?_;refine fh ?_;refine cC ?_;refine nh rfl rfl (eB func69 (λc j=>ah2 a _ c k.ok (m.dx j))) ?_;rintro _ _ q ⟨_,rfl,rfl,rfl⟩;refine N [1,97] ?_;refine fh ?_;refine cC ?_;refine I (cR (ab:=a.length-1) (hi:=by omega)) ?_;refine Y ?_;refine I (KA (k:=F 256) rfl underlying3 rfl (by have:=tT h t 0 (F 256) rfl;simpa using this) id) ?_;refine cB ?_;refine I (PY (t2:=((max (max (8*b.width) 32) b.key:Nat):Int)) rfl rfl rfl rfl (by unfold yh;(repeat' split)<;>omega)) ?_;refine N [114] ?_;refine N [2] ?_;refine gT results38 ?_;exact⟨rfl,rfl⟩
set_option maxRecDepth 4000 in
def ah5 {l n:M}(e:b.Ok)(A:b.mode=2)(k:ni b c cW l n a):Sn 38 [gV b l n] c λQ y=>Q=F 0/\y=[]:=by
 have z:=e.queue;have B:=e.et;have D:=e.exact;have E:=e.depth;have G:=e.width;have H:=e.top;have K:=e.key;have L:=k.ok.len;obtain⟨S,t⟩:=k.last;obtain⟨At,f,rfl⟩:=k.tv;have m:=k.rd;obtain⟨R,g,rfl,-,-,s⟩:=id k.rd;obtain⟨o,p,rfl,-,-,h⟩:=s.resolve_left (by omega);refine enter (g:=115) func38 rfl rfl [(0,.agg (cP b (.slice (some ⟨o,p,.none⟩) a.length g) (.slice At 16 f)).toArray)] rfl ⟨rfl,trivial⟩ hS ?_;refine Mf (f:=cP b (.slice (some ⟨o,p,.none⟩) a.length g) (.slice At 16 f)) λr u=>?_;refine K3 0 (f:=cP b (.slice (some ⟨o,p,.none⟩) a.length g) (.slice At 16 f)) ?_;refine dd func67 (λc j=>ah3 e _ _ c) ?_;rintro _ _ w ⟨rfl,rfl⟩;refine cC ?_;refine dZ rfl rfl (di 0 (b:=cP b (.slice (some ⟨o,p,.none⟩) a.length g) (.slice At 16 f))) ?_;refine nh rfl rfl (eB func68 (λc j=>aiN e _ At f c)) ?_;rintro _ _ x ⟨_,rfl,rfl,rfl⟩;refine fh ?_;refine eL ?_;refine dZ rfl rfl (cU (z:=.bool true) (jt rfl rfl) (dq Value.bool (gb (show(b.mode:Int)≠1 by omega)))) ?_;refine cQ ?_
 first|refine M5 rfl rfl ?_|refine dZ rfl rfl (cU (z:=.bool false) (jt rfl rfl) (dq Value.bool (fL (show¬((b.mode:Int)≠2) by omega)))) ?_
 refine fh ?_;refine fh ?_;refine fh ?_;refine fh ?_;refine fh ?_;refine fh ?_;refine fh ?_;refine cC ?_;refine nh rfl rfl (eB func69 (λc j=>ah2 a _ c k.ok (m.dx j))) ?_;rintro _ _ q ⟨_,rfl,rfl,rfl⟩;refine N [1,97] ?_;refine fh ?_;refine cC ?_;refine I (cR (ab:=a.length-1) (hi:=by omega)) ?_;refine Y ?_;refine I (KA (k:=F 256) rfl underlying3 rfl (by have:=tT h t 0 (F 256) rfl;simpa using this) id) ?_;refine cB ?_;refine I (PY (t2:=((max (max (8*b.width) 32) b.key:Nat):Int)) rfl rfl rfl rfl (by unfold yh;(repeat' split)<;>omega)) ?_;refine N [114] ?_;refine N [2] ?_;refine gT results38 ?_;exact⟨rfl,rfl⟩
def SD {f g:M}(e:b.Ok)(i:ni b c cW f g a):Sn 38 [gV b f g] c λk j=>k=F 0/\j=[]:=by
 rcases e.mode with h|h
 .exact ah4 e h i
 .exact ah5 e h i
def S1 {h j:M}(i:b.Ok)(w:ni b c cW h j a):Sn 40 [gV b h j] c λz u=>z=F b.ie/\u=[]:=by
 have p:=i.dm;have q:=i.ga;have x:=i.et;have y:=i.exact;obtain⟨k,f⟩:∃e,e=b.dm*b.ga:=⟨_,rfl⟩;have o:k<=16:=by rw[f];exact mb p.2 q.2
 obtain⟨l,g⟩:∃e,e=k*(b.et+b.exact):=⟨_,rfl⟩;have v:l<=16*7:=by rw[g];exact mb o (by omega)
 refine enter (g:=17) func40 rfl rfl [(0,.agg (cP b h j).toArray)] rfl ⟨rfl,trivial⟩ hS ?_;refine Mf (f:=cP b h j) λm s=>?_;refine K3 0 (f:=cP b h j) ?_;refine dd func38 (λc r=>SD i (w.dx r)) ?_;rintro _ _ t ⟨rfl,rfl⟩;refine N [1,5] ?_;refine iq ?_;refine I (cU (z:=F k) (oh rfl rfl (by rw[<-nH,<-f];omega)) (by rw[<-nH,<-f])) ?_;refine df ?_;refine I (cU (z:=F l) (oh rfl rfl (by rw[<-gR,<-nH,<-g];omega)) (by rw[<-gR,<-nH,<-g])) ?_;refine N [2] ?_;refine gT results40 ?_;exact⟨by rw[g,f];rfl,rfl⟩
end
def Qd (a:Nat):fC [8,24,32,80,256] a=if a<=8 then 0 else if a<=24 then 1 else if a<=32 then 2 else if a<=80 then 3 else if a<=256 then 4 else 5:=by
 unfold fC;simp only[sX,List.findIdx_nil,Bool.cond_decide]
 repeat' split
 all_goals first|rfl|omega
def Qc (a:Nat):fC [256] a=if a<=256 then 0 else 1:=by unfold fC;simp only[sX,List.findIdx_nil,Bool.cond_decide]
def abl {c:C Nat}(hS:lU c){b a:Nat}(f:1<=b)(e:b<=256)(d:a=if b=1 then 0 else fC c (b-1)+1):fC c b=a\/fC c b+1=a:=by
 rcases hS with rfl|rfl
 .rw[Qd]at d|-
  repeat' split at d
  all_goals(repeat' split)<;>omega
 .rw[Qc]at d|-
  repeat' split at d
  all_goals(repeat' split)<;>omega
section
variable{a:PC}{d:O}{c:C (Nat×Nat)}{b:C Nat}
def abj (j:a.Ok)(hS:lU b):(∀f,f<fC b a.key+1->lY a b f=true)/\(fC b a.key+1<b.length->lY a b (fC b a.key+1)=false):=by
 have k:=j.key;have h:∀f,f<fC b a.key->b.getD f 0<a.key:=λf g=>by have e:f<b.length:=Nat.lt_trans g (hS.fit (by omega));have:=Fp g;rw[jM,dr e];simpa using this
 refine⟨λf g=>?_,λl=>?_⟩
 .cases f with
  |zero=>rfl
  |succ f=>exact gb (h f (by omega))
 .have e:=hS.fit (n:=a.key) (by omega);have i:decide (a.key<=b[fC b a.key])=true:=CW (w:=e);refine fL ?_;rw[jM,dr e];simp at i|-;omega
def Gd (i:a.Ok)(hS:lU b){e s:C (Nat×Nat)}{f:Nat×Nat}{h:Nat}(j:h<=8)(k:ky a++jG a b h=e++f::s)(g:f.1<=256):∃m,(jS a b e)[fC b f.1]? =some m/\m+f.2<=10000:=by
 have h0:=R3 (b:=a) (r:=b) i j;refine⟨_,dr (by rw[tU];exact hS.fit g),?_⟩;generalize r:(jS a b e)[fC b f.1]? =t;have l:(jS a b e)[fC b f.1]? =some ((jS a b e)[fC b f.1]'(by rw[tU];exact hS.fit g)):=dr _;have n:=Qx l;have o:=J4 b e (List.replicate b.length 0);have p:(List.replicate b.length 0).sum=0:=by simp
 have q:(jS a b e).sum<=(e.map Prod.snd).sum:=by unfold jS;omega
 rw[k,dE,mV,dA,iE]at h0;omega
def Gf {f:C (Nat×Nat)}{j:Nat×Nat}{k e:Nat}(h:e<b.length)(g:fC b j.1=e)(i:(jS a b f)[e]? =some k):(ec (jS a b f)).take (0+e*1)++[F ((k+j.2:Nat):Int)]++(ec (jS a b f)).drop (0+e*1+1)=ec (jS a b (f++[j])):=by rw[OM,OI i g];exact map_set (λl:Nat=>Value.int .i64 (l:Int)) _ (by rw[tU];exact h)
def Ge {g:C (Nat×Nat)}{h f:Nat}(e:(jS a b g)[f]? =some h):(ec (jS a b g))[0+f*1]? =some (F h):=by unfold ec;rw[dU,fT,eK,e];rfl
def SI {cv z:M}(j:a.Ok)(T:ni a d cW cv z c):Sn 23 [gV a cv z] d λu H=>∃A s,u=PF [.slice A c.length s,F 0]/\H=[row (.slice A c.length s) 3 1 c.length (ec (jZ a (c.map Prod.fst)))]:=by
 have hl:=T.ok.len;have ae:=j.dm;have ar:=j.ga;have aq:=j.queue;have aN:=j.width;have ap:=j.depth;have aL:=j.key;obtain⟨b,p⟩:∃b,b=c.map Prod.fst:=⟨_,rfl⟩;have h:lU b:=by rw[p];exact T.sz
 have P:b.length=c.length:=by rw[p,dL]
 have y:∀o,o<=256->fC b o<c.length:=λo hn=>by rw[<-P];exact h.fit hn
 obtain⟨R,B⟩:∃X,X=a.dm*a.ga:=⟨_,rfl⟩;have b1:R<=16:=by rw[B];exact mb ae.2 ar.2
 have b2:a.lu<=16*3:=by unfold PC.lu;rw[<-B];exact mb b1 ap.2
 have b3:a.ix<=4*64:=mb ae.2 aq.2;have b4:a.ie<=16*7:=by unfold PC.ie;rw[<-B];exact mb b1 (by have:=j.et;have:=j.exact;omega)
 have e1:(a.dm:Int)*(a.ga:Int)=(R:Int):=by rw[<-nH,B]
 have e2:(R:Int)*(a.depth:Int)=(a.lu:Int):=by rw[<-nH,B];rfl
 have S:(a.dm:Int)*(a.queue:Int)=(a.ix:Int):=by rw[<-nH];rfl
 obtain⟨A,s,rfl,-,-,hA⟩:=id T.rd;obtain⟨g,D,rfl,-,-,aw⟩:=hA.resolve_left (by omega);have W:=T.rd;have E:=T.ok;have G:=T.sz;obtain⟨v1,af,aj⟩:=Gd (a:=a) (e:=[]) (s:=[(32,a.ie),(24,a.ix)]) (f:=(8*a.width,a.lu)) (h:=0) j h (by omega) rfl (by show 8*a.width<=256;omega);obtain⟨v2,ag,ak⟩:=Gd (a:=a) (e:=[(8*a.width,a.lu)]) (s:=[(24,a.ix)]) (f:=(32,a.ie)) (h:=0) j h (by omega) rfl (by show 32<=256;omega);obtain⟨v3,ah,al⟩:=Gd (a:=a) (e:=[(8*a.width,a.lu),(32,a.ie)]) (s:=[]) (f:=(24,a.ix)) (h:=0) j h (by omega) rfl (by show 24<=256;omega);have f1:=y (8*a.width) (by omega);have f2:=y 32 (by omega);have f3:=y 24 (by omega);simp only at aj ak al;rw[<-p];refine enter (g:=111) func23 rfl rfl [(0,.agg (cP a (.slice (some ⟨g,D,.none⟩) c.length s) z).toArray)] rfl ⟨rfl,trivial⟩ hS ?_;refine cC ?_;refine dw (O4 (A:=cP a (.slice (some ⟨g,D,.none⟩) c.length s) z) rfl rfl) ?_;rintro _ _ aA ⟨t,rfl,rfl⟩;refine cB ?_;refine I (aa1 (D:=cP a (.slice (some ⟨g,D,.none⟩) c.length s) z) 0 rfl underlying27 rfl (by kernel_rfl) rfl rfl) ?_;refine dw (DG rfl func38 (by kernel_rfl) (λd n=>SD j (T.dx n))) ?_;rintro _ _ aD ⟨_,rfl,rfl,rfl⟩;refine cB ?_;refine dw (qy (y:=c.length) (B:=ec (jS a b [])) rfl rfl mj (by omega) (by omega) (by rw[fT];show ec (List.replicate b.length 0)=_;unfold ec;rw[List.map_replicate,P];exact(toList_madeCells_one _ _).symm)) ?_;rintro _ _ aE ⟨w,rfl,rfl⟩;refine N [1,5] ?_;refine eL ?_;refine I (cU (z:=F ((8*a.width:Nat):Int)) (oh rfl rfl) (by rw[nH];rfl)) ?_;refine dw (DG rfl func39 (by kernel_rfl) (λd n=>by have:=HO c _ (8*a.width) d E G (W.dx n) (by omega) (by omega);rw[<-p]at this;exact this)) ?_;rintro _ _ aF ⟨_,rfl,rfl,rfl⟩;refine N [1,5,6] ?_;refine Y ?_;refine mm 15 [14] [(_,some 14),(_,none)] [] (cD _) λaO=>?_;refine cC ?_;refine ew rfl (Kz 1 (w:=fC b (8*a.width)) rfl rfl underlying22 (by kernel_rfl) rfl) ?_;refine ew rfl (DU (k:=F v1) 0 rfl underlying3 rfl rfl (Ge af)) ?_;refine cL ?_;refine ew rfl (cU (z:=F R) (oh rfl rfl (by rw[e1];omega)) (by rw[e1])) ?_;refine cC ?_;refine ew rfl (cU (z:=F a.lu) (oh rfl rfl (by rw[e2];omega)) (by rw[e2])) ?_;refine ew rfl (cU (z:=F ((v1+a.lu:Nat):Int)) (kH rfl rfl) (by rw[gR])) ?_;refine ew rfl (Kz 1 (w:=fC b (8*a.width)) rfl rfl underlying22 (by kernel_rfl) rfl) ?_;refine jC rfl (Ki 0 (v:=[_]) (x:=ec (jS a b [(8*a.width,a.lu)])) rfl rfl rfl rfl (by kernel_rfl) (by simp[Value.oneCell']) (by show 0+fC b (8*a.width)*1+1<=_;unfold ec;rw[dL,tU];omega) (Gf (j:=(8*a.width,a.lu)) (by omega) rfl af)) ?_;rintro _ _ az rfl;refine⟨_,de [1] _ rfl,?_⟩;refine sQ [1,5] [1,0] ?_;refine cL ?_;refine dw (DG rfl func39 (by kernel_rfl) (λd n=>by have:=HO c _ 32 d E G (W.dx n) (by omega) (by omega);rw[<-p]at this;exact this)) ?_;rintro _ _ aG ⟨_,rfl,rfl,rfl⟩;refine N [1,5,8] ?_;refine Y ?_;refine mm 9 [5,8] [(_,some 8),(_,none)] [] (cD _) λaP=>?_;refine cC ?_;refine ew rfl (Kz 1 (w:=fC b 32) rfl rfl underlying22 (by kernel_rfl) rfl) ?_;refine ew rfl (DU (k:=F v2) 0 rfl underlying3 rfl rfl (Ge ag)) ?_;refine ew rfl (aa1 (D:=cP a (.slice (some ⟨g,D,.none⟩) c.length s) z) 1 rfl underlying27 rfl (by kernel_rfl) rfl rfl) ?_;refine gY rfl (DG rfl func40 (by kernel_rfl) (λd n=>S1 j (T.dx n))) ?_;rintro _ _ aH ⟨_,rfl,rfl,rfl⟩;refine⟨_,jQ _ _ _,?_⟩;refine ew rfl (cU (z:=F ((v2+a.ie:Nat):Int)) (kH rfl rfl) (by rw[gR])) ?_;refine ew rfl (Kz 1 (w:=fC b 32) rfl rfl underlying22 (by kernel_rfl) rfl) ?_;refine jC rfl (Ki 0 (v:=[_]) (x:=ec (jS a b [(8*a.width,a.lu),(32,a.ie)])) rfl rfl rfl rfl (by kernel_rfl) (by simp[Value.oneCell']) (by show 0+fC b 32*1+1<=_;unfold ec;rw[dL,tU];omega) (Gf (j:=(32,a.ie)) (by omega) rfl ag)) ?_;rintro _ _ aI rfl;refine⟨_,de [1] _ rfl,?_⟩;refine sQ [1,5] [1,0] ?_;refine cL ?_;refine dw (DG rfl func39 (by kernel_rfl) (λd n=>by have:=HO c _ 24 d E G (W.dx n) (by omega) (by omega);rw[<-p]at this;exact this)) ?_;rintro _ _ aJ ⟨_,rfl,rfl,rfl⟩;refine N [1,5,10] ?_;refine Y ?_;refine mm 12 [11] [(_,some 11),(_,none)] [] (cD _) λaB=>?_;refine cC ?_;refine ew rfl (Kz 1 (w:=fC b 24) rfl rfl underlying22 (by kernel_rfl) rfl) ?_;refine ew rfl (DU (k:=F v3) 0 rfl underlying3 rfl rfl (Ge ah)) ?_;refine cL ?_;refine ew rfl (cU (z:=F a.ix) (oh rfl rfl (by rw[S];omega)) (by rw[S])) ?_;refine ew rfl (cU (z:=F ((v3+a.ix:Nat):Int)) (kH rfl rfl) (by rw[gR])) ?_;refine ew rfl (Kz 1 (w:=fC b 24) rfl rfl underlying22 (by kernel_rfl) rfl) ?_;refine jC rfl (Ki 0 (v:=[_]) (x:=ec (jS a b (ky a++jG a b 0))) rfl rfl rfl rfl (by kernel_rfl) (by simp[Value.oneCell']) (by show 0+fC b 24*1+1<=_;unfold ec;rw[dL,tU];omega) (Gf (j:=(24,a.ix)) (by omega) rfl ah)) ?_;rintro _ _ au rfl;refine⟨_,de [1] _ rfl,?_⟩;refine sQ [1,5] [1,0] ?_;refine K4 [1,5,12,13] ?_;refine dB (λq m H w'=>∃o f:Nat,m=[(1,Z t),(5,vS w c.length c.length),(12,F ((f:Int)-1)),(13,F o)]/\H=[row (vS w c.length c.length) 3 1 c.length (ec (jS a b (ky a++jG a b f))),cF t (cP a (.slice (some ⟨g,D,.none⟩) c.length s) z) 27]/\1<=o/\q+o=a.key+1/\f=if o=1 then 0 else fC b (o-1)+1) a.key ⟨1,0,rfl,rfl,dT _,rfl,rfl⟩ ?_;rintro q _ _ w3 ⟨o,f,rfl,rfl,ad,hq,Q⟩;refine cZ (λan=>?_) λan=>?_
 .have L:o<=256:=by omega
  have aM:=abl h ad L Q;have aK:=y o L;refine cC ?_;refine eS (λm H w'=>m=[(1,Z t),(5,vS w c.length c.length),(12,F (((fC b o+1:Nat):Int)-1)),(13,F o)]/\H=[row (vS w c.length c.length) 3 1 c.length (ec (jS a b (ky a++jG a b (fC b o+1)))),cF t (cP a (.slice (some ⟨g,D,.none⟩) c.length s) z) 27]) ?_ ?_
  .refine eL ?_;refine dw (DG rfl func39 (by kernel_rfl) (λd n=>by have:=HO c _ o d E G (W.dx n) ad L;rw[<-p]at this;exact this)) ?_;rintro _ _ ax ⟨_,rfl,rfl,rfl⟩;refine cZ (λao=>?_) λao=>?_
   .have k:fC b o=f:=by omega
    obtain⟨v4,K,am⟩:=Gd (a:=a) (e:=ky a++jG a b f) (s:=[]) (f:=(ph b f,a.ie+a.ix)) (h:=f+1) j h (by omega) (by rw[Cj,<-dJ]) (by
     rcases h with e|e<;>rw[e]at k|-
     .rw[Qd]at k;have:f=0\/f=1\/f=2\/f=3\/f=4:=by rw[<-k];(repeat' split)<;>omega
      rcases this with rfl|rfl|rfl|rfl|rfl<;>simp[ph]
     .rw[Qc]at k;have:f=0:=by rw[<-k];(repeat' split)<;>omega
      subst this;simp[ph])
    have ab:fC b (ph b f)=f:=Qe h f (by omega);simp only at am K;rw[ab]at K;refine Y ?_;refine CM [0,1,2,3,4,6,7,8,9,10,1005,11,12,13,1014] [(_,some 14),(_,none)] [] (cD _) λaC=>?_;refine cC ?_;refine ew rfl (Kz 1 (w:=fC b o) rfl rfl underlying22 (by kernel_rfl) rfl) ?_;refine ew rfl (DU (k:=F v4) 0 rfl underlying3 rfl rfl (by rw[k];exact Ge K)) ?_;refine ew rfl (aa1 (D:=cP a (.slice (some ⟨g,D,.none⟩) c.length s) z) 1 rfl underlying27 rfl (by kernel_rfl) rfl rfl) ?_;refine cL ?_;refine ew rfl (cU (z:=F a.ix) (oh rfl rfl (by rw[S];omega)) (by rw[S])) ?_;refine gY rfl (DG rfl func40 (by kernel_rfl) (λd n=>S1 j (T.dx n))) ?_;rintro _ _ ay ⟨_,rfl,rfl,rfl⟩;refine⟨_,jQ _ _ _,?_⟩;refine ew rfl (cU (z:=F ((a.ie+a.ix:Nat):Int)) (kH rfl rfl) (by rw[gR])) ?_;refine ew rfl (cU (z:=F ((v4+(a.ie+a.ix):Nat):Int)) (kH rfl rfl) (by rw[gR v4])) ?_;refine ew rfl (Kz 1 (w:=fC b o) rfl rfl underlying22 (by kernel_rfl) rfl) ?_;refine jC rfl (Ki 0 (v:=[_]) (x:=ec (jS a b (ky a++jG a b (fC b o+1)))) rfl rfl rfl rfl (by kernel_rfl) (by simp[Value.oneCell']) (by show 0+fC b o*1+1<=_;unfold ec;rw[dL,tU];omega) (by rw[k,Cj,<-dJ];exact Gf (j:=(ph b f,a.ie+a.ix)) (by omega) ab K)) ?_;rintro _ _ av rfl;refine⟨_,de [1] _ rfl,?_⟩;refine sQ [1,5,13,14] [1,0] ?_;refine N [1,5,12,13] ?_;refine⟨?_,rfl⟩;rw[show((fC b o+1:Nat):Int)-1=(fC b o:Int) by omega]
   .have k:fC b o+1=f:=by omega
    refine kw [1,5,12,13] rfl (iY ?_);exact⟨by rw[k],by rw[k];rfl⟩
  .rintro _ _ w4 ⟨rfl,rfl⟩;refine N [1,5,12,13] ?_;exact⟨q-1,by omega,o+1,fC b o+1,rfl,rfl,by omega,by omega,by rw[cJ (by omega),C8]⟩
 .refine dI ?_;refine N [2,3] ?_;refine cK [0] ?_;refine dP results23 ?_;refine⟨_,_,rfl,?_⟩;have ai:o=a.key+1:=by omega
  rw[cJ (by omega),ai,C8]at Q;obtain⟨k1,k2⟩:=abj j h;rw[Q,OL h (h.fit (by omega)) k1 k2]
end
def nO (d:Nat)(a:M)(l:C Int)(c g:Nat)(j:O)(n:nj j d a l c)(q:Hl j (du d a c))(o:1<=g/\g<=4398046511104:=by omega):Sr 17 [Z d,F g] j (du d a c) λB w=>∃k h:Nat,B=F k/\k<g/\w=[du d a h]/\h<=l.length/\(l=[]->k=0):=by
 obtain⟨f,e,p⟩:=n;obtain⟨E,G,rfl,-,t,y⟩:=f;refine dR func17 q ?_;refine N [0,1] ?_;refine cC ?_;refine kB 10 [] λu=>?_;refine fh ?_;refine cN rfl (m6 rfl rfl) ?_;refine cZ (λb=>?_) λb=>?_
 .refine db results17 ?_;exact⟨0,c,rfl,by omega,rfl,p,λ_=>rfl⟩
 .obtain⟨x,A,rfl,m,-,d1⟩:=y.resolve_left (by omega);refine fh ?_;refine KW 0 λs=>?_;refine cH [0,1] ?_;refine Y ?_;refine kB 14 [12] λv=>?_;refine fh ?_;refine cN rfl (cR (ab:=c) (hi:=by omega)) ?_;refine cN rfl (jd (hc:=d1 (c*1) _ (G2 l c (by omega))) (hF:=m)) ?_;refine Y ?_;refine eh rfl (eB func35 (λj z=>IC _ g j o)) ?_;rintro _ _ D ⟨_,rfl,k,rfl,r,rfl⟩;refine⟨_,jQ _ _ _,?_⟩;refine db results17 ?_;exact⟨k,c+1,rfl,r,rfl,by omega,λe=>by subst e;first|(simp at b;done)|omega⟩
def Vl (c:Nat)(a:M)(i:C Int)(p:Nat)(h:O)(e:nj h c a i p)(t:Hl h (du c a p)):Sr 22 [Z c] h (du c a p) λz y=>∃j q:Nat,z=J j/\j<18446744073709551616/\y=[du c a q]/\q<=i.length/\(i=[]->j=0):=by
 refine dS func22 t ?_;refine cB ?_;refine cY (du c a p) [] func17 (cD _) (λh f b=>nO c a i p 4294967296 h ⟨e.1.fg f (cD _),e.2⟩ b) ?_;rintro _ _ A ⟨D,r,rfl,w,rfl,k,n⟩;refine Y ?_;refine I (DY rfl rfl (by omega) rfl) ?_;refine Y ?_;refine cY (du c a r) [] func17 (cD _) (λh f b=>nO c a i r 4294967296 h ⟨e.1.fg f (cD _),e.2.1,k⟩ b) ?_;rintro _ _ B ⟨E,v,rfl,x,rfl,l,o⟩;refine Y ?_;refine I (Gx rfl rfl rfl) ?_;generalize g:bits .xor .u64 _ _=s;have u:i=[]->s=0:=λd=>by rw[n d,o d]at g;rw[<-g];first|done|rfl
 obtain⟨s,rfl,m⟩:∃j:Nat,s=j/\j<18446744073709551616:=by rw[<-g];exact Nb _ _
 refine db results22 ?_;exact⟨s,v,rfl,m,rfl,l,λd=>by have:=u d;omega⟩
def akE (k:Nat)(d:M)(q:C Int)(Q:Nat)(u:O)(t:nj u k d q Q)(T:Hl u (du k d Q)):Sr 21 [Z k] u (du k d Q) λr E=>∃(b:C Nat)(a:Nat)(A:cG Addr)(c:Nat),r=.slice A 16 c/\b.length=16/\(∀m∈b,m<18446744073709551616)/\E=[row (.slice A 16 c) 23 1 16 (dF b),du k d a]/\a<=q.length/\(q=[]->b=List.replicate 16 0):=by
 refine dS func21 T ?_;refine cB ?_;refine dw (qy (y:=16) (B:=dF (List.replicate 16 0)) rfl rfl qe (by omega) (by omega) (zM 16).symm) ?_;rintro _ _ ae ⟨e,rfl,rfl⟩;refine cB ?_;refine cY (du k d Q) [_] func17 (List.Perm.swap ..) (λu B o=>nO k d q Q 4 u ⟨t.1.fg B (List.Perm.swap ..),t.2⟩ o) ?_;rintro _ _ w1 ⟨R,ab,rfl,ag,rfl,H,ah⟩;refine I (e9 rfl rfl) ?_;refine N [0,3,4] ?_;refine N [0,3,4,11,12] ?_;refine Y ?_;generalize j:List.replicate 16 0=w;have y:w.length=16:=by rw[<-j];rfl
 have x:∀m∈w,m<18446744073709551616:=by rw[<-j];intro m D;rw[uJ D];omega
 refine dB (λX P E u=>∃(p:Nat)(b:C Nat)(a:Nat),P=[(0,Z k),(3,vS e 16 16),(4,.bool (decide ((R:Int)=1))),(11,F 16),(12,F p)]/\E=[du k d a,row (vS e 16 16) 23 1 16 (dF b)]/\b.length=16/\(∀m∈b,m<18446744073709551616)/\a<=q.length/\X+p=16/\(q=[]->b=List.replicate 16 0)) 16 ⟨0,w,ab,rfl,rfl,y,x,H,rfl,λ_=>j.symm⟩ ?_;rintro X _ _ w2 ⟨p,b,a,rfl,rfl,n,f,i,hk,g⟩;refine cC ?_;refine I (gN rfl rfl) ?_;refine cZ (λv=>?_) λv=>?_
 .have S:p<16:=by have:(p:Int)<16:=v;omega
  refine cC ?_;refine eS (λP E u=>∃(b:C Nat)(a:Nat),P=[(0,Z k),(3,vS e 16 16),(4,.bool (decide ((R:Int)=1))),(11,F 16),(12,F p)]/\E=[du k d a,row (vS e 16 16) 23 1 16 (dF b)]/\b.length=16/\(∀m∈b,m<18446744073709551616)/\a<=q.length/\(q=[]->b=List.replicate 16 0)) ?_ ?_
  .refine N [0,3,4,5,11,12] ?_;refine cQ ?_;refine I (jl rfl rfl) ?_;refine fP (λG=>?_) λG=>?_
   .refine cL ?_;refine cY (du k d a) [_] func22 (cD _) (λu B o=>Vl k d q a u ⟨t.1.fg B (b:=[_]) (cD _),t.2.1,i⟩ o) ?_;rintro _ _ w3 ⟨m,ad,rfl,D,rfl,K,L⟩;refine I (cR (ab:=p) (ad:=S)) ?_;refine iQ (fK 1 (y:=dF (b.set p m)) (hl:=by rw[yK];show 0+p*1+1<=_;omega) (ae:=EL m (by omega))) ?_;rintro _ _ af rfl;refine cH [0,3,4,11,12] ?_;refine⟨b.set p m,ad,rfl,rfl,by rw[fy];exact n,λz W=>?_,K,λs=>?_⟩
    .rcases AX W with h|rfl
     .exact f z h
     .exact D
    .rw[g s,L s,List.set_replicate_self]
   .refine kw [0,3,4,11,12] rfl (iY ?_);exact⟨b,a,rfl,rfl,n,f,i,g⟩
  .rintro _ _ w4 ⟨b,a,rfl,rfl,n,f,i,g⟩;refine N [0,3,4,11,12] ?_;exact⟨X-1,by omega,p+1,b,a,rfl,rfl,n,f,i,by omega,g⟩
 .refine dI ?_;refine N [2] ?_;refine cK [1,0] ?_;refine dP results21 ?_;exact⟨b,a,_,_,rfl,n,f,rfl,i,λs=>(g s).trans j⟩
def zQ (le c m h j f d i b e a l k:Nat)(n:C Nat)(g:Nat):PC:=⟨le,c,m,h,j,f,d,i,b,e,a,l,k,255,n,g⟩
def jH:PC:=zQ 1 0 1 1 1 1 1 1 0 0 1 1 1 (List.replicate 16 0) 0
def XQ (le d m i g e j c f b l k:Nat)(q:C Nat)(h:Nat)(n:cG Addr)(o a:Nat)(p:O):(Instr.build 27 [(0,F le),(1,F d),(2,F m),(3,F i),(5,F g),(6,F e),(7,F j),(8,F c),(9,J f),(10,F b),(11,F l),(12,F k),(13,F 255),(15,.slice n o a),(16,J h)].toArray).run prog p=.ok (gV (zQ le d m i 0 g e j c f b l k q h) vN (.slice n o a)) p:=by kernel_rfl
def Bx (a:Int)(b:O):(Instr.build 68 [(0,F a)].toArray).run prog b=.ok (PE [F a,F 0]) b:=by kernel_rfl
def adg (b c d e f:Int)(a:O):(Instr.buildSlice 24 5 [(0,PE [F b,F 0]),(1,PE [F c,F 0]),(2,PE [F d,F 0]),(3,PE [F e,F 0]),(4,PE [F f,F 0])].toArray).run prog a=.ok (vS a.heap.size 5 5) (a.alloc (.cells [F b,F 0,F c,F 0,F d,F 0,F e,F 0,F f,F 0].toArray 68)):=by kernel_rfl
def qG (d b c:C Nat)(a:Nat):C (Nat×Nat):=d.zip (b.take a++c.drop a)
def LM {a b c:C Nat}(d:b.length=a.length)(e:c.length=a.length)(f:Nat):(qG a b c f).length=a.length:=by unfold qG;rw[Fl,cX,eD,iz];omega
def RQ {i c e:C Nat}{b q:Nat}(s:c.length=i.length)(t:e.length=i.length)(j:c[b]? =some q):(lI (qG i c e b)).take (0+b*2+1)++[F q]++(lI (qG i c e b)).drop (0+b*2+1+1)=lI (qG i c e (b+1)):=by
 have A:b<c.length:=(da.1 j).1;obtain⟨r,x⟩:∃r,e[b]? =some r:=⟨_,dr (by omega)⟩;obtain⟨p,n⟩:∃p,i[b]? =some p:=⟨_,dr (by omega)⟩;have w:(qG i c e b)[b]? =some (p,r):=by unfold qG;rw[AU];refine⟨n,?_⟩;rw[nm (by rw[eD];omega),eD,kQ];rw[show b+(b-min b c.length)=b by omega];exact x
 have u:=DZ (b:=oK) (a:=2) JU (h:=qG i c e b) (e:=b) (i:=1) (d:=(p,r)) (k:=(p,q)) (n:=F q) w (by omega) rfl;rw[dU];refine u.trans ?_;show lI _=lI _;congr 1;unfold qG;refine qo λd=>?_;rw[oD];have B:(i.zip (c.take b++e.drop b)).length=i.length:=LM s t b;have h:∀(o d:Nat),(c.take o++e.drop o)[d]? =if d<o/\d<c.length then c[d]?else if d<c.length then e[d]?else none:=λo d=>by
  by_cases y:d<min o c.length
  .rw[nk (by rw[eD];exact y),mT,cM (by omega),cM (by omega)]
  .rw[nm (by rw[eD];omega),eD,kQ];by_cases g:d<c.length
   .rw[cJ (by omega),cM g];congr 1;omega
   .rw[cJ (by omega),cJ g];exact nZ (by omega)
 by_cases g:b=d
 .subst g;rw[cM rfl,cM (by omega)];symm;rw[AU];refine⟨n,?_⟩;rw[h,cM (by omega)];exact j
 .rw[cJ g];have z:(c.take b++e.drop b)[d]? =(c.take (b+1)++e.drop (b+1))[d]? :=by have m:(d<b+1)=(d<b):=propext (by omega);rw[h,h];simp only[m]
  rw[List.zip,List.getElem?_zipWith,List.getElem?_zipWith,z]
def RP {a c e:C Nat}(b:c.length=a.length)(d:e.length=a.length):qG a c e a.length=a.zip c:=by unfold qG;rw[<-b,j6,b,<-d,Jd,eN]
def Ow (a:C (Nat×Nat)):(lI a).length=a.length*2:=zB JU a
def Au (a:C Nat):C Nat:=List.replicate a.length 0
def Av (a:C Nat):(Au a).length=a.length:=o3
def ac2 {c i:C Nat}(hS:lU c)(s:i.length=c.length)(n:∀u∈i,u<=65536):tC (c.zip i):=by
 have o:(c.zip i).length=c.length:=by rw[Fl];omega
 refine⟨?_,λg f=>?_,λt g v f p=>?_⟩
 .rw[o];rcases hS with rfl|rfl<;>decide
 .have e:∀q∈c,1<=q/\q<=4096:=by rcases hS with rfl|rfl<;>decide
  obtain⟨l,m⟩:=e g.1 (Fq (a:=g.1) (b:=g.2) f).1;exact⟨l,m,n _ (Fq (a:=g.1) (b:=g.2) f).2⟩
 .have j:=(AU.1 f).1;have h:=(AU.1 p).1;have k:∀d,d+1<c.length->c.getD d 0<c.getD (d+1) 0:=by
   have:∀d,d<c.length->d+1<c.length->c.getD d 0<c.getD (d+1) 0:=by rcases hS with rfl|rfl<;>decide
   exact λd r=>this d (by omega) r
  have e:=k t (da.1 h).1;rw[jM,jM,j,h]at e;exact e
def VA {a b:C Nat}(c:b.length=a.length):(a.zip b).map Prod.fst=a:=List.map_fst_zip (by omega)
def EZ:C M:=[F 0,F 0,F 0,F 0,F 0,F 0,F 0,F 0,F 0,J 0,F 0,F 0,F 0,F 0,vN,vN,J 0]
def PC.Ok.Th {d:PC}(e:d.Ok){c:Nat}(a:1<=c)(b:c<=64):PC.Ok {d with queue:=c}:={e with queue:=⟨a,b⟩}
def PC.Ok.ai9 {d:PC}(e:d.Ok){c:Nat}(a:5<=c)(b:c<=255):PC.Ok {d with key:=c}:={e with key:=⟨a,b⟩}
def vd (d:PC)(c:C (Nat×Nat))(a b:M):C V:=[row a 68 2 c.length (lI c),row b 23 1 16 (dF d.table)]
def nj.at {c k:O}{i:C V}{b:Nat}{a:M}{e:C Int}{o d:Nat}(j:nj c b a e o)(f:cI c (λn=>n=b) i k)(g:du b a d∈i)(h:d<=e.length):nj k b a e d:=by obtain⟨l,m,rfl⟩:=pJ g;exact⟨j.1.fg f (h:=du b a d) (b:=l++m) eg,j.2.1,h⟩
def BB (i:Nat)(c:M)(w:C Int)(p:Nat)(h:O)(s:nj h i c w p)(hs:Hl h (du i c p)):Sr 9 [Z i] h (du i c p) λr H=>∃(u:PC)(g:C Nat)(cv tv:M)(x:Nat),r=gV u cv tv/\u.Ok/\lU g/\(∃A n cp,cv=.slice A n cp)/\(∃A cp,tv=.slice A 16 cp)/\H=vd u (fM u g) cv tv++[du i c x]/\x<=w.length/\(w=[]->u=jH/\g=[8,24,32,80,256]):=by
 refine dS func9 hs ?_;refine NV [F 0,F 0,F 0,F 0,F 0,F 0,F 0,F 0,F 0,J 0,F 0,F 0,F 0,F 0,vN,vN,J 0] λt bK=>?_;refine cB ?_;refine cY ((du i c p)) [_] func17 (List.Perm.swap ..) (λh f b=>nO i c w p 20 h (s.at f (.tail _ (.head _)) s.2.2) b) ?_;rintro _ _ bM ⟨le,ax,rfl,b3,rfl,aJ,aV⟩;refine I (cU (z:=F ((1+le:Nat):Int)) (kH rfl rfl) (by rw[gR];rfl)) ?_;refine Y ?_;refine cY ((du i c ax)) [_] func17 (cD _) (λh f b=>nO i c w ax 15 h (s.at f (.head _) aJ) b) ?_;rintro _ _ bN ⟨X,aw,rfl,bc,rfl,aI,aU⟩;refine Y ?_;refine cY ((du i c aw)) [_] func17 (cD _) (λh f b=>nO i c w aw 4 h (s.at f (.head _) aI) b) ?_;rintro _ _ bO ⟨R,aF,rfl,cb,rfl,aR,a3⟩;refine I (cU (z:=F ((1+R:Nat):Int)) (kH rfl rfl) (by rw[gR];rfl)) ?_;refine Y ?_;refine cY ((du i c aF)) [_] func17 (cD _) (λh f b=>nO i c w aF 4 h (s.at f (.head _) aR) b) ?_;rintro _ _ bP ⟨y,aB,rfl,b6,rfl,aN,aZ⟩;refine I (cU (z:=F ((1+y:Nat):Int)) (kH rfl rfl) (by rw[gR];rfl)) ?_;refine Y ?_;refine cY ((du i c aB)) [_] func17 (cD _) (λh f b=>nO i c w aB 8 h (s.at f (.head _) aN) b) ?_;rintro _ _ bx ⟨E,aA,rfl,b5,rfl,aM,aY⟩;refine I (cU (z:=F ((1+E:Nat):Int)) (kH rfl rfl) (by rw[gR];rfl)) ?_;refine Y ?_;refine cY ((du i c aA)) [_] func17 (cD _) (λh f b=>nO i c w aA 2 h (s.at f (.head _) aM) b) ?_;rintro _ _ bz ⟨z,ay,rfl,b4,rfl,aK,aW⟩;refine I (cU (z:=F ((1+z:Nat):Int)) (kH rfl rfl) (by rw[gR];rfl)) ?_;refine Y ?_;refine cY ((du i c ay)) [_] func17 (cD _) (λh f b=>nO i c w ay 4 h (s.at f (.head _) aK) b) ?_;rintro _ _ bA ⟨G,aC,rfl,ar,rfl,aO,a0⟩;refine I (cU (z:=F ((1+G:Nat):Int)) (kH rfl rfl) (by rw[gR];rfl)) ?_;refine Y ?_;refine cY ((du i c aC)) [_] func17 (cD _) (λh f b=>nO i c w aC 4 h (s.at f (.head _) aO) b) ?_;rintro _ _ bB ⟨T,av,rfl,bb,rfl,aH,aT⟩;refine Y ?_;refine cY ((du i c av)) [_] func17 (cD _) (λh f b=>nO i c w av 40 h (s.at f (.head _) aH) b) ?_;rintro _ _ bC ⟨P,az,rfl,bl,rfl,aL,aX⟩;refine cC ?_;refine cY ((du i c az)) [_] func17 (cD _) (λh f b=>nO i c w az 3 h (s.at f (.head _) aL) b) ?_;rintro _ _ bD ⟨B,au,rfl,b2,rfl,aG,aS⟩;refine I (cU (z:=F ((1+B:Nat):Int)) (kH rfl rfl) (by rw[gR];rfl)) ?_;refine Y ?_;refine cY ((du i c au)) [_] func17 (cD _) (λh f b=>nO i c w au 9 h (s.at f (.head _) aG) b) ?_;rintro _ _ bE ⟨Q,aE,rfl,ca,rfl,aQ,a2⟩;refine I (cU (z:=F ((1+Q:Nat):Int)) (kH rfl rfl) (by rw[gR];rfl)) ?_;refine Y ?_;refine cY ((du i c aE)) [_] func17 (cD _) (λh f b=>nO i c w aE 6 h (s.at f (.head _) aQ) b) ?_;rintro _ _ bF ⟨L,aD,rfl,b9,rfl,aP,a1⟩;refine I (cU (z:=F ((1+L:Nat):Int)) (kH rfl rfl) (by rw[gR];rfl)) ?_;refine Y ?_;refine cY ((du i c aD)) [_] func21 (cD _) (λh f b=>akE i c w aD h (s.at f (.head _) aP) b) ?_;rintro _ _ bG ⟨ad,pT,l,o,rfl,a6,a5,rfl,bj,bs⟩;refine Y ?_;refine cY ((du i c pT)) [_,_] func22 (List.Perm.swap ..) (λh f b=>Vl i c w pT h (s.at f (.tail _ (.head _)) bj) b) ?_;rintro _ _ bH ⟨ab,pS,rfl,bm,rfl,bi,br⟩;refine I (ee (λh=>XQ (1+le) X (1+R) (1+y) (1+E) (1+z) (1+G) T P (1+B) (1+Q) (1+L) ad ab l 16 o h)) ?_;refine dj [F 0,F 0,F 0,F 0,F 0,F 0,F 0,F 0,F 0,J 0,F 0,F 0,F 0,F 0,vN,vN,J 0] λk bI=>?_;refine cO 0 (u:=cP (zQ (1+le) X (1+R) (1+y) 0 (1+E) (1+z) (1+G) T P (1+B) (1+Q) (1+L) ad ab) vN (.slice l 16 o)) (H:=cP (zQ (1+le) X (1+R) (1+y) 0 (1+E) (1+z) (1+G) T P (1+B) (1+Q) (1+L) ad ab) vN (.slice l 16 o)) (h1:=by simp[cP,Value.oneCell']) λbJ=>?_;refine cH [0,2,3] ?_;refine cL ?_;refine I (dH 0 (n:=F ((1+y:Nat):Int))) ?_;refine cY ((du i c pS)) [_,_,_] func17 (List.Perm.swap ..) (λh f b=>nO i c w pS (1+y) h (s.at f (.tail _ (.head _)) bi) b) ?_;rintro _ _ bQ ⟨ak,pP,rfl,b7,rfl,bh,bq⟩;refine I (cU (z:=F ((1+ak:Nat):Int)) (kH rfl rfl) (by rw[gR];rfl)) ?_;refine KW 1 (G:=cP (zQ (1+le) X (1+R) (1+y) (1+ak) (1+E) (1+z) (1+G) T P (1+B) (1+Q) (1+L) ad ab) vN (.slice l 16 o)) λbR=>?_;refine cB ?_;refine cY ((du i c pP)) [_,_,_] func17 (cD _) (λh f b=>nO i c w pP 4 h (s.at f (.head _) bh) b) ?_;rintro _ _ bS ⟨y3,p3,rfl,cc,rfl,ao,bn⟩;refine N [0,2,3,54] ?_;have ai:PC.Ok (zQ (1+le) X (1+R) (1+y) (1+ak) (1+E) (1+z) (1+G) T P (1+B) (1+Q) (1+L) ad ab):={length:=⟨uP ..,by show 1+le<=20;omega⟩,late:=bc,ga:=⟨uP ..,by show 1+R<=4;omega⟩,dm:=⟨uP ..,by show 1+y<=4;omega⟩,spread:=⟨uP ..,by show 1+ak<=1+y;omega⟩,queue:=⟨uP ..,by show 1+E<=64;omega⟩,mode:=by show 1+z=1\/1+z=2;omega,et:=⟨uP ..,by show 1+G<=4;omega⟩,exact:=bb,rK:=bl,depth:=⟨uP ..,by show 1+B<=3;omega⟩,width:=⟨uP ..,by show 1+Q<=9;omega⟩,top:=⟨uP ..,by show 1+L<=6;omega⟩,key:=⟨by show 5<=255;omega,dT _⟩,table:=⟨a6,a5⟩,rM:=bm};refine eS (λm H w'=>∃(u:PC)(x:Nat),u.Ok/\u.table=ad/\x<=w.length/\(w=[]->u=jH)/\m=[(0,Z i),(2,Z t),(3,Z k)]/\H=[du i c x,cF k (cP u vN (.slice l 16 o)) 27,row (.slice l 16 o) 23 1 16 (dF ad),cF t EZ 27]) ?_ ?_
 .refine jc rfl (λa7=>?_) (λa7=>?_)
  .refine KW 1 (G:=cP {zQ (1+le) X (1+R) (1+y) (1+ak) (1+E) (1+z) (1+G) T P (1+B) (1+Q) (1+L) ad ab with queue:=64} vN (.slice l 16 o)) λbT=>?_;refine cH [0,2,3] ?_;exact⟨_,p3,ai.Th (c:=64) (by omega) (by omega),rfl,ao,λj=>absurd (bn j) (by omega),rfl,rfl⟩
  .refine kw [0,2,3] rfl (iY ?_);exact⟨_,p3,ai,rfl,ao,λj=>by rw[aV j,aU j,a3 j,aZ j,aY j,aW j,a0 j,aT j,aX j,aS j,a2 j,a1 j,bs j,br j,bq j];rfl,rfl,rfl⟩
 .rintro _ _ w4 ⟨u,p4,W,D,bd,S,rfl,rfl⟩;clear ai;refine cL ?_;refine cY ((du i c p4)) [_,_,_] func17 (cD _) (λh f b=>nO i c w p4 4 h (s.at f (.head _) bd) b) ?_;rintro _ _ bU ⟨y5,p5,rfl,cd,rfl,ap,bo⟩;refine N [0,2,3,58] ?_;refine eS (λm H w'=>∃(u:PC)(x:Nat),u.Ok/\u.table=ad/\x<=w.length/\(w=[]->u=jH)/\m=[(0,Z i),(2,Z t),(3,Z k)]/\H=[du i c x,cF k (cP u vN (.slice l 16 o)) 27,row (.slice l 16 o) 23 1 16 (dF ad),cF t EZ 27]) ?_ ?_
  .refine jc rfl (λa8=>?_) (λa8=>?_)
   .refine cC ?_;refine cY ((du i c p5)) [_,_,_] func17 (cD _) (λh f b=>nO i c w p5 10 h (s.at f (.head _) ap) b) ?_;rintro _ _ bV ⟨y6,p6,rfl,ce,rfl,be,cg⟩;refine I (cU (z:=F ((5+y6:Nat):Int)) (kH rfl rfl) (by rw[gR];rfl)) ?_;refine KW 1 (G:=cP {u with key:=5+y6} vN (.slice l 16 o)) λbW=>?_;refine cH [0,2,3] ?_;exact⟨_,p6,W.ai9 (c:=5+y6) (by omega) (by omega),D,be,λj=>absurd (bo j) (by omega),rfl,rfl⟩
   .refine kw [0,2,3] rfl (iY ?_);exact⟨_,p5,W,D,ap,S,rfl,rfl⟩
  .clear W D S;rintro _ _ w7 ⟨u,p7,W,D,bf,S,rfl,rfl⟩;refine cC ?_;refine I (ee (λh=>Bx _ h)) ?_;refine I (ee (λh=>Bx _ h)) ?_;refine I (ee (λh=>Bx _ h)) ?_;refine I (ee (λh=>Bx _ h)) ?_;refine I (ee (λh=>Bx _ h)) ?_;refine dw (vg (g:=68) (b:=2) rfl (λh=>adg _ _ _ _ _ h) rfl (by decide)) ?_;rintro _ _ bX ⟨af,rfl,rfl⟩;refine KW 2 (G:=cP u (vS af 5 5) (.slice l 16 o)) λbY=>?_;refine cB ?_;refine cY ((du i c p7)) [_,_,_,_] func17 (List.Perm.swap ..) (λh f b=>nO i c w p7 3 h (s.at f (.tail _ (.head _)) bf) b) ?_;rintro _ _ bZ ⟨y8,p8,rfl,cf,rfl,aq,bp⟩;refine N [2,3,72] ?_;refine eS (λm H w'=>∃(g:C Nat)(ah x:Nat),lU g/\x<=w.length/\(w=[]->g=[8,24,32,80,256])/\m=[(2,Z t),(3,Z k)]/\H=[du i c x,row (vS ah g.length g.length) 68 2 g.length (lI (g.zip (Au g))),cF k (cP u (vS ah g.length g.length) (.slice l 16 o)) 27,row (.slice l 16 o) 23 1 16 (dF ad),cF t EZ 27]) ?_ ?_
   .refine jc rfl (λa9=>?_) (λa9=>?_)
    .refine Y ?_;refine I (ee (λh=>Bx _ h)) ?_;refine gZ Ii λag b0=>?_;refine KW 3 (G:=cP u (vS ag 1 1) (.slice l 16 o)) λb1=>?_;refine fu [1,0,1,1,1] ?_;refine cH [2,3] ?_;exact⟨[256],ag,p8,.inr rfl,aq,λj=>absurd (bp j) (by omega),rfl,rfl⟩
    .refine kw [2,3] rfl (iY ?_);exact⟨[8,24,32,80,256],af,p8,.inl rfl,aq,λ_=>rfl,rfl,rfl⟩
   .rintro _ _ ch ⟨g,ah,p9,hS,bg,a4,rfl,rfl⟩;have aj:(g.zip (Au g)).length=g.length:=by rw[Fl,Av];omega
    have am:tC (g.zip (Au g)):=ac2 hS (Av g) (λn hn=>by rw[uJ hn];omega);have ar:=am.len;rw[aj]at ar;have fV:(jZ u g).length=g.length:=x3;refine K3 2 (f:=cP u (vS ah g.length g.length) (.slice l 16 o)) ?_;refine dd func23 (λh f=>by have:=SI (c:=g.zip (Au g)) (cv:=vS ah g.length g.length) (z:=.slice l 16 o) (d:=h) W ⟨am,by rw[VA (Av g)];exact hS,by rw[aj];exact Rd.dM f (l:=1) rfl,_,_,rfl⟩;rw[VA (Av g),aj]at this;exact this) ?_;rintro _ _ bt ⟨A2,al,rfl,rfl⟩;refine df ?_;refine fu [0,0,1,1,1,0] ?_;refine K4 [2,3,4,82,83] ?_;refine dB (λq m H w'=>∃ae:Nat,m=[(2,Z t),(3,Z k),(4,.slice A2 g.length al),(82,F g.length),(83,F ae)]/\H=[row (.slice A2 g.length al) 3 1 g.length (ec (jZ u g)),du i c p9,cF k (cP u (vS ah g.length g.length) (.slice l 16 o)) 27,row (.slice l 16 o) 23 1 16 (dF ad),cF t EZ 27,row (vS ah g.length g.length) 68 2 g.length (lI (qG g (jZ u g) (Au g) ae))]/\q+ae=g.length) g.length ⟨0,rfl,rfl,rfl⟩ ?_;rintro q _ _ ci ⟨ae,rfl,rfl,hq⟩;refine cZ (λba=>?_) λba=>?_
    .have hi:ae<g.length:=by omega
     obtain⟨d,an⟩:∃d,(jZ u g)[ae]? =some d:=⟨_,dr (by omega)⟩;refine eQ λf=>?_;obtain⟨g2,c2,e⟩:=fs f (q:=0) rfl;injection e with e1 _ e3;subst e1;subst e3;clear f;refine N [2,3,4,6,82,83] ?_;refine eO 10 [9] [_,_,_,_,_] [_] (cD _) λbL=>?_;refine Y ?_;refine cN rfl (dH 2 (n:=vS ah g.length g.length)) ?_;refine cQ ?_;refine cN rfl (cR (ab:=ae) (ad:=hi)) ?_;refine cN rfl (gj 0 (n:=F d) (hv:=by unfold ec;rw[dU,fT,eK,an];rfl)) ?_;refine cN rfl (cR (ab:=ae) (ad:=hi)) ?_;refine Y ?_;refine jW rfl (fK 5 (y:=lI (qG g (jZ u g) (Au g) (ae+1))) (hl:=by show 0+ae*2+1+1<=_;rw[Ow,LM fV (Av g)];omega) (ae:=RQ fV (Av g) an)) ?_;rintro _ _ bu rfl;refine⟨_,cD _,?_⟩;refine ir [2,3,4,82,83] ?_;exact⟨q-1,by omega,ae+1,rfl,rfl,by omega⟩
    .refine dI ?_;refine K3 2 (f:=cP u (vS ah g.length g.length) (.slice l 16 o)) ?_;refine cO 4 (u:=cP u (vS ah g.length g.length) (.slice l 16 o)) (H:=cP u (vS ah g.length g.length) (.slice l 16 o)) (h1:=by simp[cP,Value.oneCell']) λbw=>?_;refine cH [2] ?_;refine cK [4,4,3,1] ?_;refine eM ?_;refine⟨_,_,λa ha f=>eW results9 (eX (e4 0 rfl underlying27 rfl (by kernel_rfl) rfl) eY) a ha _ f,fO _ _,?_⟩;have hi:ae=g.length:=by omega
     subst hi;rw[RP fV (Av g)];refine⟨u,g,_,_,p9,rfl,W,hS,⟨_,_,_,rfl⟩,⟨_,_,rfl⟩,?_,bg,λj=>⟨S j,a4 j⟩⟩;unfold vd;rw[D,xW];rfl
abbrev gQ:=DF.Ev
def mg (a:gQ):Prop:=DF.q6 1000 a
def J7 {a:gQ}(b:mg a):DF.kG a=(DF.er a.2.2.1.toNat++DF.er a.2.2.2++DF.er a.2.1.length++DF.kW a.2.1,0):=DF.Pf b.1 ⟨b.2.2.1,by have:=b.2.2.2.1;omega⟩
def OS {a:gQ}(b:mg a):(DF.kG a).2=0:=by rw[J7 b]
def Zq {a:gQ}(b:mg a):(DF.kG a).1.length<=300:=by rw[J7 b];have c:=DF.MJ a.2.1 b.1.2;have d:=b.1.1;have e:=DF.nF a.2.2.1.toNat;have f:=DF.nF a.2.2.2;have g:=DF.Ah (x:=a.2.1.length) (by omega);simp only[cX];omega
def OQ:∀(a:C gQ),(∀d∈a,mg d)->(DF.jk a).length<=a.length*300
 |[],_=>by simp[DF.jk]
 |d::a,e=>by have f:=Zq (e d (dQ ..));have b:=OQ a λg c=>e g (dN _ c);simp only[DF.jk,ji,cX,eE]at b|-;omega
def oL (a:C gQ):C Nat:=DF.er a.length++DF.jk a
def J6 {b:C gQ}(k:1<=b.length)(l:b.length<=7)(g:∀j∈b,mg j):DF.wS b=(gL (oL b),0)/\(oL b).length<=4096/\∀f∈gL (oL b),f<256:=by
 have m:=OQ b g;have n:=DF.nF b.length;have e:DF.mv b=(oL b,0):=by unfold DF.mv;rw[cJ (by omega),cJ (by rw[DF.Gy λo i=>OS (g o i)];simp),cJ (by rw[cX];omega)];rfl
 have c:(oL b).length<=4096:=by unfold oL;rw[cX];omega
 refine⟨?_,c,λf a=>?_⟩
 .unfold DF.wS;rw[e,cJ (by simp)];rfl
 .rcases dV.1 a with a|a
  .exact DF.Ag (by omega) f a
  .have d:=DF.XB b (by omega) λj h=>(g j h).2.2.2.2;rw[e]at d;exact d f a
def Zp {b:gQ}(c:mg b)(a:C Nat):DF.k8 ((DF.kG b).1++a)=((b.2.1,b.2.2.1.toNat,b.2.2.2,(DF.kG b).1.length),0):=by have d:=J7 c;exact(DF.OF (e:=(DF.kG b).1) a (by show DF.mw _ _ _=_;rw[<-OS c];rfl) c.2.2.2.2).1
def OR (b:Int):∀(c:C gQ)(a:C Nat),(∀d∈c,mg d)->DF.nw b c.length (DF.jk c++a)=(c.map (DF.kU b),a,true)
 |[],a,_=>by simp[DF.nw,DF.jk]
 |d::c,a,k=>by
  have e:=k d (dQ ..);have f:=Zp e (DF.jk c++a);have g:=OR b c a λl j=>k l (dN _ j);have h:DF.jk (d::c)++a=(DF.kG d).1++(DF.jk c++a):=by simp[DF.jk]
  have i:((d.2.2.1.toNat:Nat):Int)=d.2.2.1:=by have:=e.2.2.1;omega
  rw[h,eE,DF.nw,f,cJ (by simp)];dsimp only;rw[kZ,g,i];rfl
def J8 (a:Int){b:C gQ}(e:1<=b.length)(f:b.length<=7)(d:∀g∈b,mg g):DF.iH (oL b) a=b.map (DF.kU a):=by have c:=OR a b [] d;rw[eN]at c;unfold DF.iH oL;rw[DF.HK _ _ (by omega)];dsimp only;rw[cJ (by omega),kZ,c];rfl
def acY {a:C DF.Tg}(h:(DF.iL a).2=0):(DF.iL a).1≠[]:=by
 obtain⟨c,d,f⟩:=DF.G3 h;obtain⟨g,-⟩:=DF.z7 c;rw[d];have b:=(DF.pg a).length_eq;show DF.lX (DF.gy a)≠[];cases e:DF.gy a with
 |nil=>rw[e]at b;simp at b;omega
 |cons i a=>simp[DF.lX]
def nx (a:gQ):gH:=⟨str (DF.jN a.2.1 a.2.2.1 a.2.2.2).1.1,a.2.2.1.toNat,a.2.2.2⟩
def G0 {a:gQ}(d:mg a)(h0:(DF.jN a.2.1 a.2.2.1 a.2.2.2).2=0):(DF.jN a.2.1 a.2.2.1 a.2.2.2).1=((DF.iL a.2.1).1,a.2.2.1,a.2.2.2)/\(DF.iL a.2.1).2=0/\1<=a.2.2.2/\a.2.2.2<=9223372036854775808:=by
 unfold DF.jN at h0|-;split at h0
 .simp at h0
 .rename_i c;split at h0
  .rename_i b;exact absurd h0 b
  .rename_i b;rw[cJ c,cJ b];exact⟨rfl,by simpa using b,by omega,by omega⟩
def ahG {d:PC}{a:gQ}(f:mg a):gn (DF.kU d.key a)=(if(DF.jN a.2.1 a.2.2.1 a.2.2.2).2≠0 then .inr (DF.jb (DF.jN a.2.1 a.2.2.1 a.2.2.2).2).toNat else if(d.key:Int)<((DF.jN a.2.1 a.2.2.1 a.2.2.2).1.1.length:Int)then .inr 2 else .inl (nx a)):=by
 by_cases h0:(DF.jN a.2.1 a.2.2.1 a.2.2.2).2=0
 .rw[cJ (by simpa using h0)];by_cases b:(d.key:Int)<((DF.jN a.2.1 a.2.2.1 a.2.2.2).1.1.length:Int)
  .have c:DF.kU d.key a=(([],0,0),2):=by unfold DF.kU DF.ss;rw[cJ (by simpa using h0),cM b]
   rw[cM b,c];rfl
  .have c:DF.kU d.key a=((DF.jN a.2.1 a.2.2.1 a.2.2.2).1,0):=by unfold DF.kU DF.ss;rw[cJ (by simpa using h0),cJ b]
   rw[cJ b,c];unfold gn nx;rw[cM rfl];obtain⟨c,-⟩:=G0 f h0;rw[c]
 .have c:DF.kU d.key a=(([],0,0),DF.jb (DF.jN a.2.1 a.2.2.1 a.2.2.2).2):=by unfold DF.kU DF.ss;rw[cM (by simpa using h0)]
  rw[cM (by simpa using h0),c];have e:DF.jb (DF.jN a.2.1 a.2.2.1 a.2.2.2).2≠0:=by unfold DF.jb;rw[cJ h0];split<;>decide
  unfold gn;rw[cJ e]
def Su {d:PC}{b:gQ}(e:mg b){c:gH}(a:gn (DF.kU d.key b)=.inl c):c=nx b/\(DF.jN b.2.1 b.2.2.1 b.2.2.2).2=0:=by
 rw[ahG e]at a;split at a
 .cases a
 .rename_i h0;split at a
  .cases a
  .injection a with a;exact⟨a.symm,by simpa using h0⟩
def Lg {d:PC}{b:gQ}(a:mg b):IT d (DF.kU d.key b):=by
 unfold DF.kU DF.ss;by_cases h0:(DF.jN b.2.1 b.2.2.1 b.2.2.2).2=0
 .rw[cJ (by simpa using h0)];obtain⟨i,e,f,j⟩:=G0 a h0;rw[i];by_cases c:(d.key:Int)<((DF.iL b.2.1).1.length:Int)
  .rw[cM c];exact⟨λa=>absurd a (by decide),λ_=>⟨by decide,by decide⟩⟩
  .rw[cJ c];have g:=DF.Lq b.2.1;refine⟨λ_=>⟨⟨λh=>acY e ?_,by rw[mL];exact g,f⟩,by rw[mL];show(DF.iL b.2.1).1.length<=d.key;omega,a.2.2.1,by have:=a.2.2.2.1;show b.2.2.1<=_;omega,a.2.2.2.2⟩,λa=>absurd rfl a⟩;have:=dq ByteArray.size h;rw[mL]at this;exact ll this
 .rw[cM (by simpa using h0)];unfold DF.jb;rw[cJ h0];split
  .exact⟨λa=>absurd a (by decide),λ_=>⟨by decide,by decide⟩⟩
  .exact⟨λa=>absurd a (by decide),λ_=>⟨by decide,by decide⟩⟩
def jm (b:PC)(a:C gQ):C kr:=a.map λc=>gn (DF.kU b.key c)
def abv (d:PC){a:C gQ}(b:1<=a.length)(c:a.length<=7)(e:∀f∈a,mg f):(DF.iH (oL a) d.key).map gn=jm d a:=by rw[J8 _ b c e,jj];rfl
def GB (a:M×C gQ):V:=cz [row a.1 79 3 a.2.length (DF.fp a.2),cz (a.2.map DF.yI)]
def Er (a:M×C Int):V:=row a.1 3 1 a.2.length (oT a.2)
structure wB (a:C (M×C gQ))(d:C Nat)(c:C (M×C Int)):Prop where
 t:d.length=a.length
 p:c.length=a.length
 n:a.length<=8
 f:∀b∈a,1<=b.2.length/\b.2.length<=7/\∀e∈b.2,mg e
 tb:∀b∈d,b<=1000
 pb:∀b∈c,b.2.length<=8/\∀e∈b.2,0<=e/\e<=100
def vH (a:C (M×C gQ))(c:C Nat)(b:C (M×C Int))(d f e:M):C V:=[row d 73 1 a.length (a.map Prod.fst),cz (a.map GB),row f 3 1 c.length (ec c),row e 22 1 b.length (b.map Prod.fst),cz (b.map Er)]
def Ul:fB prog 38 73 1 24 vN:=.mk' underlying38 (by kernel_rfl) rfl (by decide)
def Ij:fB prog 39 22 1 24 vN:=.mk' underlying39 (by kernel_rfl) rfl (by decide)
def adj (b c d:Int)(a:O):(Instr.buildSlice 22 3 [(0,F b),(1,F c),(2,F d)].toArray).run prog a=.ok (vS a.heap.size 3 3) (a.alloc (.cells [F b,F c,F d].toArray 3)):=by kernel_rfl
def aaF (j:Nat)(d:M)(n:C Int)(l:Nat)(a:Nat)(m:O)(v:a<=900)(q:DF.nj m j d n l)(s:Hl m (DF.du j d l)):Sr 30 [Z j,F a,F 6] m (DF.du j d l) λw t=>∃(k:cG Addr)(f:Nat)(e:C gQ)(g:Nat),w=.slice k e.length f/\1<=e.length/\e.length<=7/\(∀h∈e,mg h)/\t=[row (.slice k e.length f) 79 3 e.length (DF.fp e),cz (e.map DF.yI),DF.du j d g]/\g<=n.length:=by refine(DF.aaG j d n l a 6 m ⟨by omega,by omega⟩ (by omega) q s).held.mono ?_;rintro z t ⟨⟨e,g,o,u,b,rfl,p⟩,x,y,r⟩;obtain⟨k,f,rfl⟩:=fS r (p:=0) rfl;exact⟨k,f,e,g,rfl,o,by omega,λh c=>⟨(b h c).1,(b h c).2.1,(b h c).2.2.1,by have:=(b h c).2.2.2.1;omega,(b h c).2.2.2.2⟩,rfl,p⟩
section
variable{b:PC}{a:O}
def xq (B:cG Addr)(o:Nat)(w:C Int)(ai aj:M)(hc:b.Ok)(T:Rd a cW 1 (.slice B w.length o) w.length (DF.iv w))(S:w.length<=140737488355328):Sn 11 [gV b ai aj,.slice B w.length o] a λu H=>∃fv kv pv g k j,u=PE [fv,kv,pv]/\H=vH g k j fv kv pv/\wB g k j:=by
 have aI:=hc.length;refine enter (g:=51) func11 rfl rfl [(0,.agg (cP b ai aj).toArray),(1,_)] rfl ⟨rfl,rfl,trivial⟩ hS ?_;refine Mf (f:=cP b ai aj) λX aJ=>?_;refine dj [vN,vN,vN] λP aK=>?_;refine Ku func8 (λa h=>DF.xa B _ o a) ?_;rintro _ _ w1 ⟨d,rfl,rfl⟩;refine NV [vN,vN,vN] λab aM=>?_;refine cB ?_;refine cY ((DF.du d (.slice B w.length o) 0)) [_,_,_] func17 ((c8 1 rfl)) (λa h l=>DF.kz d _ w 0 8 a ⟨T.fg (h:=DF.du d (.slice B w.length o) 0) h (c8 1 rfl),S,gK _⟩ l) ?_;rintro _ _ w2 ⟨z,p1,rfl,hz,rfl,aq⟩;refine N [2,4,5,6,7,8] ?_;refine Y ?_;refine sL ?_;refine gh 22 1 ?_;refine gh 3 1 ?_;refine sL ?_;refine gh 73 1 ?_;refine dB (λq m H w'=>∃(g:C (M×C gQ))(k:C Nat)(j:C (M×C Int))(ad:cG Addr)(ae:Nat)(K:cG Addr)(L:Nat)(D:cG Addr)(G:Nat)(W s:Nat),m=[(2,Z X),(4,Z P),(5,Z d),(6,Z ab),(7,F s),(8,F ((q:Int)-1))]/\H=[row (.slice ad g.length ae) 73 1 g.length (g.map Prod.fst),cz (g.map GB),row (.slice K k.length L) 3 1 k.length (ec k),row (.slice D j.length G) 22 1 j.length (j.map Prod.fst),cz (j.map Er),DF.du d (.slice B w.length o) W,cF ab [.slice ad g.length ae,.slice K k.length L,.slice D j.length G] 41,cF P [vN,vN,vN] 41,cF X (cP b ai aj) 27]/\g.length+q=z+1/\wB g k j/\s<=40*g.length/\W<=w.length) (z+1) ⟨[],[],[],.none,0,.none,0,.none,0,p1,0,by rw[show((z+1:Nat):Int)-1=(z:Int) by omega];rfl,rfl,by simp,⟨rfl,rfl,by simp,λx c=>(nomatch c),λx c=>(nomatch c),λx c=>(nomatch c)⟩,by simp,aq⟩ ?_;rintro q _ _ w3 ⟨g,k,j,ad,ae,K,L,D,G,W,s,rfl,rfl,hq,A,aS,ar⟩;refine cZ (λap=>?_) λap=>?_
 .have aR:=A.n;have aA:=A.t;have az:=A.p;refine cL ?_;refine mm 9 [4,5,6,8] [(_,some 8)] [_,_,_,_,_,_,_,_] (de [6] _ rfl) λaY=>?_;refine cL ?_;refine gY rfl (ft ((DF.du d (.slice B w.length o) W)) [_,_,_,_,_,_,_,_] func30 ((c8 6 rfl)) (λa h l=>aaF d _ w W s a (by omega) ⟨T.fg (h:=DF.du d (.slice B w.length o) W) h (c8 6 rfl),S,ar⟩ l)) ?_;rintro _ _ w4 ⟨_,rfl,aZ,cu,E,p3,rfl,an,ao,hE,rfl,au⟩;refine⟨_,de [3] _ rfl,?_⟩;refine gY rfl (qi Ul) ?_;rintro _ _ aN ⟨aG,rfl,rfl⟩;refine⟨_,eg.symm,?_⟩;refine gY rfl (jo 5 Ul (hr:=λa h=>Rd.dM h (l:=1) rfl)) ?_;rintro _ _ w5 ⟨⟨Q,R,rfl⟩,rfl⟩;refine⟨_,cD _,?_⟩;refine Y ?_;refine jC rfl (gD 0 (y:=[.slice Q (g.length+1) R,.slice K k.length L,.slice D j.length G])) ?_;rintro _ _ aO rfl;refine⟨_,cD _,?_⟩;refine ui [2,4,5,6,7,8] rfl ?_;refine Y ?_;refine cK [2,2,4,3,3,3,3,2,0,1,1] ?_;refine dG [_,_] ?_;refine cK [1,0,0,0,0,0,0,0,0,0] ?_;refine Al ?_;refine cK [1,0,0,0,0,0,0,0,0] ?_;refine cL ?_;refine I (dH 8 (n:=F b.length)) ?_;refine I (cU (z:=F ((2*b.length:Nat):Int)) (oh rfl rfl) (by rw[nH];rfl)) ?_;refine cY ((DF.du d (.slice B w.length o) p3)) [_,_,_,_,_,_,_,_] func17 ((c8 5 rfl)) (λa h l=>DF.kz d _ w p3 (2*b.length) a ⟨T.fg (h:=DF.du d (.slice B w.length o) p3) h (c8 5 rfl),S,au⟩ l) ?_;rintro _ _ w6 ⟨y,p4,rfl,hy,rfl,av⟩;refine I (cU (z:=F ((s+y:Nat):Int)) (kH rfl rfl) (by rw[gR])) ?_;refine N [2,4,5,6,7,8] ?_;refine cQ ?_;refine I (dH 6 (n:=.slice K k.length L)) ?_;refine Y ?_;refine gZ mj λaH aP=>?_;refine dw (jo 4 mj) ?_;rintro _ _ w7 ⟨⟨af,ag,rfl⟩,rfl⟩;refine KW 7 (G:=[.slice Q (g.length+1) R,.slice af (k.length+1) ag,.slice D j.length G]) λaQ=>?_;refine fu [1,1,1,1,1,1,1,1,1] ?_;refine cH [2,4,5,6,7,8] ?_;refine CM [0,1,2,4,6,1003,1005,1007,1008,1009,1010,11,1012] [(_,some 12)] [_,_,_,_,_,_,_,_] (de [6] _ rfl) λaL=>?_;refine df ?_;refine gY rfl (ft ((DF.du d (.slice B w.length o) p4)) [_,_,_,_,_,_,_,_] func17 (List.Perm.swap ..) (λa h l=>DF.kz d _ w p4 7 a ⟨T.fg (h:=DF.du d (.slice B w.length o) p4) h (c8 1 rfl),S,av⟩ l)) ?_;rintro _ _ w8 ⟨_,rfl,y1,p5,rfl,aT,rfl,aw⟩;refine⟨_,de [1] _ rfl,?_⟩;refine gY rfl (ft ((DF.du d (.slice B w.length o) p5)) [_,_,_,_,_,_,_,_] func17 (List.Perm.swap ..) (λa h l=>DF.kz d _ w p5 7 a ⟨T.fg (h:=DF.du d (.slice B w.length o) p5) h (c8 1 rfl),S,aw⟩ l)) ?_;rintro _ _ w9 ⟨_,rfl,y2,p6,rfl,aU,rfl,ax⟩;refine⟨_,de [1] _ rfl,?_⟩;refine gY rfl (ft ((DF.du d (.slice B w.length o) p6)) [_,_,_,_,_,_,_,_] func17 (List.Perm.swap ..) (λa h l=>DF.kz d _ w p6 7 a ⟨T.fg (h:=DF.du d (.slice B w.length o) p6) h (c8 1 rfl),S,ax⟩ l)) ?_;rintro _ _ aW ⟨_,rfl,y3,p7,rfl,aV,rfl,ay⟩;refine⟨_,de [1] _ rfl,?_⟩;refine gY rfl (vg (g:=3) (b:=1) rfl (λa=>adj _ _ _ a) rfl (by decide)) ?_;rintro _ _ aD ⟨ah,rfl,rfl⟩;refine⟨_,eg.symm,?_⟩;refine gY rfl (qi Ij) ?_;rintro _ _ aE ⟨aC,rfl,rfl⟩;refine⟨_,eg.symm,?_⟩;refine gY rfl (jo 7 Ij (hr:=λa h=>Rd.dM h (l:=1) rfl)) ?_;rintro _ _ aX ⟨⟨al,am,rfl⟩,rfl⟩;refine⟨_,cD _,?_⟩;refine Y ?_;refine jC rfl (gD 0 (y:=[.slice Q (g.length+1) R,.slice af (k.length+1) ag,.slice al (j.length+1) am])) ?_;rintro _ _ aB rfl;refine⟨_,cD _,?_⟩;refine ui [2,4,5,6,7,8] rfl ?_;refine cK [8,2,3,3,3,3,2,0,1,1] ?_;refine Al ?_;refine cK [1,1,1,1,0,0,0,0,0] ?_;refine N [2,4,5,6,7,8] ?_;refine⟨q-1,by omega,g++[(.slice aZ E.length cu,E)],k++[s+y],j++[(vS ah 3 3,[(y1:Int),(y2:Int),(y3:Int)])],Q,R,af,ag,al,am,p7,s+y,by rw[show(q:Int)-1-1=((q-1:Nat):Int)-1 by omega],?_,by rw[cX,lD];omega,?_,by rw[cX,lD];omega,ay⟩
  .simp only[cX,dE,lD,ec];rfl
  .refine⟨by rw[cX,cX,aA];rfl,by rw[cX,cX,az];rfl,by rw[cX,lD];omega,λx c=>?_,λx c=>?_,λx c=>?_⟩
   .rcases dV.1 c with c|c
    .exact A.f x c
    .rw[fI]at c;subst c;exact⟨an,ao,hE⟩
   .rcases dV.1 c with c|c
    .exact A.tb x c
    .rw[fI]at c;omega
   .rcases dV.1 c with c|c
    .exact A.pb x c
    .rw[fI]at c;subst c;refine⟨by simp,λv hv=>?_⟩;simp only[dh,nn,o6]at hv;omega
 .refine dI ?_;refine K3 6 (f:=[.slice ad g.length ae,.slice K k.length L,.slice D j.length G]) ?_;refine cO 7 (H:=[.slice ad g.length ae,.slice K k.length L,.slice D j.length G]) λaF=>?_;refine cH [4] ?_;refine cK [7,0,0,0,0,0] ?_;refine eM ?_;refine⟨_,_,λak ha h=>eW results11 (eX (e4 0 rfl underlying41 rfl (by kernel_rfl) rfl) eY) ak ha _ h,fO _ _,?_⟩;exact⟨_,_,_,g,k,j,rfl,rfl,A⟩
end
structure jf where
 k:dg
 rs:C jg
 cS:C gH
 vs:C Nat
def pE (a:C Nat)(b:dg):dg:=a.foldl dg.step b
def jf.frame (b:PC)(a:jf)(fW:C kr)(c:C Nat):cG Nat->jf
 |none=>⟨pE c (a.k.feed b fW).1,a.rs,a.cS++a.k.kept b fW,a.vs++(a.k.feed b fW).2⟩
 |some d=>⟨((pE c (a.k.feed b fW).1).tick b d).1,a.rs++((pE c (a.k.feed b fW).1).tick b d).2,a.cS++a.k.kept b fW,a.vs++(a.k.feed b fW).2⟩
def jf.new (a:PC):jf:=⟨dg.new a,[],[],[]⟩
def l9 (b:PC):C (C kr×cG Nat)->jf->Prop
 |[],d=>d=jf.new b
 |e::f,d=>∃a c,l9 b f a/\d=a.frame b e.1 c e.2
section
variable{a:PC}{b c:dg}
def aa8 (d:kr):(b.k9 a d).wm=b.wm:=by
 cases d with
 |inl f=>unfold dg.k9;dsimp only;split<;>rfl
 |inr e=>rfl
def P8:∀(d:C kr){b:dg},(b.feed a d).1.wm=b.wm
 |[],_=>rfl
 |e::d,b=>by show((b.k9 a e).feed a d).1.wm=_;rw[P8 d,aa8]
def TT:∀(d:C Nat){b:dg},(pE d b).wm=b.wm
 |[],_=>rfl
 |e::d,b=>(TT d (b:=b.step e)).trans rfl
def MA:∀(d:C Nat){b:dg},(pE d b).fN=b.fN
 |[],_=>rfl
 |e::d,b=>(MA d (b:=b.step e)).trans rfl
def Ie:∀(e:C Nat){b:dg}{f:C jg}{d:C gH}{h:gP},jL a b f d h->jL a (pE e b) f d h
 |[],_,_,_,_,g=>g
 |i::e,_,_,_,_,g=>Ie e (g.step i)
def ak6 (d:Nat):(b.tick a d).1.fN=b.fN:=(Ga a _ _).1
def ak7 (d:Nat):(b.tick a d).1.wm=max b.wm d:=(Ga a _ _).2
def P7:∀(d:C kr)(b:dg),(b.feed a d).2.length=d.length
 |[],_=>rfl
 |e::d,b=>by show((b.k9 a e).feed a d).2.length+1=d.length+1;rw[P7 d]
def E2 (e:C (C kr×cG Nat)):Prop:=∀f∈e,∀d,Sum.inl d∈f.1->lQ (d.key,d.weight)
def l9.LS (d:a.Ok):∀{o:C (C kr×cG Nat)}{e:jf},E2 o->l9 a o e->∃q,jL a e.k e.rs e.cS q
 |[],e,_,g=>by have g:e=jf.new a:=g;subst g;exact⟨[],jL.new a⟩
 |p::o,e,i,g=>by
  obtain⟨r,n,h0,rfl⟩:=g;obtain⟨q,l⟩:=l9.LS d (λt m=>i t (dN _ m)) h0;obtain⟨f,j⟩:=l.feed d p.1 (i p (dQ ..));have h:=Ie n j;unfold jf.frame;cases p.2 with
  |none=>exact⟨f,h⟩
  |some s=>exact⟨f,h.tick d s⟩
def jL.len {e:C jg}{d:C gH}{f:gP}(g:jL a b e d f):f.length=d.length:=by have:=dq List.length g.it;simpa using this
def mE (e:C gQ)(f:C Nat):C gH:=(e.zip f).flatMap λd=>if d.2=0 then[nx d.1]else[]
def acU {g:C gQ}{h:C Nat}{d i:Nat}{j:gQ}(f:g[d]? =some j)(e:h[d]? =some i):mE (g.take (d+1)) (h.take (d+1))=mE (g.take d) (h.take d)++if i=0 then[nx j]else[]:=by have k:=(da.1 f).1;have l:=(da.1 e).1;unfold mE;rw[ia,ia,f,e,List.zip_append (by rw[eD,eD];omega),j9];simp
def P5:∀{i:C gQ}{b:dg},(∀e∈i,mg e)->(∀j∈(b.feed a (jm a i)).2,j<=6)/\(∀(l:Nat)(e:gQ),i[l]? =some e->(b.feed a (jm a i)).2[l]? =some 0->(DF.jN e.2.1 e.2.2.1 e.2.2.2).2=0)/\b.kept a (jm a i)=mE i (b.feed a (jm a i)).2
 |[],_,_=>⟨λj d=>(nomatch d),λl e p _=>by simp at p,rfl⟩
 |e::i,b,p=>by
  have o:=p e (dQ ..);have m:=Lg (d:=a) o;obtain⟨r,s,t⟩:=P5 (b:=b.k9 a (gn (DF.kU a.key e))) λv u=>p v (dN _ u);have w:(b.feed a (jm a (e::i))).2=b.jb a (gn (DF.kU a.key e))::((b.k9 a (gn (DF.kU a.key e))).feed a (jm a i)).2:=rfl;have q:b.kept a (jm a (e::i))=b.qE a (gn (DF.kU a.key e))++(b.k9 a (gn (DF.kU a.key e))).kept a (jm a i):=rfl;have g:b.jb a (gn (DF.kU a.key e))<=6/\(b.jb a (gn (DF.kU a.key e))=0->(DF.jN e.2.1 e.2.2.1 e.2.2.2).2=0/\b.qE a (gn (DF.kU a.key e))=[nx e])/\(b.jb a (gn (DF.kU a.key e))≠0->b.qE a (gn (DF.kU a.key e))=[]):=by
   cases f:gn (DF.kU a.key e)with
   |inl z=>
    obtain⟨rfl,h0⟩:=Su o f;refine⟨?_,λd=>⟨h0,?_⟩,λd=>?_⟩
    .by_cases h:b.jn a (nx e)=0
     .show b.jn a _<=6;omega
     .exact(Q8 _ h).2
    .have d:b.jn a (nx e)=0:=d;unfold dg.qE;dsimp only;rw[cM d]
    .have d:b.jn a (nx e)≠0:=d;unfold dg.qE;dsimp only;rw[cJ d]
   |inr j=>
    have n:(DF.kU a.key e).2≠0:=λh0=>by unfold gn at f;rw[cM h0]at f;cases f
    have d:j=(DF.kU a.key e).2.toNat:=by unfold gn at f;rw[cJ n]at f;injection f with f;exact f.symm
    obtain⟨x,y⟩:=m.no n;exact⟨by show j<=6;omega,λh0=>absurd (show j=0 from h0) (by omega),λ_=>rfl⟩
  rw[w,q,t];refine⟨λj d=>?_,λl v h d=>?_,?_⟩
  .rcases dh.1 d with rfl|d
   .exact g.1
   .exact r j d
  .cases l with
   |zero=>simp only[Jg,ln]at h d;subst h;exact(g.2.1 d).1
   |succ l=>simp only[y0]at h d;exact s l v h d
  .unfold mE;rw[Jn,ji];congr 1;by_cases d:b.jb a (gn (DF.kU a.key e))=0
   .rw[cM d];exact(g.2.1 d).2
   .rw[cJ d];exact g.2.2 d
def nE (d:C Nat):C Nat:=(List.range 7).map λe=>d.count e
def yH (d:C Nat):(nE d).length=7:=by simp[nE]
def EK (d:C Nat){e:Nat}(f:e<=6):(nE d)[e]? =some (d.count e):=by unfold nE;rw[eK,AS (by omega)];rfl
def akR (d:C Nat){e:Nat}(i:e<=6):(nE d).set e (d.count e+1)=nE (d++[e]):=by
 refine qo λg=>?_;by_cases h:g<7
 .rw[EK _ (by omega),oD];by_cases f:e=g
  .subst f;rw[cM rfl,cM (by rw[yH];omega),I9];simp
  .rw[cJ f,EK _ (by omega),I9];simp[f]
 .rw[nZ (by rw[fy,yH];omega),nZ (by rw[yH];omega)]
def KP {j:C gQ}(k:∀f∈j,mg f):∀g,Sum.inl g∈jm a j->lQ (g.key,g.weight):=λg i=>by
 obtain⟨f,h,d⟩:=dz.1 i;have e:=Lg (d:=a) (k f h);by_cases h0:(DF.kU a.key f).2=0
 .unfold gn at d;rw[cM h0]at d;injection d with d;subst d;exact(e.it h0).1
 .unfold gn at d;rw[cJ h0]at d;cases d
def abw (d:C gQ):(jm a d).length=d.length:=dL _
end
def MH:fB prog 31 57 3 32 (PE [vE,F 0,J 0]):=.mk' underlying31 (by kernel_rfl) rfl (by decide)
def eC (a:gQ):C M:=[a.1,F a.2.2.1,J a.2.2.2]
def Z9 (a:gQ):(eC a).length=3:=rfl
def fH (a:gH):C M:=[.string a.key,F a.time,J a.weight]
def Cp (a:gH):(fH a).length=3:=rfl
def acJ {a:gQ}(b:mg a)(h0:(DF.jN a.2.1 a.2.2.1 a.2.2.2).2=0):DF.Lp (DF.jN a.2.1 a.2.2.1 a.2.2.2).1=.agg (fH (nx a)).toArray:=by unfold nx;obtain⟨c,-⟩:=G0 b h0;rw[c];unfold DF.Lp fH;dsimp only;rw[rY b.2.2.1]
def Q0 (b:Nat):∀a,(su b a).length=a.length+1
 |[]=>rfl
 |c::a=>by rw[su];split<;>simp[Q0 b a]
def TI:∀a,(vF a).length=a.length
 |[]=>rfl
 |b::a=>by show(su b (vF a)).length=_;rw[Q0,TI a];rfl
def UL (b:PC)(a:dg)(c:Nat):(a.tick b c).2.length<=a.dY.length:=by unfold dg.tick;rw[JZ];unfold dg.due;refine gF (AV _ _) ?_;rw[TI,dL];exact dT _
def S5 (c:C RV):∀b∈c.flatMap fm,b.oneCell'=true:=λb a=>by obtain⟨d,_,a⟩:=rZ.1 a;simp only[fm,iD,dh,nn,o6]at a;rcases a with rfl|rfl|rfl|rfl|rfl|rfl|rfl<;>rfl
def yB (a:RV):(fm a).length=7:=rfl
def abW {b f:O}{a:Nat->Prop}{c d e:C V}(j:cI b a (cz d::cz c::e) f):cI b a (cz (c++d)::e) f:=by have g:cI b a (d++(cz c::e)) f:=cI.cz.2 j;have h:cI b a (cz c::(d++e)) f:=g.perm eg;have i:cI b a (c++(d++e)) f:=cI.cz.2 h;exact cI.cz.1 (by rw[dJ];exact i)
def Vj {h:dX}{k:Nat}{c:O}{b:Nat->Prop}{g:fJ}{j:dD}{l:O}{d e f:C V}{a:Array Oper}{i:C Oper}(m:WL h k c b a g i j (cz (d++e)::f) l):WL h k c b a g i j (cz e::cz d::f) l:=vL abW m
section
variable{a:PC}{n:C Nat}{c d j:M}{l:O}{g f e:V}{h:CA}{k:C SS}{i:dg}{m:gP}{b:C gQ}
def On (p:1<=b.length)(q:b.length<=7)(hE:∀x∈b,mg x)(S:a.Ok)(R:jr a n c d (a.low i.wm) h k g f i)(Q:jx a i m)(A:h.idle)(D:h.wm<=1099511627776)(z:m.length<=1000000)(B:qV i)(T:Rd l (cz (dO a c d h k g f e)).fq 1 j (gL (oL b)).length (DF.bv (gL (oL b))))(h0:Hl l (cz (dO a c d h k g f e))):Sr 26 [Z h.k,j] l (cz (dO a c d h k g f e)) λab P=>∃o u s r v,ab=vS o b.length u/\P=[cz (dO a c d h v s r e),row (vS o b.length u) 3 1 b.length (ec (i.feed a (jm a b)).2)]/\jr a n c d (a.low (i.feed a (jm a b)).1.wm) h v s r (i.feed a (jm a b)).1/\qV (i.feed a (jm a b)).1:=by
 obtain⟨b1,G,H⟩:=J6 p q hE;have w:(DF.iH (oL b) a.key).length=b.length:=by rw[J8 _ p q hE,dL]
 have t:=YL S R Q A D H G (λx E=>by rw[J8 _ p q hE]at E;obtain⟨y,X,rfl⟩:=dz.1 E;exact Lg (hE y X)) z (by rw[w];omega) B T h0;rw[abv a p q hE,w]at t;refine t.held.mono ?_;rintro ab P ⟨⟨s,r,v,A',rfl,K,h2,h3,L⟩,w1,w2,W⟩;obtain⟨o,u,rfl⟩:=fs W (q:=1) rfl;rw[P8];exact⟨o,u,s,r,v,rfl,rfl,K,L⟩
end
def qK (d:PC)(a:C (M×C gQ))(b:C Nat):C (C kr×cG Nat):=(a.zip b).map λc=>(jm d c.1.2,if c.2 % 3=0 then none else some c.2)
def aiS (e:PC){a:C (M×C gQ)}{b:C Nat}{c d:Nat}{f:M×C gQ}(i:a[c]? =some f)(h:b[c]? =some d):((qK e a b).take (c+1)).reverse=(jm e f.2,if d % 3=0 then none else some d)::((qK e a b).take c).reverse:=by
 have j:(qK e a b)[c]? =some (jm e f.2,if d % 3=0 then none else some d):=by unfold qK;have g:(a.zip b)[c]? =some (f,d):=AU.2 ⟨i,h⟩;rw[eK,g];rfl
 rw[ia,j];simp
def aiR (c:PC){a:C (M×C gQ)}{b:C Nat}(d:b.length=a.length):(qK c a b).length=a.length:=by unfold qK;rw[dL,Fl];omega
def pk (d:jf)(a:C RV)(iv c b:M):C V:=[row iv 57 3 d.cS.length (d.cS.flatMap fH),row c 45 7 a.length (a.flatMap fm),cz (a.flatMap jw),row b 23 1 7 (dF (nE d.vs))]
structure Jz (e:O)(a:C (M×C gQ))(d:C Nat)(b:C (M×C Int))(g h i:M):Prop where
 f:Rd e cW 1 g a.length (a.map Prod.fst)
 fe:∀c∈a,DF.wv e c.1 c.2
 k:Rd e cW 1 h d.length (ec d)
 p:Rd e cW 1 i b.length (b.map Prod.fst)
 pe:∀c∈b,Rd e cW 1 c.1 c.2.length (oT c.2)
section
variable{a:PC}{c:C Nat}{b:O}
set_option maxRecDepth 2000 in
def ahh {cv tv fv kv pv:M}{o:C (M×C gQ)}{ab:C Nat}{an:C (M×C Int)}{ao:cG Addr}{ap:Nat}{Q:C Int}(hc:a.Ok)(bx:lU c)(hr:Rd b cW 2 cv (fM a c).length (lI (fM a c)))(ht:Rd b cW 1 tv 16 (dF a.table))(hn:Jz b o ab an fv kv pv)(aA:wB o ab an)(hQ:Rd b cW 1 (.slice ao Q.length ap) Q.length (oT Q))(ce:Q.length<=140737488355328):Sn 10 [gV a cv tv,PE [fv,kv,pv],.slice ao Q.length ap] b λu H=>∃(d:jf)(g:C RV)(iv rv jv pz:M),u=PF [PE [iv,rv,jv],pz,.bool true]/\H=pk d g iv rv jv/\g.map RV.R=d.rs/\l9 a (([],some 1099511627776)::(qK a o ab).reverse) d/\d.cS.length<=100/\d.vs.length<=100/\d.rs.length<=100:=by
 obtain⟨hF,br,hK,hP,bu⟩:=hn;have h8:=aA.n;have bP:=aA.t;have cg:=aA.p;have bN:=aiR a bP;obtain⟨fA,ad,rfl,-⟩:=id hF;obtain⟨kA,kc,rfl,-⟩:=id hK;obtain⟨pA,pc,rfl,-⟩:=id hP;obtain⟨ck,cl,aL,-,bM,-⟩:=id hQ;injection aL with _ _ aL;rw[<-aL]at bM;clear aL;have b3:=hc.ga;refine enter (g:=178) func10 rfl rfl [(0,.agg (cP a cv tv).toArray),(1,PE [.slice fA o.length ad,.slice kA ab.length kc,.slice pA an.length pc]),(2,_)] rfl ⟨rfl,rfl,rfl,trivial⟩ hS ?_;refine Mf (f:=cP a cv tv) λb1 b4=>?_;refine dK (l:=[.slice fA o.length ad,.slice kA ab.length kc,.slice pA an.length pc]) λx b5=>?_;refine dj [vN,vN,vN] λB b6=>?_;refine NV [vN,vN,vN] λD b9=>?_;refine K3 3 (f:=cP a cv tv) ?_;refine dd func24 (λb T=>Oo hc bx (hr.dx T) (ht.dx T)) ?_;rintro _ _ w2 ⟨z,af,ag,rm,rL,l,rfl,rfl,al,bq,aS,hI⟩;refine cB ?_;refine dw (qy (y:=7) (B:=dF (List.replicate 7 0)) rfl rfl qe (by omega) (by omega) (zM 7).symm) ?_;rintro _ _ cb ⟨j,rfl,rfl⟩;refine KW 2 (G:=[vN,vN,vS j 7 7]) λcc=>?_;refine cH [2,4,6,9,10] ?_;refine cL ?_;refine I (dH 4 (n:=.slice fA o.length ad)) ?_;refine N [2,4,6,9,10,41,42,43] ?_;refine Y ?_;refine gh 57 3 ?_;refine sL ?_;refine gh 45 7 ?_;refine cK [4,4,2,0,0,0,1,0] ?_;obtain⟨zk,aw⟩:∃zk,z.k=zk:=⟨_,rfl⟩;rw[aw];refine dB (λq m H w'=>∃(W:Nat)(d:jf)(A:gP)(ak:CA)(l':C SS)(ay ax:V)(s:cG Addr)(w:Nat)(G:cG Addr)(K:Nat)(g:C RV),m=[(2,.slice ao Q.length ap),(4,Z x),(6,Z B),(9,Z D),(10,Z zk),(41,.slice fA o.length ad),(42,F o.length),(43,F W)]/\H=[cz (dO a af ag ak l' ay ax (cz [])),cF D [.slice s d.cS.length w,.slice G g.length K,vS j 7 7] 34,row (.slice s d.cS.length w) 57 3 d.cS.length (d.cS.flatMap fH),row (.slice G g.length K) 45 7 g.length (g.flatMap fm),cz (g.flatMap jw),row (vS j 7 7) 23 1 7 (dF (nE d.vs)),cF x [.slice fA o.length ad,.slice kA ab.length kc,.slice pA an.length pc] 41,cF B [vN,vN,vN] 34]/\q+W=o.length/\l9 a ((qK a o ab).take W).reverse d/\jL a d.k d.rs d.cS A/\jr a c af ag (a.low d.k.wm) ak l' ay ax d.k/\ak.k=zk/\ak.idle/\ak.wm<=1099511627776/\qV d.k/\g.map RV.R=d.rs/\d.vs.length<=7*W/\d.cS.length<=7*W/\d.rs.length<=4*W) o.length ⟨0,jf.new a,[],z,l,rm,rL,.none,0,.none,0,[],rfl,rfl,rfl,rfl,jL.new a,hI,aw,al,by omega,λP aj=>by rw[uJ (show P∈List.replicate 7 0 from aj)];omega,rfl,dT _,dT _,dT _⟩ ?_;clear hI al bq aw;rintro q _ _ w3 ⟨W,d,A,z,l,rm,rL,s,w,G,K,g,rfl,rfl,hq,ai,hO,hI,aw,al,av,aY,ar,bh,ba,a0⟩;subst aw;refine cZ (λbz=>?_) λbz=>?_
 .have hi:W<o.length:=by omega
  obtain⟨fx,aJ⟩:∃P,o[W]? =some P:=⟨_,dr hi⟩;obtain⟨t,aM⟩:∃P,ab[W]? =some P:=⟨_,dr (by omega)⟩;obtain⟨px,aX⟩:∃P,an[W]? =some P:=⟨_,dr (by omega)⟩;have aE:=br fx (eH aJ);obtain⟨aT,aU,hE⟩:=aA.f fx (eH aJ);have cj:=aA.tb t (eH aM);obtain⟨b2,bp⟩:=aA.pb px (eH aX);have bw:=bu px (eH aX);have aH:=aiS a aJ aM;obtain⟨xv,r⟩:=fx;dsimp only at aE aT aU hE aH;obtain⟨xA,xc,rfl,-⟩:=id aE.1;obtain⟨d1,d2,d3⟩:=J6 aT aU hE;obtain⟨fb,fo,rfl,bH,bI⟩:=hF.at_ hi;have cd:=hO.len;obtain⟨a4,a5,a6⟩:=P5 (a:=a) (b:=d.k) hE;have aI:(d.k.feed a (jm a r)).2.length=r.length:=by rw[P7,abw]
  obtain⟨E,hV⟩:∃E,E=(d.k.feed a (jm a r)).2:=⟨_,rfl⟩;rw[<-hV]at a4 a5 a6 aI;refine cC ?_;refine eS (λm H w'=>∃(d:jf)(A:gP)(ak:CA)(l':C SS)(ay ax:V)(s:cG Addr)(w:Nat)(G:cG Addr)(K:Nat)(g:C RV),m=[(2,.slice ao Q.length ap),(4,Z x),(6,Z B),(9,Z D),(10,Z z.k),(41,.slice (some ⟨fb,fo,.none⟩) o.length ad),(42,F o.length),(43,F W)]/\H=[cz (dO a af ag ak l' ay ax (cz [])),cF D [.slice s d.cS.length w,.slice G g.length K,vS j 7 7] 34,row (.slice s d.cS.length w) 57 3 d.cS.length (d.cS.flatMap fH),row (.slice G g.length K) 45 7 g.length (g.flatMap fm),cz (g.flatMap jw),row (vS j 7 7) 23 1 7 (dF (nE d.vs)),cF x [.slice (some ⟨fb,fo,.none⟩) o.length ad,.slice kA ab.length kc,.slice pA an.length pc] 41,cF B [vN,vN,vN] 34]/\l9 a ((qK a o ab).take (W+1)).reverse d/\jL a d.k d.rs d.cS A/\jr a c af ag (a.low d.k.wm) ak l' ay ax d.k/\ak.k=z.k/\ak.idle/\ak.wm<=1099511627776/\qV d.k/\g.map RV.R=d.rs/\d.vs.length<=7*(W+1)/\d.cS.length<=7*(W+1)/\d.rs.length<=4*(W+1)) ?_ ?_
  .refine cL ?_;refine I (cR (ab:=W) (ad:=hi)) ?_;refine I (jd (n:=.slice xA r.length xc) (hc:=bI _ _ (yn Prod.fst aJ)) (hF:=bH)) ?_;refine cB ?_;refine dd func25 (λb T=>DF.Qo _ r b (aE.dx T) (by omega)) ?_;rintro _ _ w4 ⟨u,rfl,rfl⟩;rw[d1];refine cB ?_;refine cY ((cz (dO a af ag z l rm rL (cz [])))) [_,_,_,_,_,_,_,_] func26 ((c8 1 rfl)) (λb T au=>On aT aU hE hc hI hO.inv al av (by omega) aY (Rd.D5 T (c8 1 rfl) (.head _)) au) ?_;rintro _ _ w5 ⟨gv,vc,a2,am,l1,rfl,rfl,bs,aZ⟩;rw[<-hV];refine Y ?_;refine fu [0,0,1,1,1,1,1,1,1] ?_;refine cH [2,4,6,9,10,12,13,15,16,41,42,43] ?_;refine N [2,4,6,9,10,12,13,16,41,42,43,64] ?_;refine N [2,4,6,9,10,12,16,41,42,43,66,67,68] ?_;refine Y ?_;have aW:∀i,(d.cS++mE (r.take i) (E.take i)).length<=7*W+r.length:=λi=>by
    have ah:∀(r:C gQ)(E:C Nat),(mE r E).length<=r.length:=λr=>by
     induction r with
     |nil=>intro E;exact dT _
     |cons P r ih=>
      intro E;cases E with
      |nil=>exact gK _
      |cons v E=>
       have:=ih E;unfold mE at this|-;rw[Jn,ji,cX,eE];have h2:(if v=0 then[nx P]else[]).length<=1:=by split<;>simp
       dsimp only at h2|-;omega
    have:=ah (r.take i) (E.take i);rw[cX];rw[eD]at this;omega
   have bD:∀i v,(d.vs++E.take i).count v<=100:=λi v=>by have ah:=Fe (a:=v) (l:=(d.vs++E.take i));rw[cX,eD]at ah;omega
   refine dB (λq2 m H w'=>∃(i:Nat)(s:cG Addr)(w:Nat),m=[(2,.slice ao Q.length ap),(4,Z x),(6,Z B),(9,Z D),(10,Z z.k),(12,F W),(16,vS gv r.length vc),(41,.slice (some ⟨fb,fo,.none⟩) o.length ad),(42,F o.length),(43,F W),(66,.slice xA r.length xc),(67,F r.length),(68,F i)]/\H=[cz (dO a af ag z l1 a2 am (cz [])),row (vS gv r.length vc) 3 1 r.length (ec E),cF D [.slice s (d.cS++mE (r.take i) (E.take i)).length w,.slice G g.length K,vS j 7 7] 34,row (.slice s (d.cS++mE (r.take i) (E.take i)).length w) 57 3 (d.cS++mE (r.take i) (E.take i)).length ((d.cS++mE (r.take i) (E.take i)).flatMap fH),row (.slice G g.length K) 45 7 g.length (g.flatMap fm),cz (g.flatMap jw),row (vS j 7 7) 23 1 7 (dF (nE (d.vs++E.take i))),cF x [.slice (some ⟨fb,fo,.none⟩) o.length ad,.slice kA ab.length kc,.slice pA an.length pc] 41,cF B [vN,vN,vN] 34]/\q2+i=r.length) r.length ⟨0,s,w,rfl,by rw[show(d.cS++mE (r.take 0) (E.take 0))=d.cS from eN _,show(d.vs++E.take 0)=d.vs from eN _],rfl⟩ ?_;rintro q2 _ _ w6 ⟨i,s,w,rfl,rfl,ch⟩;refine cZ (λbA=>?_) λbA=>?_
   .have hj:i<r.length:=by omega
    obtain⟨y,hy⟩:∃P,r[i]? =some P:=⟨_,dr hj⟩;obtain⟨v,hv⟩:∃P,E[i]? =some P:=⟨_,dr (by omega)⟩;have bg:=a4 v (eH hv);have bi:=hE y (eH hy);have bj:=aE.2 y (eH hy);have aK:=acU hy hv;have cf:=bD i v;have bf:=akR (d.vs++E.take i) bg;have bO:=EK (d.vs++E.take i) bg;have bb:=a5 i y hy;rw[hv]at bb;rw[dJ,show E.take i++[v]=E.take (i+1) by rw[ia,hv];rfl]at bf;have bE:∀u∈eC y,u.oneCell'=true:=by
     obtain⟨yA,yc,e,-⟩:=id bj.1;intro u hu;simp only[eC,dh,nn,o6]at hu;rcases hu with rfl|rfl|rfl
     .rw[e];rfl
     .rfl
     .rfl
    obtain⟨eb,eo,rfl,bF,bG⟩:=(show Rd b cW 3 (.slice xA r.length xc) r.length (r.flatMap eC)from aE.1).at_ hj;refine cC ?_;refine eS (λm H w'=>∃(s:cG Addr)(w:Nat),m=[(2,.slice ao Q.length ap),(4,Z x),(6,Z B),(9,Z D),(10,Z z.k),(12,F W),(16,vS gv r.length vc),(41,.slice (some ⟨fb,fo,.none⟩) o.length ad),(42,F o.length),(43,F W),(66,.slice (some ⟨eb,eo,.none⟩) r.length xc),(67,F r.length),(68,F i)]/\H=[cz (dO a af ag z l1 a2 am (cz [])),row (vS gv r.length vc) 3 1 r.length (ec E),cF D [.slice s (d.cS++mE (r.take (i+1)) (E.take (i+1))).length w,.slice G g.length K,vS j 7 7] 34,row (.slice s (d.cS++mE (r.take (i+1)) (E.take (i+1))).length w) 57 3 (d.cS++mE (r.take (i+1)) (E.take (i+1))).length ((d.cS++mE (r.take (i+1)) (E.take (i+1))).flatMap fH),row (.slice G g.length K) 45 7 g.length (g.flatMap fm),cz (g.flatMap jw),row (vS j 7 7) 23 1 7 (dF (nE (d.vs++E.take (i+1)))),cF x [.slice (some ⟨fb,fo,.none⟩) o.length ad,.slice kA ab.length kc,.slice pA an.length pc] 41,cF B [vN,vN,vN] 34]) ?_ ?_
    .refine cL ?_;refine I (cR (ab:=i) (ad:=hj)) ?_;refine I (kY (b:=eC y) (hc:=λk u hu=>by rw[ma];exact bG _ _ (qC Z9 hy hu)) (hF:=bF)) ?_;refine dj [vN,F 0,J 0] λbR bU=>?_;refine KW 0 (t:=eC y) (G:=eC y) (h1:=bE) λbV=>?_;refine cH [2,4,6,9,10,12,16,17,18,41,42,43,66,67,68] ?_;refine df ?_;refine I (cR (ab:=i) (ad:=hj)) ?_;refine I (gj 2 (n:=F v) (hv:=by unfold ec;rw[dU,fT,eK,hv];rfl)) ?_;refine cL ?_;refine dZ rfl rfl (cR (ab:=i) (ad:=hj)) ?_;refine dZ rfl rfl (gj 2 (n:=F v) (hv:=by unfold ec;rw[dU,fT,eK,hv];rfl)) ?_;refine N [2,4,6,9,10,12,16,17,18,41,42,43,66,67,68,84] ?_;refine cQ ?_;refine mm 11 [10] [(_,some 10),(_,none),(_,none)] [_,_,_,_,_,_,_] (de [7,3,2] _ rfl) λb7=>?_;refine Y ?_;refine ew rfl (dH 1 (n:=vS j 7 7)) ?_;refine cC ?_;refine ew rfl (cR (ab:=i) (ad:=hj)) ?_;refine ew rfl (gj 2 (n:=F v) (hv:=by unfold ec;rw[dU,fT,eK,hv];rfl)) ?_;refine ew rfl (cR (ab:=v)) ?_;refine ew rfl (gj 0 (n:=J (((d.vs++E.take i).count v:Nat):Int)) (hv:=by unfold dF;rw[dU,fT,eK,bO];rfl)) ?_;refine ew rfl (cU (z:=J (((d.vs++E.take i).count v+1:Nat):Int)) (og rfl rfl) (by rw[gR];rfl)) ?_;refine ew rfl (cR (ab:=v)) ?_;refine jC rfl (fK 0 (y:=dF (nE (d.vs++E.take (i+1)))) (hl:=by show 0+v*1+1<=_;rw[yK,yH];omega) (ae:=by rw[<-bf];exact EL _ (by rw[yH];omega))) ?_;rintro _ _ bQ rfl;refine⟨_,de [1,1] _ rfl,?_⟩;refine sQ [2,4,6,9,10,12,16,17,18,41,42,43,66,67,68] [3,3,1,0,1,1,1,0,0,0] ?_;refine cL ?_;refine I (cR (ab:=i) (ad:=hj)) ?_;refine I (gj 2 (n:=F v) (hv:=by unfold ec;rw[dU,fT,eK,hv];rfl)) ?_;refine cZ (λbB=>?_) λbB=>?_
     .have aN:v=0:=by omega
      have h0:=bb (by rw[aN]);rw[cM aN]at aK;refine K3 0 (f:=eC y) ?_;refine dd func27 (λb T=>DF.Q7 y.1 y.2.1 y.2.2.1 y.2.2.2 b (bj.1.dx T) (by omega) (λP aj=>by have:=bi.1.2 P aj;omega)) ?_;rintro _ _ w7 ⟨rfl,rfl⟩;rw[acJ bi h0,h0];refine NV [vE,F 0,J 0] λbS bW=>?_;refine cO 0 (u:=fH (nx y)) (H:=fH (nx y)) (h1:=by simp[fH,Value.oneCell']) λbX=>?_;refine N [2,4,6,9,10,12,16,19,20,41,42,43,66,67,68] ?_;refine N [2,4,6,9,10,12,16,19,41,42,43,66,67,68,107] ?_;refine cL ?_;refine I (dH 4 (n:=.slice s (d.cS++mE (r.take i) (E.take i)).length w)) ?_;refine I (di 0 (b:=fH (nx y))) ?_;refine gZ MH (l:=fH (nx y)) λbT bY=>?_;refine dw (jo 6 MH (h1:=by simp[fH,Value.oneCell']) (ae:=by have:=aW i;omega) (ah:=by have:=aW i;omega)) ?_;rintro _ _ w8 ⟨⟨aO,aP,rfl⟩,rfl⟩;refine KW 5 (G:=[.slice aO ((d.cS++mE (r.take i) (E.take i)).length+1) aP,.slice G g.length K,vS j 7 7]) λbZ=>?_;refine fu [3,3,3,3,3,3,3,3,3] ?_;refine cH [2,4,6,9,10,12,16,41,42,43,66,67,68] ?_;refine⟨aO,aP,rfl,?_⟩;have e:(d.cS++mE (r.take (i+1)) (E.take (i+1)))=(d.cS++mE (r.take i) (E.take i))++[nx y]:=by rw[aK,dJ]
      rw[e];generalize(d.cS++mE (r.take i) (E.take i))=X;rw[cX,j9];rfl
     .have aN:v≠0:=by omega
      rw[cJ aN,eN]at aK;refine cK [1,1,1,1,1,1,1,1,1] ?_;refine kw [2,4,6,9,10,12,16,41,42,43,66,67,68] rfl (iY ?_);refine⟨s,w,rfl,?_⟩;rw[aK]
    .rintro _ _ w9 ⟨aO,aP,rfl,rfl⟩;refine N [2,4,6,9,10,12,16,41,42,43,66,67,68] ?_;exact⟨q2-1,by omega,i+1,aO,aP,rfl,rfl,by omega⟩
   .refine dI ?_;refine cC ?_;have hj:i=r.length:=by omega
    subst hj;have eV:E.take r.length=E:=by rw[<-aI,j6]
    have bJ:d.k.kept a (jm a r)=mE r E:=a6;rw[j6,eV];have aG:=aW r.length;rw[j6,eV]at aG;rw[<-bJ]at aG|-;obtain⟨L,aD⟩:∃P,P=d.cS++d.k.kept a (jm a r):=⟨_,rfl⟩;rw[<-aD]at aG|-;refine cK [0,1,1,1,1,1,1,1] ?_;obtain⟨A1,a8⟩:=hO.feed hc (jm a r) (KP hE);rw[<-aD]at a8;refine K4 [2,4,6,9,10,12,21,41,42,43] ?_;refine dB (λq3 m H w'=>∃(i:Nat)(az:V)(l2:C SS)(ae:C Nat),m=[(2,.slice ao Q.length ap),(4,Z x),(6,Z B),(9,Z D),(10,Z z.k),(12,F W),(21,F i),(41,.slice (some ⟨fb,fo,.none⟩) o.length ad),(42,F o.length),(43,F W)]/\H=[cz (dO a af ag z l2 az am (cz [])),cF D [.slice s L.length w,.slice G g.length K,vS j 7 7] 34,row (.slice s L.length w) 57 3 L.length (L.flatMap fH),row (.slice G g.length K) 45 7 g.length (g.flatMap fm),cz (g.flatMap jw),row (vS j 7 7) 23 1 7 (dF (nE (d.vs++E))),cF x [.slice (some ⟨fb,fo,.none⟩) o.length ad,.slice kA ab.length kc,.slice pA an.length pc] 41,cF B [vN,vN,vN] 34]/\q3+i=5/\jr a c af ag (a.low (pE ae (d.k.feed a (jm a r)).1).wm) z l2 az am (pE ae (d.k.feed a (jm a r)).1)) 5 ⟨0,a2,l1,[],rfl,rfl,rfl,bs⟩ ?_;rintro q3 _ _ cm ⟨i,az,l2,ae,rfl,rfl,ci,aV⟩;refine cC ?_;refine eS (λm H w'=>m=[(2,.slice ao Q.length ap),(4,Z x),(6,Z B),(9,Z D),(10,Z z.k),(12,F W),(21,F i),(41,.slice (some ⟨fb,fo,.none⟩) o.length ad),(42,F o.length),(43,F W),(123,.bool (decide (i<Q.length/\i<5)))]/\H=[cz (dO a af ag z l2 az am (cz [])),cF D [.slice s L.length w,.slice G g.length K,vS j 7 7] 34,row (.slice s L.length w) 57 3 L.length (L.flatMap fH),row (.slice G g.length K) 45 7 g.length (g.flatMap fm),cz (g.flatMap jw),row (vS j 7 7) 23 1 7 (dF (nE (d.vs++E))),cF x [.slice (some ⟨fb,fo,.none⟩) o.length ad,.slice kA ab.length kc,.slice pA an.length pc] 41,cF B [vN,vN,vN] 34]) ?_ (λ_ _ cn hM=>?_)
    .by_cases bc:i<Q.length
     .iterate 9 refine Y ?_
      refine cH [2,4,6,9,10,12,21,41,42,43,123] ?_;refine⟨?_,rfl⟩;rw[show decide (i<Q.length/\i<5)=decide ((i:Int)<5)from uU.2 ⟨λh=>by omega,λh=>⟨bc,by omega⟩⟩]
     .iterate 9 refine Y ?_
      refine cH [2,4,6,9,10,12,21,41,42,43,123] ?_;refine⟨?_,rfl⟩;rw[show decide (i<Q.length/\i<5)=false from fL (λh=>bc h.1)]
    obtain⟨rfl,rfl⟩:=hM;refine jc rfl (λa9=>?_) (λa9=>?_)
    .obtain⟨P,aj⟩:∃P,Q[i]? =some P:=⟨_,dr a9.1⟩;have bo:Rd b cW 1 (.slice (if ap=i then ao else ao.map (·.add (i*1))) 1 (ap-i)) 1 (oT [P]):=by
      have h:=hQ.cut (b:=i) (f:=i+1) (by omega) (by omega);rw[show i+1-i=1 by omega]at h;have e:((oT Q).drop (i*1)).take (1*1)=oT [P]:=by unfold oT;rw[fT,<-uM,<-uN,fT];obtain⟨ah,h2⟩:=da.1 aj;rw[jP ah,h2];rfl
      rwa [e]at h
     refine iq ?_;refine I (cU (z:=F ((i+1:Nat):Int)) (kH rfl rfl) (by rw[gR];rfl)) ?_;refine I (cU (z:=.slice (if ap=i then ao else ao.map (·.add (i*1))) 1 (ap-i)) (qB 1 (w:=i) (x:=i+1) rfl underlying22 (by kernel_rfl) ⟨_,rfl⟩ ⟨_,rfl⟩) (by rw[show i+1-i=1 by omega])) ?_;refine cY ((cz (dO a af ag z l2 az am (cz [])))) [_,_,_,_,_,_,_] func28 (cD _) (λb T au=>ahH (m:=[P]) hc aS aV (bo.fg T (cD _)) (by simp) au) ?_;rintro _ _ cp ⟨aR,l3,aQ,rfl,bt⟩;refine ir [2,4,6,9,10,12,21,41,42,43] ?_;exact⟨q3-1,by omega,i+1,aR,l3,ae++aQ,rfl,rfl,by omega,by have e:pE (ae++aQ) (d.k.feed a (jm a r)).1=pE aQ (pE ae (d.k.feed a (jm a r)).1):=uK;rw[e,TT aQ];exact bt⟩
    .refine dI ?_;refine cC ?_;obtain⟨kb,ko,rfl,bd,be⟩:=hK.at_ (i:=W) (by omega);have aF:=Ie ae a8;refine cC ?_;refine I (dH 6 (n:=.slice (some ⟨kb,ko,.none⟩) ab.length kc)) ?_;refine Y ?_;refine I (cR (ab:=W)) ?_;refine I (jd (n:=F t) (hc:=be _ _ (yn (λP:Nat=>Value.int .i64 (P:Int)) aM)) (hF:=bd)) ?_;refine I (cU (z:=F ((t % 3:Nat):Int)) (te rfl rfl) (by rw[AO];rfl)) ?_;refine cZ (λbC=>?_) λbC=>?_
     .have a1:t % 3=0:=by omega
      rw[cM a1]at aH;refine kw [2,4,6,9,10,41,42,43] rfl ?_;refine dI ?_;subst aD hV;refine⟨d.frame a (jm a r) ae none,A1,z,l2,az,am,s,w,G,K,g,rfl,rfl,?_,aF,aV,rfl,al,av,λP aj=>aZ P (by rw[<-MA ae];exact aj),ar,?_,?_,?_⟩
      .rw[aH];exact⟨d,ae,ai,rfl⟩
      .show(d.vs++_).length<=_;rw[cX,aI];omega
      .exact gF aG (by omega)
      .exact gF a0 (by omega)
     .have a1:¬t % 3=0:=by omega
      rw[cJ a1]at aH;refine cC ?_;obtain⟨pb,po,rfl,bK,bL⟩:=hP.at_ (i:=W) (by omega);refine eO 17 [11] [_] [_,_,_,_,_,_,_] (de [6] _ rfl) λca=>?_;refine cC ?_;refine cN rfl (dH 0 (n:=.slice (some ⟨kb,ko,.none⟩) ab.length kc)) ?_;refine Y ?_;refine cN rfl (cR (ab:=W)) ?_;refine cN rfl (jd (n:=F t) (hc:=be _ _ (yn (λP:Nat=>Value.int .i64 (P:Int)) aM)) (hF:=bd)) ?_;refine Y ?_;refine cN rfl (dH 0 (n:=.slice (some ⟨pb,po,.none⟩) an.length pc)) ?_;refine Y ?_;refine cN rfl (cR (ab:=W)) ?_;refine cN rfl (jd (n:=px.1) (hc:=bL _ _ (yn Prod.fst aX)) (hF:=bK)) ?_;refine eh rfl (ft ((cz (dO a af ag z l2 az am (cz [])))) [_,_,_,_,_,_,_] func29 ((c8 1 rfl)) (λb T au=>J1 t (by omega) av hc aS aV aF.inv aF.rep (bw.fg T (c8 1 rfl)) (by omega) (λP aj=>by have:=bp P aj;omega) au)) ?_;rintro _ _ cq ⟨_,rfl,aR,bl,l3,ul,S,rfl,rfl,aq,a7,-⟩;unfold zT;refine⟨_,de [3] _ rfl,?_⟩;refine N [2,4,6,9,10,22,23,41,42,43] ?_;refine N [2,4,6,9,10,22,41,42,43,156] ?_;refine cC ?_;have bm:S.length<=4:=by have ah:=dq List.length aq;rw[dL]at ah;have h2:=UL a (pE ae (d.k.feed a (jm a r)).1) t;have h3:=(JV hc aF.inv).2;omega
      have bn:g.length<=4*W:=by have ah:=dq List.length ar;rw[dL]at ah;omega
      refine cC ?_;refine I (dH 4 (n:=.slice G g.length K)) ?_;refine Y ?_;refine dw (jo 6 Cz (hr:=λb T=>Rd.dM T (l:=1) rfl) (h1:=S5 S)) ?_;rintro _ _ cr ⟨⟨aB,aC,rfl⟩,rfl⟩;refine KW 4 (G:=[.slice s L.length w,.slice aB (g.length+S.length) aC,vS j 7 7]) λct=>?_;refine fu [2,6,2,2,2,2,2,0,1] ?_;refine Vj ?_;refine fu [1,1,1,1,0,0,0,0] ?_;refine cH [2,4,6,9,10,41,42,43] ?_;subst aD hV;refine⟨d.frame a (jm a r) ae (some t),A1,z.at t,l3,aR,bl,s,w,aB,aC,g++S,rfl,?_,?_,aF.tick hc t,a7,rfl,al,Nat.max_le.2 ⟨av,by omega⟩,λP aj=>aZ P (by rw[<-MA ae,<-ak6 (a:=a) t];exact aj),?_,?_,?_,?_⟩
      .have ei:(d.frame a (jm a r) ae (some t)).cS=d.cS++d.k.kept a (jm a r):=rfl;rw[ei];generalize d.cS++d.k.kept a (jm a r)=X;rw[cX,j9,j9];rfl
      .rw[aH];exact⟨d,ae,ai,rfl⟩
      .rw[dE,ar,aq];rfl
      .show(d.vs++_).length<=_;rw[cX,aI];omega
      .exact gF aG (by omega)
      .show(d.rs++_).length<=_;rw[cX,<-aq,dL];omega
  .rintro _ _ cu ⟨d,A,ak,l',ay,ax,s,w,G,K,g,rfl,rfl,ai,hO,hI,aw,al,av,aY,ar,bh,ba,a0⟩;refine N [2,4,6,9,10,41,42,43] ?_;exact⟨q-1,by omega,W+1,d,A,ak,l',ay,ax,s,w,G,K,g,rfl,rfl,by omega,ai,hO,hI,aw,al,av,aY,ar,bh,ba,a0⟩
 .refine dI ?_;refine Y ?_;have hi:W=o.length:=by omega
  rw[hi,<-bN,j6]at ai;have bn:g.length<=4*W:=by have ah:=dq List.length ar;rw[dL]at ah;omega
  refine cC ?_;refine cY ((cz (dO a af ag z l rm rL (cz [])))) [_,_,_,_,_,_,_] func29 (cD _) (λb T au=>J1 (m:=[]) 1099511627776 (dT _) av hc aS hI hO.inv hO.rep (Rd.nil b _ 1) (by simp) (λP aj=>(nomatch aj)) au) ?_;rintro _ _ cw ⟨aR,bl,l3,ul,S,rfl,rfl,aq,a7,-⟩;unfold zT;have bm:S.length<=4:=by have ah:=dq List.length aq;rw[dL]at ah;have h2:=UL a d.k 1099511627776;have h3:=(JV hc hO.inv).2;omega
  refine N [6,9,10,24,25] ?_;refine cQ ?_;refine I (dH 3 (n:=.slice G g.length K)) ?_;refine Y ?_;refine dw (jo 5 Cz (h1:=S5 S)) ?_;rintro _ _ cx ⟨⟨aB,aC,rfl⟩,rfl⟩;refine KW 3 (G:=[.slice s d.cS.length w,.slice aB (g.length+S.length) aC,vS j 7 7]) λcy=>?_;refine fu [1,5,2,2,2,2,3] ?_;refine Vj ?_;refine K3 1 (f:=[.slice s d.cS.length w,.slice aB (g.length+S.length) aC,vS j 7 7]) ?_;refine KW 5 (G:=[.slice s d.cS.length w,.slice aB (g.length+S.length) aC,vS j 7 7]) λb0=>?_;refine N [6,7,8] ?_;refine cK [5,2,2,0,1] ?_;refine eM ?_;refine⟨_,_,λa3 ha T=>eW results10 (eX (e4 0 rfl underlying34 rfl (by kernel_rfl) rfl) (gg rfl (gg rfl eY))) a3 ha _ T,fO _ _,?_⟩;have e1:(d.frame a [] [] (some 1099511627776)).cS=d.cS:=eN _;have e2:(d.frame a [] [] (some 1099511627776)).vs=d.vs:=eN _;refine⟨d.frame a [] [] (some 1099511627776),g++S,_,_,_,_,rfl,?_,?_,⟨d,[],ai,rfl⟩,?_,?_,?_⟩
  .unfold pk;rw[e1,e2,cX,j9,j9]
  .rw[dE,ar,aq];rfl
  .rw[e1];omega
  .rw[e2];omega
  .show(d.rs++(d.k.tick a 1099511627776).2).length<=_;rw[cX,<-aq,dL];omega
end
def Rb {b:PC}{f:gH}:∀{d:C kr}{c:dg},f∈c.kept b d->Sum.inl f∈d
 |[],_,a=>(nomatch a)
 |e::d,c,a=>by
  have a:f∈c.qE b e++(c.k9 b e).kept b d:=a;rcases dV.1 a with a|a
  .cases e with
   |inl h=>
    unfold dg.qE at a;dsimp only at a;split at a
    .rw[fI]at a;subst a;exact dQ ..
    .cases a
   |inr g=>cases a
  .exact dN _ (Rb a)
def l9.cS {f:PC}{l:gH}:∀{j:C (C kr×cG Nat)}{e:jf},l9 f j e->l∈e.cS->∃b∈j,Sum.inl l∈b.1
 |[],e,d,a=>by have d:e=jf.new f:=d;subst d;cases a
 |b::j,e,d,a=>by
  obtain⟨c,i,h0,rfl⟩:=d;have m:(c.frame f b.1 i b.2).cS=c.cS++c.k.kept f b.1:=by unfold jf.frame;cases b.2<;>rfl
  rw[m]at a;rcases dV.1 a with a|a
  .obtain⟨n,h,g⟩:=l9.cS h0 a;exact⟨n,dN _ h,g⟩
  .exact⟨b,dQ ..,Rb a⟩
def S4 {o:PC}{e:C (M×C gQ)}{g:C Nat}{i:C (M×C Int)}{p:jf}{u:cG Nat}(h:wB e g i)(t:l9 o (([],u)::(qK o e g).reverse) p){q:gH}(m:q∈p.cS):∃c:gQ,mg c/\q=nx c/\(DF.jN c.2.1 c.2.2.1 c.2.2.2).2=0:=by
 obtain⟨w,a,d⟩:=l9.cS t m;rcases dh.1 a with rfl|a
 .cases d
 .rw[za]at a;unfold qK at a;obtain⟨⟨r,v⟩,l,rfl⟩:=dz.1 a;dsimp only at d;obtain⟨c,n,s⟩:=dz.1 d;have b:=(h.f r (Fq l).1).2.2 c n;obtain⟨j,k⟩:=Su b s;exact⟨c,b,j,k⟩
def S3 {i:PC}{b:C (M×C gQ)}{c:C Nat}{g:C (M×C Int)}{k:cG Nat}(d:wB b c g):E2 (([],k)::(qK i b c).reverse):=λn a l e=>by
 rcases dh.1 a with rfl|a
 .cases e
 .rw[za]at a;unfold qK at a;obtain⟨⟨j,m⟩,h,rfl⟩:=dz.1 a;exact KP (a:=i) (d.f j (Fq h).1).2.2 l e
def acH {a:gQ}(b:mg a):(nx a).time<=2000:=by have:=b.2.2.2.1;have:=b.2.2.1;show a.2.2.1.toNat<=_;omega
section
variable{a:O}
def gM (b:En):C M:=[.string b.1,J b.2.1,J b.2.2]
end
def j2 (b:Nat)(a:M)(c:Nat):C M:=[F b,a,F c,F 0,vE,vN]
section
variable{a:O}
def Yd (b:cG Addr)(d c:Nat)(a:O):(Instr.build 214 [(0,.slice b d c)].toArray).run prog a=.ok (PE [.slice b d c]) a:=by kernel_rfl
def Ye (b:cG Addr)(d c e:Nat)(a:O):(Instr.build 216 [(0,.agg (j2 2 (.slice b d c) e).toArray)].toArray).run prog a=.ok (.agg (j2 2 (.slice b d c) e).toArray) a:=by kernel_rfl
def aln (b:cG Addr)(d c f:Nat):Sn 102 [.agg (j2 1 (.slice b d c) f).toArray] a λi h=>i=.iface 214 (PE [.slice b d c])/\h=[]:=by refine enter (g:=34) func102 rfl rfl [(0,.agg (j2 1 (.slice b d c) f).toArray)] rfl ⟨rfl,trivial⟩ hS ?_;refine Mf (f:=j2 1 (.slice b d c) f) λe g=>?_;refine cB ?_;refine I (ee (λa=>Yd b d c a)) ?_;refine I (BP rfl underlying214 rfl) ?_;refine N [2] ?_;refine gT results102 ?_;exact⟨rfl,rfl⟩
def alo (b:cG Addr)(d c e:Nat):Sn 102 [.agg (j2 2 (.slice b d c) e).toArray] a λi h=>i=.iface 216 (.agg (j2 2 (.slice b d c) e).toArray)/\h=[]:=by refine enter (g:=34) func102 rfl rfl [(0,.agg (j2 2 (.slice b d c) e).toArray)] rfl ⟨rfl,trivial⟩ hS ?_;refine Mf (f:=j2 2 (.slice b d c) e) λf g=>?_;refine K3 0 (f:=j2 2 (.slice b d c) e) ?_;refine I (ee (λa=>Ye b d c e a)) ?_;refine I (BP rfl underlying216 rfl) ?_;refine N [2] ?_;refine gT results102 ?_;exact⟨rfl,rfl⟩
end
def q8 (c:Nat)(b:M)(a:C Nat):V:=cz [cF c [b] 321,row b 5 1 a.length (DF.bv a)]
section
variable{a:O}
def Dt {k:Nat}{u q:M}{b d:C Nat}(L:d.length<=1000)(R:b.length<=10000)(y:∀f∈d,f<18446744073709551616)(B:Rd a (q8 k u b).fq 1 q d.length (dF d))(h0:Hl a (q8 k u b)):Sr 185 [Z k,q] a (q8 k u b) λ_ v=>∃e,v=[q8 k e (b++d.flatMap DF.er)]:=by
 have p:∀c,((d.take c).flatMap DF.er).length<=11*c:=λc=>by
  induction c with
  |zero=>exact dT _
  |succ c S=>
   rw[ia,j9,cX];cases n:d[c]?with
   |none=>show _+0<=_;omega
   |some f=>have:=DF.nF f;show _+(DF.er f++[]).length<=_;rw[eN];omega
 obtain⟨D,E,rfl,-,-,w⟩:=id B;refine dR func185 h0 ?_;refine N [0,6,7,8] ?_;refine Y ?_;refine eu [_,_] ?_;refine dB (λG T v W=>∃(c:Nat)(e:M),T=[(0,Z k),(6,.slice D d.length E),(7,F d.length),(8,F c)]/\v=[cF k [e] 321,row e 5 1 (b++(d.take c).flatMap DF.er).length (DF.bv (b++(d.take c).flatMap DF.er))]/\G+c=d.length) d.length ⟨0,u,rfl,by rw[show b++(d.take 0).flatMap DF.er=b from eN _];rfl,rfl⟩ ?_;rintro G _ _ X ⟨c,e,rfl,rfl,Q⟩;refine cZ (λm=>?_) λm=>?_
 .obtain⟨f,h⟩:∃f,d[c]? =some f:=⟨_,dr (by omega)⟩;obtain⟨ab,o,rfl,x,-,i⟩:=w.resolve_left (by omega);have A:=p c;refine df ?_;refine I (cR (ab:=c)) ?_;refine I (jd (n:=J f) (hc:=i _ _ (yn (λf:Nat=>Value.int .u64 (f:Int)) h)) (hF:=x)) ?_;refine N [0,5,6,7,8] ?_;refine df ?_;refine I (dH 0 (n:=e)) ?_;refine Y ?_;refine dd func49 (λa g=>DF.xS e (b++(d.take c).flatMap DF.er) f a (Rd.dM g (l:=1) rfl) (by rw[cX];omega) (y f (eH h))) ?_;rintro r _ P rfl;refine kq λg=>?_;obtain⟨s,t,rfl⟩:=fS g (p:=0) rfl;clear g;refine KW 1 (G:=[.slice s (b++(d.take c).flatMap DF.er++DF.er f).length t]) λH=>?_;refine fu [1,0] ?_;refine ir [0,6,7,8] ?_;refine⟨G-1,by omega,c+1,.slice s (b++(d.take c).flatMap DF.er++DF.er f).length t,rfl,?_,by omega⟩;have K:b++(d.take (c+1)).flatMap DF.er=b++(d.take c).flatMap DF.er++DF.er f:=by rw[ia,h,j9,dJ];simp
  rw[K]
 .refine dG [_,_] ?_;refine dI ?_;refine⟨_,_,λj z g=>im (p:=[]) results185 rfl j z _,gq _,?_⟩;have n:c=d.length:=by omega
  rw[n,j6];exact⟨e,rfl⟩
def XJ {g:Nat}{s:M}{c b:C Nat}(x:b.length<=1000)(h:Lib.strCells (str b)=DF.bv b)(k:c.length<=9000)(h0:Hl a (q8 g s c)):Sr 186 [Z g,.string (str b)] a (q8 g s c) λ_ w=>∃t,w=[q8 g t (c++DF.er b.length++b)]:=by have v:=DF.nF b.length;have e:(str b).size=b.length:=mL _;refine dR func186 h0 ?_;refine eL ?_;refine gZ qe λo u=>?_;refine cY ((q8 g s c)) [_] func185 ((c8 1 rfl)) (λa d j=>Dt (d:=[b.length]) (by simp) (by omega) (λE k=>by rw[fI]at k;omega) (by have:=Rd.D5 d (c8 1 rfl) (.head _);rw[e]at this;exact this) j) ?_;rintro _ _ z ⟨y,rfl⟩;rw[show c++[b.length].flatMap DF.er=c++DF.er b.length by simp];refine cH [0,1] ?_;refine eu [_,_] ?_;refine eQ λd=>?_;obtain⟨q,r,rfl⟩:=fS d (p:=1) rfl;clear d;refine df ?_;refine I (dH 0 (n:=.slice q (c++DF.er b.length).length r)) ?_;refine Y ?_;refine dw (BH jV underlying9 rfl rfl (by rw[e,cX];omega)) ?_;rintro D _ A rfl;refine kq λd=>?_;obtain⟨m,n,rfl⟩:=fS d (p:=1) rfl;clear d;refine KW 0 (G:=[.slice m ((c++DF.er b.length).length+(str b).size) n]) λB=>?_;rw[h,e,<-DF.tR,<-cX];refine qh [_,_] ?_;refine fu [0] ?_;refine cH [] ?_;refine⟨_,_,λf p d=>im (p:=[]) results186 rfl f p _,gq _,?_⟩;exact⟨_,rfl⟩
end
end Go.Proofs.YtdlpoonfcdoiiaaGreat
