/- What the code does, step by step, and plain facts: part 7. They have no conditions. -/
import Derived.Test.YtdlpoonfcdoiiaaGreatMB4
import Derived.Test.YtdlpoonfcdoiiaaGreatMB6
namespace Go.Proofs.YtdlpoonfcdoiiaaGreat
open Go.RowKit Go.Proofs.Tryz
set_option maxHeartbeats 40000000
set_option linter.all false
namespace DF
def Uw (a:C Nat):∀(d:Nat)(b:Nat×Int),b.1<=a.length->(mM a d b).2.1<=a.length
 |0,b,c=>c
 |d+1,b,c=>by simp only[mM];exact Uw a d _ (CE a _ (CE a _ c))
def UE (a:C Nat)(b:Nat×Int):(kX a b).1.size<=4096:=by
 have c:=Co a 4096 4 b;have h0:(ByteArray.mk #[]).size<=4096:=by decide
 unfold kX;dsimp only;split
 .exact h0
 split
 .exact h0
 .show(str _).size<=4096;rw[mL,eD];omega
def Uv (b:C Nat):∀(d:Nat)(e:Nat×Int),∀c∈(mM b d e).1,c.1.size<=4096/\c.2.size<=4096
 |0,e,c,a=>by simp[mM]at a
 |d+1,e,c,a=>by
  simp only[mM,dh]at a;rcases a with rfl|a
  .exact⟨UE _ _,UE _ _⟩
  .exact Uv b d _ c a
def Ze (a:C Nat):(k8 a).1.2.2.2<=a.length:=by
 unfold k8;dsimp only;split
 .exact gK _
 .exact Uw _ _ _ (yw _ _ _ _ (yw _ _ _ _ (yw _ _ _ _ (gK _))))
def Zd (a:C Nat):∀b∈(k8 a).1.1,b.1.size<=4096/\b.2.size<=4096:=by
 unfold k8;dsimp only;split
 .simp
 .exact Uv _ _ _
def Wg (h:fR):Prop:=∀(c:cG Addr)(d:Nat)(a:C Nat)(b:Int)(e:O),Rd e cW 1 (PA c a.length d) a.length (bv a)->a.length<=140737488355328->(∀g∈a,g<256)->Sn h [PA c a.length d,F b] e λi f=>f=[row i 139 4 (iH a b).length (lL (iH a b))]
def Lh (b:C In)(a:In):lL (b++[a])=lL b++[.string (str a.1.1),F a.1.2.1,J a.1.2.2,F a.2]:=by simp[lL]
def aia:Wg 51:=by
 intro A c a d r z hn P;have af:a.length<=c:=by obtain⟨_,_,e,_,G,_⟩:=id z;injection e with _ _ e;subst e;exact G
 have L:=Ma a;have K:=aic a;refine dR func51 hS ?_;refine N [0,1] ?_;refine MZ ?_;refine Ku func78 (λr f=>Cs _ a r (z.dx f) hn P) ?_;rintro _ _ w1 ⟨rfl,rfl⟩;refine N [0,1,5,6,7] ?_;refine cL ?_;refine I (jt rfl rfl) ?_;refine Y ?_;refine lj (H:=2) (A:=decide (((gC a).1:Int)=0)) 2 [(0,_),(1,_),(5,_),(6,_)] ⟨rfl,rfl,rfl,rfl,trivial⟩ rfl rfl rfl rfl rfl (λam=>?_) (λaA=>?_)
 .refine Y ?_;refine dZ rfl rfl (e9 rfl rfl) ?_;exact iy
 refine Y ?_;refine lj (H:=6) (A:=decide ((64:Int)<((gC a).1:Int))) 2 [(0,_),(1,_),(5,_),(6,_)] ⟨rfl,rfl,rfl,rfl,trivial⟩ rfl rfl rfl rfl rfl (λan=>?_) (λaB=>?_)
 .refine Y ?_;refine dZ rfl rfl (gA rfl rfl) ?_;exact iy
 refine fP (λp=>?_) λp=>?_
 .simp only[jh,fU]at p;refine cC ?_;refine I (ee (λr=>By _ r)) ?_;refine gZ t140 λay aC=>?_;refine db results51 ?_;have G:iH a d=[qY]:=by rw[iH,cM (by omega)]
  rw[G];rfl
 .simp only[jh,fU,tM]at p;have k:iH a d=if(nw d (gC a).1 (a.drop (gC a).2.1)).2.2=true then(if(nw d (gC a).1 (a.drop (gC a).2.1)).2.1=[]then(nw d (gC a).1 (a.drop (gC a).2.1)).1 else(nw d (gC a).1 (a.drop (gC a).2.1)).1++[qY])else(nw d (gC a).1 (a.drop (gC a).2.1)).1++List.replicate ((gC a).1-(nw d (gC a).1 (a.drop (gC a).2.1)).1.length) qY:=by rw[iH,cJ (by omega)]
  generalize gC a=R at L K p k|-;obtain⟨s,n,e0⟩:=R;dsimp only at L K p k|-;refine cB ?_;refine I (qB 1 (w:=n) (x:=a.length) rfl underlying74 (by kernel_rfl) ⟨_,rfl⟩ rfl (by omega) af) ?_;refine N [1,5,8,9] ?_;refine Y ?_;refine U9 ?_;refine Y ?_;refine gh 139 4 ?_;refine eS (λm W w'=>∃(j:C In)(D:M)(g:Nat)(o:cG Addr)(ok:Bool),m=[(5,J s),(8,D),(9,PA o (a.length-g) (c-g))]/\W=[row D 139 4 j.length (lL j)]/\g<=a.length/\nw d s (a.drop n)=(j,a.drop g,ok)/\(ok=true->j.length=s)/\(ok=false->j.length<s)) ?_ ?_
  .refine Y ?_;refine dB (λB m W w'=>∃(j:C In)(D:M)(g:Nat)(o:cG Addr),m=[(1,F d),(5,J s),(8,D),(9,PA o (a.length-g) (c-g))]/\W=[row D 139 4 j.length (lL j)]/\g<=a.length/\(g<c->o=A.map (·.add g))/\B+j.length=s/\nw d s (a.drop n)=(j++(nw d B (a.drop g)).1,(nw d B (a.drop g)).2)) s ⟨[],_,n,_,rfl,rfl,by omega,λG=>by rw[cJ (by omega)];simp,by simp,by simp⟩ ?_;rintro B _ _ w2 ⟨j,D,g,o,rfl,rfl,E,X,hk,h⟩;refine eQ λf=>?_;obtain⟨V1,cv,rfl⟩:=fS f (p:=0) rfl;clear f;refine fw ?_;refine I (gN rfl rfl) ?_;refine cZ (λad=>?_) λad=>?_
   .obtain⟨T,rfl⟩:∃T,B=T+1:=⟨B-1,by omega⟩;have H:=Ze (a.drop g);have fV:=Zc (a.drop g);have ag:=Zd (a.drop g);rw[iz]at H;rw[nw]at h;have ab:∀b∈a.drop g,b<256:=λb G=>P b (tG G);refine df ?_;refine dd func79 (λr f=>Zg _ (a.drop g) r (ah6 (z.dx f) E X) (by rw[iz];omega) ab) ?_;rintro _ _ w3 ⟨tv,rfl,rfl⟩;refine kq λf=>?_;obtain⟨T1,ct,rfl⟩:=fS f (p:=0) rfl;clear f;refine NV [vN,F 0,J 0] λaz aD=>?_;refine cO 0 λaE=>?_;refine N [1,5,8,9,10,11,12] ?_;refine cL ?_;refine I (jt rfl rfl) ?_;refine cZ (λv=>?_) λv=>?_
    .refine IB [(5,_),(8,_),(9,_)] ⟨rfl,rfl,rfl,trivial⟩ (ET [2] rfl ?_);refine as3 ?_ rfl;rw[cM v]at h;exact⟨j,_,g,o,false,rfl,rfl,E,by rw[h];simp,by simp,λ_=>by omega⟩
    .rw[cJ v]at h;refine df ?_;refine I (qB 1 (w:=(k8 (a.drop g)).1.2.2.2) (x:=a.length-g) rfl underlying74 (by kernel_rfl) ⟨_,rfl⟩ rfl H) ?_;refine K3 0 (f:=[_,_,_]) ?_;refine Y ?_;refine dd func80 (λr f=>aci _ (k8 (a.drop g)).1.1 _ _ d r (Rd.dM f (l:=1) rfl) (by omega) (λx z=>by have:=ag x z;omega)) ?_;rintro _ _ w4 ⟨rfl,rfl⟩;refine gZ t140 λaj aq=>?_;refine dw (jo 3 t140) ?_;rintro _ _ w5 ⟨⟨U5,c5,rfl⟩,rfl⟩;refine Y ?_;refine fu [3] ?_;refine cH [1,5,8,9] ?_;refine⟨T,by omega,j++[ss d (k8 (a.drop g)).1.1 (k8 (a.drop g)).1.2.1 (k8 (a.drop g)).1.2.2.1],PA U5 (j.length+1) c5,g+(k8 (a.drop g)).1.2.2.2,_,by rw[Nat.sub_sub,Nat.sub_sub],?_,by omega,Xt X,by simp;omega,?_⟩
     .rw[cX,Lh];rfl
     .rw[h,xy];simp
   .obtain rfl:B=0:=by omega
    refine IB [(5,_),(8,_),(9,_)] ⟨rfl,rfl,rfl,trivial⟩ ?_;refine dI ?_;exact⟨j,_,g,o,true,rfl,rfl,E,by rw[h];simp[nw],λ_=>by omega,by simp⟩
  .rintro _ _ w6 ⟨j,D,g,o,ok,rfl,rfl,E,h,w,y⟩;rw[h]at k;dsimp only at k;refine eQ λf=>?_;obtain⟨V1,cv,rfl⟩:=fS f (p:=0) rfl;clear f;have aH:j.length<=s:=by cases ok<;>simp at w y<;>omega
   refine fw ?_;refine I (e9 rfl rfl) ?_;refine Y ?_;refine oV (H:=5) (A:=decide ((0:Int)<((a.length-g:Nat):Int))) 3 [(5,_),(8,_)] ⟨rfl,rfl,trivial⟩ rfl rfl rfl rfl rfl (λah=>?_) (λar=>?_)
   .refine cC ?_;refine dZ rfl rfl (gA rfl rfl) ?_;exact iy
   refine fP (λq=>?_) λq=>?_
   .simp only[iu,fU]at q;have S:ok=true:=by
     cases ok with
     |true=>rfl
     |false=>have:=y rfl;omega
    have ai:a.drop g≠[]:=λG=>by have:=dq List.length G;rw[iz]at this;simp at this;omega
    refine cQ ?_;refine I (ee (λr=>By _ r)) ?_;refine gZ t140 λak au=>?_;refine dw (DE t140 rfl rfl (λr f=>Rd.dM f (l:=0) rfl) (by simp[Value.oneCell']) (by omega) (by omega)) ?_;rintro ao _ av rfl;refine N [4] ?_;refine cK [1] ?_;refine dP results51 ?_;rw[k,cM S,cJ ai,cX,Lh];rfl
   .simp only[iu,fU,not_and]at q;refine IB [(5,_),(8,_)] ⟨rfl,rfl,trivial⟩ ?_;refine cQ ?_;refine dB (λB m W w'=>∃(D:M)(t:Nat),m=[(5,J s),(8,D)]/\W=[row D 139 4 (j++List.replicate t qY).length (lL (j++List.replicate t qY))]/\B+j.length+t=s) (s-j.length) ⟨_,0,rfl,by simp,by omega⟩ ?_;rintro B _ _ w7 ⟨V2,t,rfl,rfl,hk⟩;refine eQ λf=>?_;obtain⟨V3,aF,rfl⟩:=fS f (p:=0) rfl;clear f;have aG:(j++List.replicate t qY).length=j.length+t:=by simp
    refine fw ?_;refine I (gN rfl rfl) ?_;refine cZ (λae=>?_) λae=>?_
    .refine cL ?_;refine I (ee (λr=>By _ r)) ?_;refine gZ t140 λal aw=>?_;refine dw (DE t140 rfl rfl (λr f=>Rd.dM f (l:=0) rfl) (by simp[Value.oneCell']) (by omega) (by omega)) ?_;rintro ap _ ax rfl;refine Y ?_;refine fu [1] ?_;refine cH [5,8] ?_;refine⟨B-1,by omega,_,t+1,rfl,?_,by omega⟩;rw[show List.replicate (t+1) qY=List.replicate t qY++[qY]from AY,<-dJ,cX (bs:=[qY]),Lh];rfl
    .have hj:t=s-j.length:=by omega
     refine dI ?_;refine db results51 ?_;cases ok with
     |true=>
      have h1:=w rfl;have h0:t=0:=by omega
      have Q:a.drop g=[]:=qn (by have:=q (by omega);omega);have hz:j++List.replicate t qY=j:=by rw[h0];simp
      rw[k,cM rfl,cM Q,hz];rfl
     |false=>rw[k,cJ (by simp),hj];rfl
end DF
namespace DF
def Ah {x:Nat}(a:x<128):(er x).length=1:=by unfold er;rw[Gq 10 x a];rfl
def MJ:∀(a:C Tg),(∀b∈a,b.1.size<=20/\b.2.size<=70)->(kW a).length<=a.length*92
 |[],_=>by simp[kW]
 |d::a,e=>by have f:=e d (dQ ..);have g:=MJ a λb c=>e b (dN _ c);have h:=Ah (x:=d.1.size) (by omega);have i:=Ah (x:=d.2.size) (by omega);simp only[kW,xp,cX,eE,nS];omega
def aaI (e:C Ev)(f:∀d∈e,d.2.2.2<18446744073709551616):∀b∈jk e,b<256:=by intro b a;simp only[jk,rZ]at a;obtain⟨d,c,a⟩:=a;exact aar _ _ _ (f d c) b a
def XB (b:C Ev)(d:b.length<18446744073709551616)(e:∀f∈b,f.2.2.2<18446744073709551616):∀c∈(mv b).1,c<256:=by
 unfold mv;split
 .simp
 split
 .simp
 split
 .simp
 .intro c a;rcases dV.1 a with a|a
  .exact Ag d c a
  .exact aaI b e c a
end DF
namespace DF
def kU (a:Int)(b:Ev):In:=ss a b.2.1 b.2.2.1 b.2.2.2
def Lq (a:C Tg):(iL a).1.length<=255:=by
 unfold iL;split
 .simp
 split
 .simp
 .show(lX (gy a)).length<=255;omega
end DF
namespace DF
def S9 {c:C Nat}(a:∀d∈c,d<256):sb (str c)=c:=by simp only[sb,str,jj];rw[k5 (g:=id) (λd b=>by simp[wk (a d b)])];simp
def lV (c:U):cG (U×U):=
 match sb c with
 |[]=>none
 |b::a=>if a.length<b then none else some (str (a.take b),str (a.drop b))
def h0 (a:U):Nat:=(sb a).headD 0
def p0:Nat->U->cG (C Tg)
 |0,a=>if a.size=0 then some []else none
 |d+1,a=>if a.size=0 then some []else match lV a with
  |none=>none
  |some (c,e)=>match lV e with
   |none=>none
   |some (f,b)=>(p0 d b).map ((c,f)::·)
def Sk {a:Nat}{b:U}(c:b.size=0):p0 a b=some []:=by cases a<;>simp[p0,c]
def Sj {f:Nat}{d e g h a:U}(i:d.size≠0)(b:lV d=some (e,g))(c:lV g=some (h,a)):p0 (f+1) d=(p0 f a).map ((e,h)::·):=by rw[p0,cJ i,b];simp only[c]
def rP (a:U):C Tg×Int:=
 if 255<a.size then([],4)else match p0 255 a with
 |none=>([],3)
 |some out=>if(iL out).2≠0\/str (iL out).1≠a then([],3)else(out,0)
def TM {a:U}{out:C Tg}(h0:¬255<a.size)(b:p0 255 a=some out):rP a=if(iL out).2≠0\/str (iL out).1≠a then([],3)else(out,0):=by rw[rP,cJ h0,b]
end DF
namespace DF
def Re (d:C Tg):∀c∈lX d,c<256:=by
 intro c b;simp only[lX,rZ,dV,fI]at b;obtain⟨e,_,((a|a)|a)|a⟩:=b
 .omega
 .exact zW _ _ a
 .omega
 .exact zW _ _ a
def OC (a:U)(d:C Nat)(i:a.size<=255)(f:∀c∈d,c<256):lV (str ([a.size % 256]++sb a++d))=some (a,str d):=by
 have g:∀c∈[a.size % 256]++sb a++d,c<256:=by
  intro c b;simp only[dV,fI]at b;rcases b with(e|e)|e
  .omega
  .exact zW _ _ e
  .exact f c e
 unfold lV;rw[S9 g];simp only[kP,kF];have h:a.size % 256=(sb a).length:=by rw[nS];omega
 rw[h,cJ (by simp),oF,kZ,TU]
def HD:∀(b:C Tg)(e:Nat),(∀a∈b,a.1.size<=255/\a.2.size<=255)->b.length<=e->p0 e (str (lX b))=some b
 |[],e,_,_=>Sk rfl
 |a::b,0,_,c=>by simp at c
 |a::b,e+1,c,j=>by
  obtain⟨g,h⟩:=c a (dQ ..);have n:lX (a::b)=[a.1.size % 256]++sb a.1++([a.2.size % 256]++sb a.2++lX b):=by simp[lX]
  have l:(str (lX (a::b))).size≠0:=by rw[mL,n];simp
  have i:∀m∈[a.2.size % 256]++sb a.2++lX b,m<256:=by
   intro m f;simp only[dV,fI]at f;rcases f with(c|c)|c
   .omega
   .exact zW _ _ c
   .exact Re b m c
  have d:=OC a.1 _ g i;rw[<-n]at d;rw[Sj l d (OC a.2 _ h (Re b)),HD b e (λo k=>c o (dN _ k)) (by simpa using j)];rfl
def G3 {b:C Tg}(a:(iL b).2=0):lz b=0/\iL b=(lX (gy b),0)/\(lX (gy b)).length<=255:=by
 unfold iL at a|-;split at a
 .rename_i h0;exact absurd a h0
 .rename_i h0;split at a
  .cases a
  .rename_i c;rw[cJ h0,cJ c];exact⟨by simpa using h0,rfl,by omega⟩
def Lo {d:C Tg}(e:lz d=0):∀a∈gy d,a.1.size<=255/\a.2.size<=255:=λa b=>by obtain⟨_,_,c,_⟩:=z7 e;have:=(U2 (c a ((pg d).mem_iff.1 b))).2.2;omega
def Ln {a:C Tg}(b:lz a=0):(gy a).length<=8:=by rw[(pg a).length_eq];exact(z7 b).2.1
def acu {b:C Tg}(f:lz b=0):lz (gy b)=0:=by obtain⟨g,h,c,d⟩:=z7 f;have a:=pg b;rw[Mt (by rw[a.length_eq];omega) (λi e=>c i (a.mem_iff.1 e)),cM (show(tq (gy b)).Nodup from(a.map Prod.fst).nodup_iff.2 d)]
def acE {a:C Tg}(c:lz a=0):gy (gy a)=gy a:=by obtain⟨_,_,_,b⟩:=z7 c;exact(TQ (GZ a b) (cD _)).2.symm
def ajU {b:C Tg}(e:(iL b).2=0):rP (str (iL b).1)=(gy b,0)/\iL (gy b)=iL b:=by
 obtain⟨a,c,f⟩:=G3 e;have d:iL (gy b)=iL b:=by rw[c,iL,cJ (by rw[acu a];simp),acE a,cJ (by omega)]
 refine⟨?_,d⟩;rw[TM (by rw[c,mL];show¬255<(lX (gy b)).length;omega) (out:=gy b) (by rw[c];exact HD _ _ (Lo a) (by have:=Ln a;omega)),cJ];rw[d];simp[e]
end DF
abbrev En:=U×Nat×Nat
def dy:cG En->C M
 |none=>[vE,J 0,J 0]
 |some a=>[.string a.1,J a.2.1,J a.2.2]
def fp (a:C (cG En)):C M:=a.flatMap dy
def Gj (a:cG En):(dy a).length=3:=by cases a<;>rfl
def wK (a:C (cG En)):(fp a).length=a.length*3:=by
 induction a with
 |nil=>rfl
 |cons c a b=>simp only[fp,ji,cX,Gj,eE]at b|-;omega
def x6 {a:C (cG En)}{b:Nat}{f:cG En}(h:a[b]? =some f):((fp a).drop (0+b*3)).take 3=dy f:=by
 obtain⟨d,rfl⟩:=da.1 h;have g:a=a.take b++a[b]::a.drop (b+1):=by rw[<-jP d,gJ]
 have e:(fp (a.take b)).length=b*3:=by rw[wK,eD];omega
 have c:fp a=fp (a.take b)++(dy a[b]++fp (a.drop (b+1))):=by
  conv=>lhs;rw[g]
  simp only[fp,j9,ji]
 rw[c,dU,<-e,kZ,uO (by rw[Gj];exact dT _),gS (by rw[Gj];exact dT _)]
def Pa {a:C (cG En)}{b:Nat}(c:cG En)(d:b<a.length):(fp a).take (0+b*3)++dy c++(fp a).drop (0+b*3+3)=fp (a.set b c):=by
 have i:a=a.take b++a[b]::a.drop (b+1):=by rw[<-jP d,gJ]
 have h:(fp (a.take b)).length=b*3:=by rw[wK,eD];omega
 have e:fp a=fp (a.take b)++(dy a[b]++fp (a.drop (b+1))):=by
  conv=>lhs;rw[i]
  simp only[fp,j9,ji]
 have f:a.set b c=a.take b++c::a.drop (b+1):=qU.trans (cM d);have g:fp (a.set b c)=fp (a.take b)++(dy c++fp (a.drop (b+1))):=by rw[f];simp only[fp,j9,ji]
 rw[g,e,dU,<-h,oF,dJ];congr 2;rw[<-dJ,show(fp (a.take b)).length+3=(fp (a.take b)++dy a[b]).length by rw[cX,Gj],kZ]
def Gk {d:C (cG En)}{f:Nat}{h:cG En}(i:d[f]? =some h)(c:Nat){g:M}(e:(dy h)[c]? =some g)(b:c<3):(fp d)[0+f*3+c]? =some g:=by
 have a:(((fp d).drop (0+f*3)).take 3)[c]? =some g:=by rw[x6 i];exact e
 rw[mT,cM b,kQ]at a;exact a
def sH:fB prog 203 302 3 32 (.agg #[vE,J 0,J 0]):=.mk' underlying203 (by kernel_rfl) rfl (by decide)
def nt (a:O):(Instr.build 302 #[]).run prog a=.ok (PE [vE,J 0,J 0]) a:=by kernel_rfl
def JP (a:U)(b c:Int)(d:O):(Instr.build 302 [(0,.string a),(1,J b),(2,J c)].toArray).run prog d=.ok (PE [.string a,J b,J c]) d:=by kernel_rfl
def DM (a b:C (cG En)):fp (a++b)=fp a++fp b:=by simp[fp]
def oM:M:=.agg #[vE,J 0,J 0]
def gf (a:U)(b c:Nat):M:=.agg #[.string a,J b,J c]
def dn (a:C En):C M:=fp (a.map some)
def Po (b:C En)(a:En):dn (b++[a])=dn b++[.string a.1,J a.2.1,J a.2.2]:=by rw[dn,dE,DM];rfl
def NB:Array M->Sem M:=λargs=>do
 let(b,c,a)<-Extern.MathBitsCarry.three "Add64" args
 pure (Extern.MathBitsCarry.pair ((b+c+a) % Extern.MathBitsCarry.m64) ((b+c+a)/Extern.MathBitsCarry.m64))
def aiT {d:dX}(a b:Nat)(c:O):(NB #[J a,J b,J 0]).run d c=.ok (.tuple #[J (((a+b) % 18446744073709551616:Nat):Int),J (((a+b)/18446744073709551616:Nat):Int)]) c:=by rfl
def qL (c d:Nat)(e:O)(j:c<18446744073709551616:=by omega)(k:d<18446744073709551616:=by omega):Sn 88 [J c,J d] e λl g=>
 l=.tuple #[J (if c+d<18446744073709551616 then((c+d:Nat):Int)else 18446744073709551615),.bool (decide (c+d<18446744073709551616))]/\g=[]:=by
 refine dR func88 hS ?_
 refine cB ?_
 refine I (PM (g:=NB) rfl func125 (by kernel_rfl) rfl (by kernel_rfl) (by kernel_rfl) (λe=>aiT c d e)) ?_
 refine N [6,7] ?_
 refine cL ?_
 refine I (jt rfl rfl) ?_
 refine cZ (λb=>?_) λb=>?_
 .have a:¬c+d<18446744073709551616:=λf=>b (by rw[Nat.div_eq_of_lt f];rfl);refine db results88 ?_;exact⟨by rw[cJ a,fL a];rfl,rfl⟩
 .have a:c+d<18446744073709551616:=by
   refine pI λf=>b λh=>?_;have i:(c+d)/18446744073709551616=0:=by exact_mod_cast h
   omega
  refine db results88 ?_;exact⟨by rw[cM a,gb a,wk a];rfl,rfl⟩
def zV (a b:Nat)(i:O)(g:a<18446744073709551616)(h:b<18446744073709551616):Sn 121 [J a,J b] i λn l=>
 n=.bool (decide (a+b<=9223372036854775808))/\l=[]:=by
 refine dR func121 hS ?_
 refine Ku func88 (λi m=>qL a b i g h) ?_
 rintro _ _ o ⟨rfl,rfl⟩
 refine cB ?_
 refine oV (H:=1) (A:=decide ((if a+b<18446744073709551616 then((a+b:Nat):Int)else 18446744073709551615)<=9223372036854775808)) 2 [] trivial rfl rfl rfl rfl rfl (λe=>?_) (λk=>?_)
 .refine Y ?_;refine dZ rfl rfl (wP rfl rfl) ?_;exact iy
 refine db results121 ?_
 refine⟨?_,rfl⟩
 show Value.bool _=_
 congr 1
 by_cases f:a+b<18446744073709551616
 .rw[cM f,gb f,Bool.true_and];by_cases d:a+b<=9223372036854775808
  .rw[gb d];exact gb (by omega)
  .rw[fL d];exact fL (by omega)
 .rw[fL f,Bool.false_and,fL (by omega)]
def MS (d:cG Addr)(g:O):Sn 400 [.pointer d] g λf e=>∃c,f=.func (.func 404) #[] #[Z c]/\e=[cF c [.pointer d] 354]:=by refine dS func400 hS ?_;refine Mf λa b=>?_;refine cB ?_;refine I (wQ (z:=[]) (y:=[_]) rfl rfl) ?_;refine db results400 ?_;exact⟨_,rfl,rfl⟩
def oi (e c d b a:Nat):V:=cF e [F d,Z c,J b,J a] 419
abbrev UM:=C (U×Nat)
def MR (l m r k x j c:Nat)(K D Q:V)(y:UM)(B:C U)(T:C Nat)(ah:O)(ag:C U->UM->V->V->Prop)(hm:x<=12)
 (ak:B.Perm (keys y)) (am:gd B) (al:∀p∈B,iN p) (hS:∀pre w q t,ag pre w q t->k7 jK k x T 0 w q) (h0:ag [] y D Q)
 (hY:∀(pre:C U)(p:U)(f:C U)(w:UM)(q t:V)(af:O),B=pre++p::f->ag pre w q t->atV af [K,cF m [Z r] 354,oi r k x j c,q,t]->Dj prog l [.string p,J (((dt w p).getD 0:Nat):Int)] af (gO [K,cF m [Z r] 354,oi r k x j c,q,t]) λv E=>
  v=.bool true/\∃P R L,E.Perm [K,cF m [Z r] 354,oi r k x j c,R,L]/\ag (pre++[p]) P R L)
 (hs:atV ah [K,cF m [Z r] 354,oi r k x j c,D,Q]):
 mz prog 404 [.func (.yield l) #[] #[],Z m] ah (gO [K,cF m [Z r] 354,oi r k x j c,D,Q]) λ_ E=>
  ∃w q t,E.Perm [K,cF m [Z r] 354,oi r k x j c,q,t]/\ag B w q t:=by
 have S:=hS _ _ _ _ h0
 have ao:=S.len
 refine BY (d:=32) func404 rfl rfl [(0,_),(1,_)] rfl ⟨rfl,rfl,trivial⟩ hs ?_
 refine iX ?_
 refine jF (jB rfl) ?_
 refine Pw 3 func405 (λah s A=>asP k x T 0 y D ah hm S A) ?_
 rintro vk _ w1 ⟨g,rfl,X,ad⟩
 obtain rfl:=Cx ad am (X.trans ak.symm)
 refine kq λs=>?_
 obtain⟨Ak,ck,rfl⟩:=fS s (p:=0) rfl
 clear s
 have ap:g.length=y.length:=by rw[X.length_eq,keys,dL]
 refine cC ?_
 refine fu [2,2,2,1,1,0] ?_
 refine cH [0,1,11,12,13] ?_
 refine vm ?_
 refine GG (λkk ds m' H af=>ds=[]/\∃(pre f:C U)(w:UM)(q t:V),m'=[(0,.func (.yield l) #[] #[]),(1,Z m),(11,PA Ak g.length ck),(12,F g.length),(13,F pre.length)]/\H=[K,cF m [Z r] 354,oi r k x j c,q,t,row (PA Ak g.length ck) 9 1 g.length (sv g)]/\g=pre++f/\kk=f.length/\ag pre w q t) g.length ⟨rfl,[],g,y,D,Q,rfl,rfl,rfl,rfl,h0⟩ ?_
 rintro kk _ _ _ w2 ⟨rfl,pre,f,w,q,t,rfl,rfl,o,rfl,z⟩
 have u:g.length=pre.length+f.length:=by rw[o];simp
 have hX:=hS _ _ _ _ z
 refine iX ?_
 refine jF (jB rfl) ?_
 refine I (gN rfl rfl) ?_
 refine cH [0,1,11,12,13,14] ?_
 refine iX ?_
 refine zE rfl (λab=>?_) (λab=>?_)
 .refine zF ?_;have aj:(pre.length:Int)<(g.length:Int):=ab;obtain⟨p,d,rfl⟩:∃p d,f=p::d:=by
   cases f with
   |nil=>simp at u;omega
   |cons p d=>exact⟨p,d,rfl⟩
  rw[eE]at u;have W:g[pre.length]? =some p:=by rw[o];simp
  have ae:=al p (eH W);refine iX ?_;refine vm ?_;refine iX ?_;refine abN λs=>?_;obtain⟨gk,an,e⟩:=fs s (q:=5) rfl;cases e;clear s;refine jF (jB rfl) ?_;refine I (cR (ab:=pre.length)) ?_;refine I (gj 5 (n:=.string p) (hv:=sw Value.string W)) ?_;refine N [0,1,4,11,12,13] ?_;refine iX ?_;refine jF (jB rfl) ?_;refine Pw 3 func397 (λah s A=>Iu k x T 0 w q p ah ae hX A) ?_;rintro _ _ w3 ⟨rfl,rfl⟩;refine df ?_;refine fu [1,1,1,0,0,0] ?_;refine cH [0,1,4,5,11,12,13] ?_;refine iX ?_;refine GI ?_;refine wT (by simp) (rh rfl) ?_;refine wT (by simp) (rh rfl) ?_;refine wT (by simp) (rh rfl) ?_;refine QB [K,cF m [Z r] 354,oi r k x j c,q,t] [_] rfl rfl (cD _) (λ_ G=>hY pre p d w q t _ o z G) ?_;rintro v E w4 ⟨rfl,P,R,L,hp,ai⟩;refine D1 _ (hp.append_right _) ?_;refine wT (by simp) (jl rfl rfl) ?_;refine KZ [(0,_),(1,_),(11,_),(12,_),(13,_),(30,_)] ⟨rfl,rfl,rfl,rfl,rfl,rfl,trivial⟩ ?_;refine zD (m:=false) rfl (λh=>by cases h) (λ_=>?_);refine zF ?_;refine jF (jB rfl) ?_;refine N [0,1,11,12,13] ?_;refine⟨d.length,Fy _,rfl,pre++[p],d,P,R,L,?_,rfl,by rw[o];simp,rfl,ai⟩;rw[show((pre++[p]).length:Int)=(pre.length:Int)+1 by simp]
 .have aj:¬(pre.length:Int)<(g.length:Int):=ab;obtain rfl:f=[]:=by
   cases f with
   |nil=>rfl
   |cons p d=>rw[eE]at u;omega
  rw[eN]at o;refine KT ?_;refine⟨_,[K,cF m [Z r] 354,oi r k x j c,q,t],_,λa w2 ha s=>im results404 rfl a ha _,mr _ [_],⟨w,q,t,cD _,by rw[o];exact z⟩,.inl ⟨rfl,rfl⟩⟩
def qF {b:Type}{d:C (U×b)}{c a:U}{f:b}(e:a≠c):dt ((a,f)::d) c=dt d c:=by simp[dt,sY,e]
def vt {h:Type}{c:C (U×h)}{f a:U}(k:a≠f):dt (gX c a) f=dt c f:=by
 induction c with
 |nil=>rfl
 |cons l c d=>
  obtain⟨e,j⟩:=l;by_cases i:e=a
  .subst i;rw[Hb,qF k];exact d
  .have g:gX ((e,j)::c) a=(e,j)::gX c a:=by simp[gX,i]
   rw[g];by_cases b:e=f
   .subst b;simp[dt,sY]
   .rw[qF b,qF b];exact d
def ij (c:Nat)(b:UM)(a:U):UM:=if(dt b a).getD 0=c then gX b a else(a,(dt b a).getD 0-c)::gX b a
def Gg {e:Nat}{c:UM}{d b:U}(a:d≠b):dt (ij e c d) b=dt c b:=by
 unfold ij;split
 .exact vt a
 .rw[qF a];exact vt a
def tW {e:Nat}{c:U}:∀(pre:C U)(a:UM),c∉pre->dt (pre.foldl (ij e) a) c=dt a c
 |[],_,_=>rfl
 |g::pre,a,d=>by rw[oZ,tW pre _ (λb=>d (dN _ b))];exact Gg (λf=>d (by rw[f];exact dQ ..))
def Cf {b:Type}{c:C (U×b)}{d:U}{f:b}(e:dt c d=some f):d∈keys c:=by
 by_cases a:d∈keys c
 .exact a
 .rw[yq a]at e;cases e
def mz.mono {i:dX}{j:fR}{args:C M}{k:O}{h:Nat->Prop}{Φ c:M->C V->Prop}(l:mz i j args k h Φ)(f:∀b a,Φ b a->c b a):mz i j args k h c:=CallsIn.mono l λ_ _ ⟨b,a,d,e,g⟩=>⟨b,a,d,e,f b a g⟩
section
variable{h:dX}{k:Nat}{c:O}{b:Nat->Prop}{l:cG Nat}{g i:jq}{j:Nat->jq}{a:C Deferred}{d:dD}{f:C V}{e:O}
def yg {m:Code}(r:C V)(o:G h k c b l m g i j a d (r++f) e):G h k c b l m g i j a d (cz r::f) e:=λn p q=>o n p (cI.cz.2 q)
def ye {m:Code}(r:C V)(o:G h k c b l m g i j a d (cz r::f) e):G h k c b l m g i j a d (r++f) e:=λn p q=>o n p (cI.cz.1 q)
def KU {m:Code}(E:jq)(s:G h k c b l m E i j a d f e)(y:∀a d f e,E a d f e->∃p,(cI c b f e->cI c b p e)/\g a d p e):G h k c b l m g i j a d f e:=λq z B=>wu (n:=0) (s q z B) λr H K o=>by
 cases r with
 |normal=>obtain⟨a,u,d,f,h0,v,w,x⟩:=o;obtain⟨p,A,D⟩:=y _ _ _ _ x;exact⟨a,u,d,p,h0,v,A w,D⟩
 |ret=>exact o
 |exit id=>exact o
 |goto t=>exact o
 |panic m=>exact o
 |outgrown=>exact o
def abG {o:Code}{p q v x n w:V}(y:V->Prop)(z:∀m,y m->∀d e,g [] d [v,x,n,m,cz [p,q]] e)(s:G h k c b l o (λa _ t _=>a=[]/\∃m,t.Perm ([p,q]++[v,x,n,m])/\y m) i j [] d [p,q,v,x,n,w] e):G h k c b l o g i j [] d [p,q,v,x,n,w] e:=KU _ s λ_ d t D ⟨r,m,B,u⟩=>by subst r;exact⟨[v,x,n,m,cz [p,q]],λA=>((cI.cz.1 (A.perm B)).perm (de [1,1,1,1,0] _ rfl)).perm (by simp),z m u d D⟩
end
def Zj (ag f s g c d:Nat)(b:UM)(ab:C Nat)(R:V)(S:O)(hm:s<=12)(A:k7 jK f s ab 0 b R)(P:∀i∈keys b,iN i)(hd:∀i o,dt b i=some o->d<=o)(am:g+d<18446744073709551616)(aj:∀i o,dt b i=some o->o<18446744073709551616)
 (E:C U) (r:E.Perm (keys b)) (ak:gd E)
 (hs:Hl S (cz [oi ag f s g c,R])):
 mz prog 401 [Z ag,J d] S (cz [oi ag f s g c,R]).fq λ_ ah=>
  ∃G,ah.Perm [oi ag f s (g+d) c,G]/\k7 jK f s ab 0 (E.foldl (ij d) b) G:=by
 refine BY (d:=36) func401 rfl rfl [(0,_),(1,_)] rfl ⟨rfl,rfl,trivial⟩ hs ?_
 refine iX ?_
 refine jF (jB rfl) ?_
 refine dK λbt w1=>?_
 refine dK λbd w2=>?_
 refine cH [2,3] ?_
 refine mx [2,0,0] rfl ?_
 refine yg [_,_] ?_
 refine iX ?_
 refine KS [(0,true),(1,true),(2,true),(3,true),(4,true),(5,true),(6,true),(7,true),(8,false)] [(_,some 8),(_,none),(_,none),(_,none)] [] lN (by kernel_rfl) rfl (by kernel_rfl) rfl rfl (ik _) (λw3=>?_)
 refine df ?_
 refine ew rfl (cU (z:=J ((g+d:Nat):Int)) (og rfl rfl) (by rw[gR])) ?_
 refine cC ?_
 refine jC rfl (gD 0) ?_
 rintro _ _ w4 rfl
 refine⟨_,de [1,1,1] _ rfl,?_⟩
 refine M3 [(2,_),(3,_)] ⟨rfl,rfl,trivial⟩ ?_
 refine iX ?_
 refine jF (jB rfl) ?_
 refine Ku func400 (λS L=>MS _ S) ?_
 rintro _ _ w5 ⟨bx,rfl,rfl⟩
 refine cH [2,3,15] ?_
 refine mx [2,2,0,1,0] rfl ?_
 refine ye (f:=[_,_,_]) [_,_] ?_
 refine vm ?_
 refine GH [_,_,_,_] [] rfl func404 (by kernel_rfl) (de [1,1,1,0] _ rfl) ?_
 intro fn a l D w6 ad L Q
 refine mz.mono (MR l bx ag f s (g+d) c _ R _ b E ab w6 (λpre T G q=>k7 jK f s ab 0 T G/\T=pre.foldl (ij d) b/\q=cz [cF bd [J d] 23,cF bt [Z ag] 354]) hm r ak (λi ae=>P i (r.mem_iff.1 ae)) (λ_ _ _ _ h=>h.1) ⟨A,rfl,rfl⟩ ?_ Q) ?_
 .rintro pre i al T G q w7 X ⟨t,hM,rfl⟩ m;subst hM;have y:E.Nodup:=r.nodup_iff.2 A.nd;have ai:i∉pre:=λae=>by rw[X]at y;exact(kR.1 y).2.2 i ae i (dQ ..) rfl
  have W:i∈keys b:=r.mem_iff.1 (by rw[X];simp);have x:=P i W;obtain⟨j,af⟩:=tm.1 W;have v:=vu A.nd af;have u:dt (pre.foldl (ij d) b) i=some j:=(tW pre b ai).trans v;have an:=hd i j v;have ao:=aj i j v;have w:=Cf u;have uf:(pre++[i]).foldl (ij d) b=if j=d then gX (pre.foldl (ij d) b) i else(i,j-d)::gX (pre.foldl (ij d) b) i:=by rw[uK,oZ,List.foldl_nil];generalize pre.foldl (ij d) b=T at u|-;rw[ij,u,uS]
  rw[u,uS];generalize pre.foldl (ij d) b=T at t u w uf m|-;refine IL (d:=36) ad rfl rfl m ?_;refine iX ?_;refine jF (jB rfl) ?_;refine N [2,3,4,17] ?_;refine jF (jB rfl) ?_;refine N [2,3,4,5] ?_;refine⟨rfl,_,cD _,λw8=>?_⟩;refine mx [4,0,0,0,0] rfl ?_;refine yg [_,_] ?_;refine abG (λp=>k7 jK f s ab 0 ((pre++[i]).foldl (ij d) b) p) (λp k s S=>⟨rfl,_,cD _,rfl,_,p,_,cD _,k,rfl,rfl⟩) ?_;refine vm ?_;refine iX ?_;refine jF (jB rfl) ?_;refine cC ?_;refine I (e9 rfl rfl) ?_;refine cH [2,3,4,5,20] ?_;refine zE rfl (λK=>?_) (λK=>?_)
  .have z:j=d:=by have K:(j:Int)=(d:Int):=K;omega
   rw[cM z]at uf;refine jF (jB rfl) ?_;refine Pw 5 func402 (λS L B=>MV f s ab 0 T G i S x t B) ?_;rintro _ _ w9 ⟨_,p,rfl,k⟩;refine cH [] ?_;exact⟨rfl,p,(de [1,1,1,1,1,0] _ rfl).trans (by simp),by rw[uf];exact k⟩
  .have z:j≠d:=λe=>K (show(j:Int)=(d:Int) by omega);rw[cJ z]at uf;refine zC [(0,true),(1,true),(2,true),(3,true),(4,true),(5,true),(6,true),(7,true),(8,false)] [_,_,_,_,_] [_] lN (by kernel_rfl) rfl (by kernel_rfl) rfl (cD _) (λw9=>?_);refine fw ?_;refine cN rfl (cU (z:=J ((j-d:Nat):Int)) (BT rfl rfl) (by congr 1;omega)) ?_;refine eh rfl (ft G [_,_,_,_,_] func399 (c8 5 rfl) (λS L B=>Iv f s ab 0 T G i (j-d) S x t B)) ?_;rw[LN w];rintro _ _ ap ⟨_,rfl,_,p,rfl,k⟩;refine⟨_,lF,?_⟩;refine iK [] ?_;exact⟨rfl,p,cD _,by rw[uf];exact k⟩
 .rintro _ ah ⟨T,G,q,hp,t,rfl,rfl⟩;refine⟨_,hp,λw'=>?_⟩;exact⟨_,[oi ag f s (g+d) c,G],_,λa w2 ad L=>im results401 rfl a ad _,.cons _ (.cons_cons _ (.cons_cons _ (iw _))),⟨G,cD _,t⟩,.inr ⟨D,rfl,by rw[eN]⟩⟩
def qP (i e:Nat)(f:UM)(c a:Nat)(h:V):Prop:=1<=e/\e<=64/\∃b d g,h=cz [oi i b e c a,d]/\k7 jK b e g 0 f d
def XZ (b:Int)(a:Nat)(c:O):(Instr.build 419 [(0,F b),(1,Z a)].toArray).run prog c=.ok (PE [F b,Z a,J 0,J 0]) c:=by kernel_rfl
def Qs (h n:Nat)(k:UM)(b a:Nat)(c:V)(i:O)(d:qP h n k b a c)(e:Hl i c):Sr 396 [Z h] i c λp j=>p=J b/\j=[c]:=by obtain⟨f,g,l,o,q,rfl,m⟩:=d;refine dS func396 e ?_;refine N [0] ?_;refine cL ?_;refine I (gB rfl rfl underlying354) ?_;refine NX 0 0 ?_;refine db results396 ?_;exact⟨rfl,rfl⟩
def Qr (a:Nat)(d:O)(m:1<=a)(n:a<=64):Sn 209 [F a] d λu t=>∃f b,u=.tuple #[Z f,F 0]/\t=[b]/\qP f a [] 0 0 b:=by
 refine dS func209 hS ?_;refine N [0] ?_;refine cL ?_;refine I (gN rfl rfl) ?_;refine Y ?_;refine lj (H:=2) (A:=decide (64<(a:Int))) 2 [(0,_)] ⟨rfl,trivial⟩ rfl rfl rfl rfl rfl (λe=>?_) (λr=>?_)
 .refine Y ?_;refine dZ rfl rfl (gA rfl rfl) ?_;exact iy
 refine cH [0,11] ?_;refine kL rfl (λk=>absurd k (by simp;omega)) (λ_=>?_);refine cL ?_;refine dw (qy (y:=16) (B:=dF (List.replicate 16 0)) rfl rfl qe (by omega) (by omega) (zM 16).symm) ?_;rintro _ _ s ⟨g,rfl,rfl⟩;refine dd func259 (λd p=>asS a (List.replicate 16 0) _ 0 d (by omega) (by omega) o3 (Rd.dM p (l:=0) rfl)) ?_;rintro _ _ v ⟨h,q,rfl,rfl,o⟩;refine N [0,4,5] ?_;refine cL ?_;refine I (jt rfl rfl) ?_;refine cH [0,4,5,19] ?_;refine kL rfl (λk=>absurd k (by simp)) (λ_=>?_);refine df ?_;refine I (ee (λd=>XZ _ _ d)) ?_;refine dK λf w=>?_;refine N [2,3] ?_;refine cK [0,0] ?_;refine dG (d:=[]) [_,_] ?_;refine dP results209 ?_;exact⟨f,_,rfl,rfl,m,n,h,q,_,rfl,o⟩
def rn (c:UM)(a:Nat)(b:U):M:=match dt c b with
 |some d=>PF [gf b d a,.bool true]
 |none=>PF [oM,.bool false]
def GF (D B:Nat)(f:UM)(d c:Nat)(e:U)(m:V)(h:O)(s:iN e)(t:qP D B f d c m)(u:Hl h m):Sr 391 [Z D,.string e] h m λH E=>H=rn f d e/\E=[m]:=by
 obtain⟨z,A,p,v,G,rfl,r⟩:=t;refine dR func391 u ?_;refine NV [vE,J 0,J 0] λo w=>?_;refine N [0,1,4] ?_;refine cL ?_;refine I (gB rfl rfl underlying354) ?_;refine cH [0,1,4,9] ?_;refine cQ ?_;refine cK [1,0] ?_;refine eu [_,_] ?_;refine Pw 1 func397 (λh b k=>Iu p B G 0 f v e h s r k) ?_;rintro _ _ K ⟨rfl,rfl⟩;refine fu [2,1,0] ?_;refine N [0,1,4,6,7] ?_;refine cL ?_;refine I (jl rfl rfl) ?_;refine fP (λa=>?_) λa=>?_
 .have i:dt f e=none:=by
   cases q:dt f e with
   |none=>rfl
   |some l=>rw[q]at a;cases a
  refine cC ?_;refine I (ee nt) ?_;refine cO 0 λx=>?_;refine N [4,5] ?_;refine cK [1,1,0] ?_;refine dG (d:=[_]) [_,_] ?_;refine cK [1,0] ?_;refine eM ?_;refine⟨_,_,λn g b=>eW results391 (eX (e4 0 rfl underlying302 rfl (by kernel_rfl) rfl) (gg rfl eY)) n g _ b,fO ..,?_⟩;exact⟨by rw[rn,i];rfl,rfl⟩
 .obtain⟨l,j⟩:∃l,dt f e=some l:=by
   cases q:dt f e with
   |none=>rw[q]at a;exact absurd rfl a
   |some l=>exact⟨l,rfl⟩
  rw[j];refine fh ?_;refine I (ee (λh=>JP _ _ _ h)) ?_;refine cO 0 λy=>?_;refine N [4,5] ?_;refine cK [1,1,0] ?_;refine dG (d:=[_]) [_,_] ?_;refine cK [1,0] ?_;refine eM ?_;refine⟨_,_,λn g b=>eW results391 (eX (e4 0 rfl underlying302 rfl (by kernel_rfl) rfl) (gg rfl eY)) n g _ b,fO ..,?_⟩;exact⟨by rw[rn,j];rfl,rfl⟩
def P9 (c:UM)(a:Nat)(b:U):∃(d:U)(e f:Nat),rn c a b=PF [.agg #[.string d,J e,J f],.bool (dt c b).isSome]:=by
 unfold rn;cases dt c b with
 |none=>exact⟨ByteArray.empty,0,0,rfl⟩
 |some e=>exact⟨b,e,a,rfl⟩
def abF (z x:Nat)(i:UM)(b a:Nat)(h:U)(K:V)(m:O)(j:iN h)(u:qP z x i b a K)(E:Hl m K):Sr 394 [Z z,.string h] m K λv A=>v=rn i b h/\∃c,A=[c]/\qP z x (gX i h) b a c:=by
 have k:=u;obtain⟨G,X,s,p⟩:=P9 i b h;obtain⟨q,r,n,L,W,rfl,B⟩:=u;rw[p];refine dR func394 E ?_;refine NV [vE,J 0,J 0] λd Q=>?_;refine Pw 1 func391 (λm l g=>GF z x i b a h _ m j k g) ?_;rintro _ _ w1 ⟨rfl,rfl⟩;rw[p];refine NV [vE,J 0,J 0] λe R=>?_;refine cO 0 λS=>?_;refine N [0,1,4,6,7] ?_;refine N [0,1,4,6,7,14] ?_;refine eS (λH A w'=>H=[(4,Z d),(6,Z e),(7,.bool (dt i h).isSome)]/\∃c,A=[cF e [.string G,J X,J s] 302,c,cF d [vE,J 0,J 0] 302]/\qP z x (gX i h) b a c) ?_ ?_
 .refine kL rfl (λf=>?_) (λf=>?_)
  .refine cK [1,0,0] ?_;refine eu [_,_] ?_;refine Pw 1 func402 (λm l g=>MV n x W 0 i L h m j B g) ?_;rintro _ _ w3 ⟨_,y,rfl,o⟩;refine fu [1,0,0,0] ?_;refine qh (d:=[_,_]) [_,_] ?_;refine fu [1,0,0] ?_;refine cH [4,6,7] ?_;exact⟨rfl,_,rfl,q,r,n,y,W,rfl,o⟩
  .refine kw [4,6,7] rfl (iY ?_);have t:dt i h=none:=by
    cases ab:dt i h with
    |none=>rfl
    |some X=>rw[ab]at f;exact absurd rfl f
   exact⟨rfl,_,rfl,by rw[yo (λj=>by have:=Hi j;rw[t]at this;cases this)];exact k⟩
 .rintro _ _ w4 ⟨rfl,c,rfl,w⟩;refine K3 0 (f:=[_,_,_]) ?_;refine KW 2 λT=>?_;refine N [4,5] ?_;refine cK [2,0,0] ?_;refine eM ?_;refine⟨_,_,λP D l=>eW results394 (eX (e4 0 rfl underlying302 rfl (by kernel_rfl) rfl) (gg rfl eY)) P D _ l,(fO ..).trans (fO ..),?_⟩;exact⟨rfl,c,rfl,w⟩
def vO (c:UM)(a:Nat)(h d:U)(b i:Nat)(j:M)(f:UM):Prop:=(∃g:Int,j=PF [oM,F g]/\f=c/\(dt c h=none/\g=8\/∃e,dt c h=some e/\(d=ByteArray.empty/\g=3\/d≠ByteArray.empty/\((dt c d).isSome=true/\g=10\/dt c d=none/\(b=0\/e<b\/a<i)/\g=1))))\/(∃e,dt c h=some e/\d≠ByteArray.empty/\dt c d=none/\¬(b=0\/e<b\/a<i)/\j=PF [gf h e a,F 0]/\f=(d,b)::gX c h)
def RI {c:Type}{a:C (U×c)}{d:U}(e:d∈keys a):(gX a d).length<a.length:=by obtain⟨f,b⟩:=tm.1 e;exact List.length_filter_lt_length_iff_exists.2 ⟨_,b,by simp⟩
def uh {b:Type}{c:C (U×b)}{d:U}(e:dt c d=none):d∉keys c:=λa=>by have:=Hi a;rw[e]at this;cases this
def abE (P L:Nat)(g:UM)(b e:Nat)(m q:U)(a n:Nat)(r:V)(B:O)(hk:iN m)(hx:iN q)(hr:qP P L g b e r)(hs:Hl B r):Sr 393 [Z P,.string m,.agg #[.string q,J a,J n]] B r λv H=>∃r' ab,H=[r']/\qP P L ab b e r'/\vO g b m q a n v ab:=by
 have k:=hr;obtain⟨k',X,s,hf⟩:=P9 g b m;obtain⟨ag,ah,x,E,T,rfl,S⟩:=hr;refine hJ func393 hs ?_;refine Mf λt am=>?_;refine dj [vE,J 0,J 0] λu an=>?_;refine Pw 2 func391 (λB c f=>GF P L g b e m _ B hk k f) ?_;rintro _ _ w1 ⟨rfl,rfl⟩;rw[hf];refine NV [vE,J 0,J 0] λw ap=>?_;refine cO 0 λaq=>?_;refine N [0,1,5,6,8,9] ?_;refine cL ?_;refine I (jl rfl rfl) ?_;refine fP (λi=>?_) λi=>?_
 .have j:dt g m=none:=by
   cases ad:dt g m with
   |none=>rfl
   |some X=>rw[ad]at i;cases i
  refine cC ?_;refine I (ee nt) ?_;refine cO 2 λar=>?_;refine N [6,7] ?_;refine cK [2,0,1,0] ?_;refine eM ?_;refine⟨_,_,λD h c=>eW results393 (eX (e4 0 rfl underlying302 rfl (by kernel_rfl) rfl) (gg rfl eY)) D h _ c,((fO ..).trans (fO ..)).trans (fO ..),?_⟩;exact⟨_,g,rfl,k,.inl ⟨8,rfl,rfl,.inl ⟨j,rfl⟩⟩⟩
 .obtain⟨d,p⟩:∃X,dt g m=some X:=by
   cases ad:dt g m with
   |none=>rw[ad]at i;exact absurd rfl i
   |some X=>exact⟨X,rfl⟩
  have A:=hf;rw[rn,p]at A;simp[gf]at A;obtain⟨rfl,G,K⟩:=A;have G:d=X:=by omega
  have K:b=s:=by omega
  subst G;subst K;refine eL ?_;refine I (oO rfl rfl) ?_;refine cZ (λy=>?_) λy=>?_
  .have l:q=ByteArray.empty:=y;refine cC ?_;refine I (ee nt) ?_;refine cO 2 λau=>?_;refine N [6,7] ?_;refine cK [2,0,1,0] ?_;refine eM ?_;refine⟨_,_,λD h c=>eW results393 (eX (e4 0 rfl underlying302 rfl (by kernel_rfl) rfl) (gg rfl eY)) D h _ c,((fO ..).trans (fO ..)).trans (fO ..),?_⟩;exact⟨_,g,rfl,k,.inl ⟨3,rfl,rfl,.inr ⟨d,p,.inl ⟨l,rfl⟩⟩⟩⟩
  .have l:q≠ByteArray.empty:=y;refine cQ ?_;refine cK [1,0,0,0] ?_;refine eu [_,_] ?_;refine cK [0,1,1,1,0] ?_;refine eO 12 [6] [_,_,_,_] [_] (cD _) λay=>?_;refine eL ?_;refine eh rfl (ft E [_,_,_,_] func397 (c8 4 rfl) (λB c f=>Iu x L T 0 g E q B hx S f)) ?_;rintro _ _ w6 ⟨_,rfl,rfl,rfl⟩;refine⟨_,lF,?_⟩;refine fP (λo=>?_) λo=>?_
   .refine cC ?_;refine I (ee nt) ?_;refine cO 2 λav=>?_;refine N [6,7] ?_;refine cK [0,3,1,0,0] ?_;refine dG (d:=[_,_,_]) [_,_] ?_;refine cK [1,1,1,0] ?_;refine eM ?_;refine⟨_,_,λD h c=>eW results393 (eX (e4 0 rfl underlying302 rfl (by kernel_rfl) rfl) (gg rfl eY)) D h _ c,((fO ..).trans (fO ..)).trans (fO ..),?_⟩;exact⟨_,g,rfl,k,.inl ⟨10,rfl,rfl,.inr ⟨d,p,.inr ⟨l,.inl ⟨o,rfl⟩⟩⟩⟩⟩
   .have j:dt g q=none:=by
     cases ad:dt g q with
     |none=>rfl
     |some X=>rw[ad]at o;exact absurd rfl o
    refine cQ ?_;refine eS (λm' H w'=>m'=[(0,Z P),(1,.string m),(5,Z t),(6,Z u),(8,Z w),(55,.bool (decide (a=0\/d<a\/b<n)))]/\H=[oi P x L b e,cF w [.string m,J d,J b] 302,cF u [vE,J 0,J 0] 302,cF t [.string q,J a,J n] 302,E]) ?_ ?_
    .by_cases hz:a=0
     .refine kB 19 [] λR=>?_;refine cC ?_;refine cN rfl (cU (z:=.bool true) (e9 rfl rfl) (by rw[gb (show(a:Int)=0 by omega)])) ?_;refine eL ?_;refine cN rfl (mC rfl rfl rfl) ?_;refine iq ?_;refine cN rfl (mC rfl rfl rfl) ?_;refine iK [0,1,5,6,8,55] ?_;exact⟨by rw[gb (show a=0\/d<a\/b<n by omega)];rfl,rfl⟩
     .by_cases hl:d<a
      .refine kB 19 [] λR=>?_;refine cC ?_;refine cN rfl (cU (z:=.bool false) (e9 rfl rfl) (by rw[fL (show¬(a:Int)=0 by omega)])) ?_;refine df ?_;refine fX rfl rfl rfl (cU (z:=.bool true) (gA rfl rfl) (by rw[gb (show(d:Int)<(a:Int) by omega)])) ?_;refine cN rfl (mC rfl rfl rfl) ?_;refine iq ?_;refine cN rfl (mC rfl rfl rfl) ?_;refine iK [0,1,5,6,8,55] ?_;exact⟨by rw[gb (show a=0\/d<a\/b<n by omega)];rfl,rfl⟩
      .refine kB 19 [] λR=>?_;refine cC ?_;refine cN rfl (cU (z:=.bool false) (e9 rfl rfl) (by rw[fL (show¬(a:Int)=0 by omega)])) ?_;refine df ?_;refine fX rfl rfl rfl (cU (z:=.bool false) (gA rfl rfl) (by rw[fL (show¬(d:Int)<(a:Int) by omega)])) ?_;refine cN rfl (mC rfl rfl rfl) ?_;refine fw ?_;refine fX rfl rfl rfl (cU (z:=.bool (decide (a=0\/d<a\/b<n))) (gA rfl rfl) (dq Value.bool (uU.2 (by omega)))) ?_;refine cN rfl (mC rfl rfl rfl) ?_;refine iK [0,1,5,6,8,55] ?_;exact⟨rfl,rfl⟩
    rintro _ _ w9 ⟨rfl,rfl⟩;refine jc rfl (λz=>?_) (λz=>?_)
    .refine cC ?_;refine I (ee nt) ?_;refine cO 2 λak=>?_;refine N [6,7] ?_;refine cK [0,3,1,0,0] ?_;refine dG (d:=[_,_,_]) [_,_] ?_;refine cK [1,1,1,0] ?_;refine eM ?_;refine⟨_,_,λD h c=>eW results393 (eX (e4 0 rfl underlying302 rfl (by kernel_rfl) rfl) (gg rfl eY)) D h _ c,((fO ..).trans (fO ..)).trans (fO ..),?_⟩;exact⟨_,g,rfl,k,.inl ⟨1,rfl,rfl,.inr ⟨d,p,.inr ⟨l,.inr ⟨j,z,rfl⟩⟩⟩⟩⟩
    .refine Pw 4 func402 (λB c f=>MV x L T 0 g E m B hk S f) ?_;rintro _ _ aw ⟨_,Q,rfl,ae⟩;refine fu [1,1,1,1,0] ?_;have W:tp L (gX g m) q a=(0,(q,a)::gX g m):=by refine Eg (λai=>?_) (by have:=RI (Cf p);have:=S.len;omega);obtain⟨v,hv⟩:=tm.1 ai;exact uh j (tm.2 ⟨v,(kE.1 hv).1⟩)
     refine cH [0,5,6,8] ?_;refine Y ?_;refine eO 9 [8] [_,_,_,_] [_] (cD _) λao=>?_;refine iq ?_;refine eh rfl (ft Q [_,_,_,_] func399 (c8 4 rfl) (λB c f=>Iv x L T 0 (gX g m) Q q a B hx ae f)) ?_;rw[W];rintro _ _ ax ⟨_,rfl,_,aj,rfl,af⟩;refine⟨_,lF,?_⟩;refine K3 1 (f:=[_,_,_]) ?_;refine cO 2 λal=>?_;refine N [6,7] ?_;refine cK [0,3,1,0,0] ?_;refine dG (d:=[_,_,_]) [_,_] ?_;refine cK [1,1,1,0] ?_;refine eM ?_;refine⟨_,_,λD h c=>eW results393 (eX (e4 0 rfl underlying302 rfl (by kernel_rfl) rfl) (gg rfl eY)) D h _ c,((fO ..).trans (fO ..)).trans (fO ..),?_⟩;exact⟨_,(q,a)::gX g m,rfl,⟨ag,ah,x,aj,T,rfl,af⟩,.inr ⟨d,p,l,j,z,rfl,rfl⟩⟩
def TP {g:C U}(h:g.Nodup):∃f,f.Perm g/\gd f:=by
 refine⟨g.mergeSort (λa b=> !eI b a),Fo _ _,M4 ?_ ((Fo _ _).nodup_iff.2 h)⟩;have c:=Jl (le:=λa b=> !eI b a) (λa b i d e=>by
  simp only[yS]at d e|-;exact Hu d e) (λa b=>by
  cases c:eI b a
  .simp
  .simp[zN c]) g
 exact c.imp λc=>by simpa using c
def k7.sm {c:Type}{j:VI c}{l q:Nat}{k:C Nat}{a:Int}{g:C (U×c)}{r:V}(n:k7 j l q k a g r):∀i∈keys g,iN i:=λi e=>by obtain⟨s,m,o,p,d,h,b⟩:=n;obtain⟨t,f⟩:=tm.1 e;exact b _ (d.mem_iff.2 f)
def iS (e:Nat)(b:UM)(a:C U):Nat:=a.foldl (λc d=>min c ((dt b d).getD 0)) e
def BD (c:UM):∀(a:C U)(b:Nat),iS b c a<=b
 |[],b=>dT b
 |d::a,b=>gF (BD c a _) (Jq _ _)
def DB (b:UM):∀(a:C U)(e:Nat)(c:U),c∈a->iS e b a<=(dt b c).getD 0
 |f::a,e,c,d=>by
  rcases dh.1 d with rfl|d
  .exact gF (BD b a _) (Jr _ _)
  .exact DB b a _ c d
def Ng (d:UM)(b a:Nat):Prop:=a<=9223372036854775808/\b<=a/\∀e c,dt d e=some c->c<=a
def nX (k:Nat)(e:UM)(g a:Nat)(h:U)(f:Nat)(j:Int)(i:UM)(b d:Nat):Prop:=(j≠0/\i=e/\b=g/\d=a/\(h=ByteArray.empty/\j=3\/h≠ByteArray.empty/\f=0/\j=1\/h≠ByteArray.empty/\f≠0/\9223372036854775808<a+f/\j=12))\/(j=0/\h≠ByteArray.empty/\f≠0/\a+f<=9223372036854775808/\d=a+f/\((∃l,dt e h=some l/\i=(h,l+f)::gX e h/\b=g)\/(dt e h=none/\e.length<k/\i=(h,f)::e/\b=g)\/(dt e h=none/\e.length=k/\∃c,c.Perm (keys e)/\gd c/\b=g+iS f e c/\i=if iS f e c<f then(h,f-iS f e c)::c.foldl (ij (iS f e c)) e else c.foldl (ij (iS f e c)) e)))
def Zr (c:Nat)(a:UM)(pre:C U)(b:U):iS c a (pre++[b])=min (iS c a pre) ((dt a b).getD 0):=by rw[iS,uK,oZ,List.foldl_nil];rfl
def OT (b:UM):∀(a:C U)(c:Nat),iS c b a<c->∃i∈a,(dt b i).getD 0=iS c b a
 |[],c,f=>absurd f (Fx c)
 |d::a,c,f=>by
  have j:iS c b (d::a)=iS (min c ((dt b d).getD 0)) b a:=rfl;rw[j]at f|-;by_cases h:iS (min c ((dt b d).getD 0)) b a<min c ((dt b d).getD 0)
  .obtain⟨i,g,e⟩:=OT b a _ h;exact⟨i,dN _ g,e⟩
  .have:=BD b a (min c ((dt b d).getD 0));exact⟨d,dQ ..,by omega⟩
def zJ {d:Type}{a:C (U×d)}{b:U}(f:b∈keys a):∃c,dt a b=some c:=by
 have:=Hi f;cases e:dt a b with
 |none=>rw[e]at this;cases this
 |some c=>exact⟨c,rfl⟩
def Zx {d:Nat}{a:UM}{c:U}(f:c∈keys a):(ij d a c).length<=a.length/\((dt a c).getD 0=d->(ij d a c).length<a.length):=by
 have:=RI f;unfold ij;split
 .exact⟨by omega,λ_=>this⟩
 .rename_i b;exact⟨by rw[eE];omega,λe=>absurd e b⟩
def OO {f:Nat}:∀(b:C U)(c:UM),b.Nodup->(∀j∈b,j∈keys c)->(b.foldl (ij f) c).length<=c.length/\((∃j∈b,(dt c j).getD 0=f)->(b.foldl (ij f) c).length<c.length)
 |[],c,_,_=>⟨dT _,λ⟨_,o,_⟩=>by cases o⟩
 |j::b,c,i,l=>by
  rw[iB]at i;have g:=Zx (d:=f) (l j (dQ ..));have e:∀d∈b,dt (ij f c j) d=dt c d:=λd a=>Gg (λn=>i.1 (by rw[n];exact a));have h:=OO (f:=f) b (ij f c j) i.2 (λd a=>by obtain⟨p,m⟩:=zJ (l d (dN _ a));exact Cf ((e d a).trans m));rw[oZ];refine⟨gF h.1 g.1,?_⟩;rintro⟨d,a,k⟩;rcases dh.1 a with rfl|a
  .exact Nat.lt_of_le_of_lt h.1 (g.2 k)
  .exact zc (h.2 ⟨d,a,by rw[e d a];exact k⟩) g.1
def abz (t x:Nat)(h:UM)(c a:Nat)(j:U)(f:Nat)(r:V)(L:O)(aq:x<=12)(hk:iN j)(hv:f<18446744073709551616)(aH:Ng h c a)(hr:qP t x h c a r)(hs:Hl L r):Sr 389 [Z t,.string j,J f] L r λu H=>∃(e:Int)(k:UM)(ai K:Nat)(r':V),u=F e/\H=[r']/\qP t x k ai K r'/\nX x h c a j f e k ai K:=by
 have au:=hr;obtain⟨ap,ar,p,G,T,rfl,Q⟩:=hr;obtain⟨aU,aV,aB⟩:=id aH;have aQ:=Q.len;refine mz.spec ?_;refine BY (d:=91) func389 rfl rfl [(0,_),(1,_),(2,_)] rfl ⟨rfl,rfl,rfl,trivial⟩ hs ?_;refine iX ?_;refine jF (jB rfl) ?_;refine N [0,1,2] ?_;refine iX ?_;refine vm ?_;refine iX ?_;refine jF (jB rfl) ?_;refine Y ?_;refine I (gB rfl rfl underlying354) ?_;refine N [0,1,2,12] ?_;refine zD (m:=false) rfl (λR=>by cases R) (λ_=>?_);refine iX ?_;refine jF (jB rfl) ?_;refine Y ?_;refine I (oO rfl rfl) ?_;refine N [0,1,2,15] ?_;refine zE rfl (λak=>?_) (λak=>?_)
 .obtain rfl:j=ByteArray.empty:=ak;refine iX ?_;refine jF (jB rfl) ?_;refine N [6] ?_;refine vn ?_;exact⟨_,_,_,λah ag s v=>im results389 rfl ah s _,gq _,⟨3,h,c,a,_,rfl,rfl,au,.inl ⟨by decide,rfl,rfl,rfl,.inl ⟨rfl,rfl⟩⟩⟩,.inl ⟨rfl,rfl⟩⟩
 have A:j≠ByteArray.empty:=ak;refine iX ?_;refine jF (jB rfl) ?_;refine Y ?_;refine I (e9 rfl rfl) ?_;refine N [0,1,2,18] ?_;refine zE rfl (λal=>?_) (λal=>?_)
 .have y:f=0:=by have:(f:Int)=0:=al;omega
  refine iX ?_;refine jF (jB rfl) ?_;refine N [6] ?_;refine vn ?_;exact⟨_,_,_,λah ag s v=>im results389 rfl ah s _,gq _,⟨1,h,c,a,_,rfl,rfl,au,.inl ⟨by decide,rfl,rfl,rfl,.inr (.inl ⟨A,y,rfl⟩)⟩⟩,.inl ⟨rfl,rfl⟩⟩
 have y:f≠0:=λR=>al (by rw[R];rfl);refine iX ?_;refine jF (jB rfl) ?_;refine NX 0 0 ?_;refine Y ?_;refine dd func121 (λL v=>zV a f L (by omega) hv) ?_;rintro _ _ w1 ⟨rfl,rfl⟩;refine I (jl rfl rfl) ?_;refine N [0,1,2,21] ?_;refine KV rfl (λam=>?_) (λam=>?_)
 .have E:9223372036854775808<a+f:=by simpa using am
  refine iX ?_;refine jF (jB rfl) ?_;refine N [6] ?_;refine vn ?_;exact⟨_,_,_,λah ag s v=>im results389 rfl ah s _,gq _,⟨12,h,c,a,_,rfl,rfl,au,.inl ⟨by decide,rfl,rfl,rfl,.inr (.inr ⟨A,y,E,rfl⟩)⟩⟩,.inl ⟨rfl,rfl⟩⟩
 have E:a+f<=9223372036854775808:=by simpa using am
 refine zF ?_;refine yg [oi t p x c a,G] ?_;refine iX ?_;refine jF (jB rfl) ?_;refine df ?_;refine I (cU (z:=J ((a+f:Nat):Int)) (og rfl rfl) (by rw[gR])) ?_;refine KW 0 λaP=>?_;refine cH [0,1,2] ?_;refine iX ?_;refine jF (jB rfl) ?_;refine Pw 1 func397 (λL v o=>Iu p x T 0 h G j L hk Q o) ?_;rintro _ _ ag ⟨rfl,rfl⟩;refine df ?_;refine fu [1,0] ?_;refine cH [0,1,2,7,8] ?_;refine iX ?_;refine iX ?_;refine KX (λds m' H w'=>ds=[]/\m'=[(0,Z t),(1,.string j),(2,J f),(7,J (((dt h j).getD 0:Nat):Int)),(58,.bool ((dt h j).isSome||decide (h.length<x)))]/\H=[oi t p x c (a+f),G]) ?_ ?_
 .cases z:dt h j with
  |some ae=>refine zC [(0,true),(1,true),(2,true),(3,true),(4,true),(5,true),(7,true),(8,true),(9,true),(10,true),(6,false),(11,true),(12,true)] (_) ([]) lN (by kernel_rfl) rfl (by kernel_rfl) rfl (ik _) (λaE=>?_);refine fh ?_;refine Y ?_;refine Am rfl rfl rfl ?_;refine Y ?_;refine cN rfl (mC rfl rfl rfl) ?_;refine iK [0,1,2,7,58] ?_;exact⟨rfl,rfl,rfl⟩
  |none=>refine zC [(0,true),(1,true),(2,true),(3,true),(4,true),(5,true),(7,true),(8,true),(9,true),(10,true),(6,false),(11,true),(12,true)] ([_]) ([_]) lN (by kernel_rfl) rfl (by kernel_rfl) rfl (cD _) (λaE=>?_);refine fh ?_;refine Y ?_;refine Og rfl rfl rfl (ft G [_] func398 (c8 1 rfl) (λL v o=>asR p x T 0 h G L Q o)) ?_;rintro _ _ aL ⟨_,rfl,rfl,rfl⟩;refine⟨_,lF,?_⟩;refine fX rfl rfl rfl (cU (z:=.bool (decide (h.length<x))) (gN rfl rfl) (dq Value.bool (uU.2 (by omega)))) ?_;refine cN rfl (mC rfl rfl rfl) ?_;refine iK [0,1,2,7,58] ?_;exact⟨rfl,rfl,rfl⟩
 rintro _ _ _ aW ⟨rfl,rfl,rfl⟩;refine KV rfl (λw=>?_) (λw=>?_)
 .have aR:(dt h j).getD 0<=a:=by
   cases z:dt h j with
   |none=>exact gK _
   |some ae=>exact aB j ae z
  obtain⟨k,aD,hG⟩:∃k,tp x h j ((dt h j).getD 0+f)=(0,k)/\((∃ae,dt h j=some ae/\k=(j,ae+f)::gX h j/\c=c)\/(dt h j=none/\h.length<x/\k=(j,f)::h/\c=c)):=by
   cases z:dt h j with
   |some ae=>exact⟨_,LN (Cf z),.inl ⟨ae,rfl,rfl,rfl⟩⟩
   |none=>
    have hl:h.length<x:=by rw[z]at w;simpa using w
    refine⟨_,Eg (uh z) (by omega),.inr ⟨rfl,hl,?_,rfl⟩⟩;rw[Option.getD_none,dU]
  refine iX ?_;refine jF (jB rfl) ?_;refine fw ?_;refine I (cU (z:=J (((dt h j).getD 0+f:Nat):Int)) (og rfl rfl) (by rw[gR])) ?_;refine dw (ft G [_] func399 (c8 1 rfl) (λL v o=>Iv p x T 0 h G j ((dt h j).getD 0+f) L hk Q o)) ?_;rw[aD];rintro _ _ aX ⟨_,rfl,rfl,aJ,rfl,S⟩;refine Y ?_;refine fu [1,0] ?_;refine qh (d:=[]) [_,_] ?_;refine cH [6] ?_;refine vn ?_;refine⟨_,_,_,λah ag s v=>im results389 rfl ah s _,gq _,⟨0,k,c,a+f,_,rfl,rfl,⟨ap,ar,p,aJ,T,rfl,S⟩,.inr ⟨rfl,A,y,E,rfl,?_⟩⟩,.inl ⟨rfl,rfl⟩⟩;rcases hG with R|R
  .exact .inl R
  .exact .inr (.inl R)
 have B:dt h j=none:=by
  cases z:dt h j with
  |none=>rfl
  |some ae=>rw[z]at w;exact absurd rfl w
 have ab:h.length=x:=by
  rw[B]at w;have:¬h.length<x:=by simpa using w
  omega
 have az:=Q.nd;obtain⟨g,m,ad⟩:=TP az;have aA:=Q.sm;refine zF ?_;refine iX ?_;refine jF (jB rfl) ?_;refine Y ?_;refine CN (J 0) λbd aM=>?_;refine cO 0 λaN=>?_;refine cH [0,1,2,9] ?_;refine iX ?_;refine iX ?_;refine jF (jB rfl) ?_;refine Ku func400 (λL v=>MS _ L) ?_;rintro _ _ aY ⟨bx,rfl,rfl⟩;refine cH [0,1,2,9,70] ?_;refine mx [0,1,1,0] rfl ?_;refine vm ?_;refine GH [_,_,_,_] [] rfl func404 (by kernel_rfl) (de [0,0,0,0] _ rfl) ?_;intro fn ah l D w6 s v aw;refine mz.mono (MR l bx t p x c (a+f) _ G _ h g T w6 (λpre k r q=>k7 jK p x T 0 k r/\k=h/\q=cF bd [J ((iS f h pre:Nat):Int)] 23) aq m ad (λj hk=>aA j (m.mem_iff.1 hk)) (λ_ _ _ _ R=>R.1) ⟨Q,rfl,rfl⟩ ?_ aw) ?_
 .rintro pre k' aO k r q w7 aS ⟨aj,rfl,rfl⟩ av;refine IL (d:=91) s rfl rfl av ?_;refine jF (jB rfl) ?_;refine N [9,11] ?_;refine⟨rfl,_,cD _,λw8=>?_⟩;refine vm ?_;refine jF (jB rfl) ?_;refine cC ?_;refine I (BS (r:=((iS f k (pre++[k']):Nat):Int)) rfl rfl (by rw[Zr];split<;>omega)) ?_;refine cO 4 λw9=>?_;refine cH [] ?_;exact⟨rfl,_,cD _,rfl,k,r,_,cD _,aj,rfl,rfl⟩
 rintro _ H1 ⟨i,r,q,hp,aj,rfl,rfl⟩;refine⟨_,hp,λw'=>?_⟩;have fV:=BD i g f;have aC:g.Nodup:=m.nodup_iff.2 az;have P:=OO (f:=iS f i g) g i aC (λq af=>m.mem_iff.1 af);have ao:dt (g.foldl (ij (iS f i g)) i) j=none:=(tW g i (λR=>uh B (m.mem_iff.1 R))).trans B;have W:iS f i g<f->(g.foldl (ij (iS f i g)) i).length<x:=λR=>by have:=P.2 (OT i g f R);omega
 have ax:∀q ae,dt i q=some ae->iS f i g<=ae:=λq ae af=>by have:=DB i g f q (m.mem_iff.2 (Cf af));rw[af,uS]at this;exact this
 generalize X:iS f i g=d at fV P ao W ax;refine iX ?_;refine mx [2,2,0,1] rfl ?_;refine ye (f:=[_,_]) [_,_] ?_;refine jF (jB rfl) ?_;refine cC ?_;refine dw (ft (cz [oi t p x c (a+f),r]) [_,_] func401 (cD _) (λL v o=>mz.spec (Zj t p x c (a+f) d i T r L aq aj aA ax (by omega) (λq ae af=>by have:=aB q ae af;omega) g m ad o))) ?_;rintro _ _ aZ ⟨H2,rfl,r2,aI,S⟩;refine atn _ (aI.append_right _) ?_;refine cH [0,1,2,9] ?_;refine iX ?_;refine iX ?_;refine jF (jB rfl) ?_;refine cC ?_;refine I (gA rfl rfl) ?_;refine cH [0,1,2,9,81] ?_;refine zE rfl (λan=>?_) (λan=>?_)
 .have ay:d<f:=by have:(d:Int)<(f:Int):=an;omega
  have aT:=W ay;refine iX ?_;refine zC [(0,true),(1,true),(2,true),(3,true),(4,true),(5,true),(6,true),(7,true),(8,false),(9,true)] [_,_,_] [_] lN (by kernel_rfl) rfl (by kernel_rfl) rfl (de [0,1,1] _ rfl) (λa0=>?_);refine fw ?_;refine cN rfl (cU (z:=J ((f-d:Nat):Int)) (BT rfl rfl) (by congr 1;omega)) ?_;refine eh rfl (ft r2 [_,_,_] func399 (c8 3 rfl) (λL v o=>Iv p x T 0 _ r2 j (f-d) L hk S o)) ?_;rw[Eg (uh ao) (by omega)];rintro _ _ a1 ⟨_,rfl,rfl,aK,rfl,aF⟩;refine⟨_,lF,?_⟩;refine N [6] ?_;refine mx [0,2,0] rfl ?_;refine ye (f:=[_]) [_,_] ?_;refine vn ?_;exact⟨_,_,[_],λah ag s v=>im results389 rfl ah s _,gq _,⟨0,_,c+d,a+f,_,rfl,rfl,⟨ap,ar,p,aK,T,rfl,aF⟩,.inr ⟨rfl,A,y,E,rfl,.inr (.inr ⟨B,ab,g,m,ad,by rw[X],by rw[X,cM ay]⟩)⟩⟩,.inr ⟨D,rfl,List.Perm.swap ..⟩⟩
 .have aG:¬d<f:=λR=>an (show(d:Int)<(f:Int) by omega);refine zF ?_;refine iX ?_;refine jF (jB rfl) ?_;refine N [6] ?_;refine mx [0,0,0] rfl ?_;refine ye (f:=[_]) [_,_] ?_;refine vn ?_;exact⟨_,_,[_],λah ag s v=>im results389 rfl ah s _,gq _,⟨0,_,c+d,a+f,_,rfl,rfl,⟨ap,ar,p,r2,T,rfl,S⟩,.inr ⟨rfl,A,y,E,rfl,.inr (.inr ⟨B,ab,g,m,ad,by rw[X],by rw[X,cJ aG]⟩)⟩⟩,.inr ⟨D,rfl,List.Perm.swap ..⟩⟩
def pX (a:C En):(dn a).length=a.length*3:=by rw[dn,wK,dL]
def tZ {b:C En}{a:Nat}{c:En}(d:b[a]? =some c):((dn b).drop (0+a*3)).take 3=dy (some c):=x6 (by rw[eK,d];rfl)
def Pk {i:O}{g b:Nat}{h:C En}{f:Nat}{j:En}(k:∀c d,(dn h)[c]? =some d->i.cell? ⟨g,b+c,.none⟩=some d)(l:h[f]? =some j):∀c d,(dy (some j))[c]? =some d->i.cell? ⟨g,b+f*3+c,.none⟩=some d:=by
 intro c d a;have e:=tZ l;rw[<-e,mT]at a;split at a
 .rw[kQ,dU]at a;have:=k (f*3+c) d a
  rwa [<-ma]at this
 .cases a
def rk (c:UM)(a:Nat)(b:U):En:=(b,(dt c b).getD 0,a)
section
variable{g:dX}{j:Nat}{c:O}{a:Nat->Prop}{k:cG Nat}{f h:jq}{i:Nat->jq}{b:C Deferred}{d:dD}{l:C V}{e:O}
def Qv {m:Code}(n q:Nat)(p:G g j c a k m f h i b d (row vN n q 0 []::l) e):G g j c a k m f h i b d l e:=λo r s=>p o r (s.Cm n q)
def abI {n:Code}{u v m o D:V}(w:C V->Prop)(x:∀r,w r->∀d e,f [] d [u,v,m,o,cz r] e)(q:G g j c a k n (λb _ s _=>b=[]/\∃r B,s.Perm (r++([u,v,m,o]++B))/\w r) h i [] d [u,v,m,o,D] e):G g j c a k n f h i [] d [u,v,m,o,D] e:=KU _ q λ_ d s A ⟨p,r,B,z,t⟩=>by subst p;exact⟨[u,v,m,o,cz r],λy=>((cI.cz.1 (y.perm z)).perm (de [1,1,1,1,0] _ rfl)).j0 (mr _ _),x r t d A⟩
end
def abB (y Q:Nat)(q:UM)(c e:Nat)(o:V)(t:O)(v:Q<=12)(G:qP y Q q c e o)(af:Hl t o):Sr 390 [Z y] t o λs H=>∃d:C U,d.Perm (keys q)/\gd d/\H=[row s 302 3 (d.map (rk q c)).length (dn (d.map (rk q c))),o]:=by
 have ap:=G;obtain⟨al,am,z,w,T,rfl,j⟩:=G;have aj:=j.len;obtain⟨d,g,r⟩:=TP j.nd;have K:=j.sm;have ak:d.length<=12:=by have:=g.length_eq;rw[keys,dL]at this;omega
 refine mz.spec ?_;refine BY (d:=23) func390 rfl rfl [(0,_)] rfl ⟨rfl,trivial⟩ af ?_;refine iX ?_;refine jF (jB rfl) ?_;refine dK λB ah=>?_;refine N [1] ?_;refine iX ?_;refine iX ?_;refine jF (jB rfl) ?_;refine Y ?_;refine I (gB rfl rfl underlying354) ?_;refine cH [1,7] ?_;refine zD (m:=false) rfl (λP=>by cases P) (λ_=>?_);refine zF ?_;refine iX ?_;refine jF (jB rfl) ?_;refine CN vN λA ai=>?_;refine cH [1,3] ?_;refine iX ?_;refine iX ?_;refine jF (jB rfl) ?_;refine Ku func400 (λt k=>MS _ t) ?_;rintro _ _ w5 ⟨W,rfl,rfl⟩;refine cH [1,3,9] ?_;refine Qv 302 3 ?_;refine mx [2,0,1,0,0] rfl ?_;refine ye (f:=[_,_]) [_,_,_] ?_;refine mx [2,0,0] rfl ?_;refine yg [oi y z Q c e,w] ?_;refine vm ?_;refine GH [_,_,_,_] [] rfl func404 (by kernel_rfl) (de [3,0,0,0] _ rfl) ?_;intro fn a l D w6 u k m;refine mz.mono (MR l W y z Q c e _ w _ q d T w6 (λpre f o ag=>(f=q/\o=w)/\∃s,ag=cz [cF A [s] 203,row s 302 3 (pre.map (rk q c)).length (dn (pre.map (rk q c))),cF B [Z y] 354]) v g r (λR ad=>K R (g.mem_iff.1 ad)) (λ_ _ _ _ P=>by obtain⟨⟨rfl,rfl⟩,_⟩:=P;exact j) ⟨⟨rfl,rfl⟩,_,rfl⟩ ?_ m) ?_
 .rintro pre R x f o ag w7 E ⟨⟨rfl,rfl⟩,s,rfl⟩ h;have an:pre.length+1<=12:=by
   have:d.length=pre.length+(x.length+1):=by rw[E];simp
   omega
  have ao:(pre.map (rk f c)).length=pre.length:=dL ..;refine IL (d:=23) u rfl rfl h ?_;refine iX ?_;refine jF (jB rfl) ?_;refine N [1,3,4,11] ?_;refine jF (jB rfl) ?_;refine N [1,3,4,5] ?_;refine⟨rfl,_,cD _,λw8=>?_⟩;refine abI (λL=>∃p,L=[cF A [p] 203,row p 302 3 ((pre++[R]).map (rk f c)).length (dn ((pre++[R]).map (rk f c))),cF B [Z y] 354]) (λL ⟨p,ab⟩ Q t=>⟨rfl,_,cD _,rfl,f,o,_,cD _,⟨rfl,rfl⟩,p,by rw[ab]⟩) ?_;refine mx [4,0,0,0,0] rfl ?_;refine yg [_,_,_] ?_;refine vm ?_;refine KS [(0,true),(1,true),(2,true),(3,true),(4,true),(5,true),(6,true),(7,true),(8,false),(9,false),(10,false)] [(_,some 10),(_,none),(_,none),(_,none),(_,none),(_,none)] [_] lN (by kernel_rfl) rfl (by kernel_rfl) rfl rfl (de [0,1,1,1,1,1] _ rfl) (λw9=>?_);refine fw ?_;refine ew rfl (ee (λt=>JP _ _ _ t)) ?_;refine gY rfl (qi sH) ?_;rintro _ _ aq ⟨bl,rfl,rfl⟩;refine⟨_,eg.symm,?_⟩;refine gY rfl (jo 7 sH (hr:=λt k=>Rd.dM k (l:=6) rfl)) ?_;rintro v2 _ ar ⟨⟨S,X,rfl⟩,rfl⟩;refine⟨_,cD _,?_⟩;refine jC rfl (gD 0) ?_;rintro _ _ au rfl;refine⟨_,de [1,1,1,1,1] _ rfl,?_⟩;refine M3 [] trivial ?_;refine⟨rfl,[_,_,_],[_],de [5,6,0] _ rfl,PA S ((pre.map (rk f c)).length+1) X,?_⟩;rw[dE,dA,kD,Po,cX];rfl
 rintro _ H1 ⟨M1,o,ag,ae,⟨rfl,rfl⟩,s,rfl⟩;refine⟨_,ae,λw'=>?_⟩;refine iX ?_;refine mx [2,2,2,0] rfl ?_;refine ye (f:=[_,_]) [_,_] ?_;refine mx [1,0,0] rfl ?_;refine yg [_,_,_] ?_;refine jF (jB rfl) ?_;refine N [2] ?_;refine mx [1,2,2] rfl ?_;refine vn ?_;exact⟨s,_,[_,_],λa w2 u k=>im (o:=[s]) results390 rfl a u _,gq _,⟨d,g,r,rfl⟩,.inr ⟨D,rfl,lF (l₁:=[_,_]) (l₂:=[_])⟩⟩
def mH (a:UM):Nat:=(a.map Prod.snd).sum
def tn {c:UM}{a:U}{b:Nat}:dt ((a,b)::c) a=some b:=by simp[dt]
def Ee {b:UM}{a:U}:dt (gX b a) a=none:=yq (RJ b a)
def Eo {a:UM}{d:U}{i:Nat}(c:(keys a).Nodup)(b:dt a d=some i):mH a=i+mH (gX a d):=by
 induction a with
 |nil=>simp[dt]at b
 |cons k a h=>
  obtain⟨e,j⟩:=k;simp only[keys,dA,iB]at c;by_cases f:e=d
  .subst f;rw[tn]at b;injection b with b;subst b;rw[Hb,yo c.1];simp[mH]
  .rw[qF f]at b;have g:gX ((e,j)::a) d=(e,j)::gX a d:=by simp[gX,f]
   have:=h c.2 b;rw[g];simp only[mH,dA,iE]at this|-;omega
def Sf {a:UM}{e:U}{c:Nat}(b:(keys a).Nodup)(d:dt a e=some c):c<=mH a:=by rw[Eo b d];omega
def LW {b:UM}{a:U}{d:Nat}(c:(keys b).Nodup):(keys ((a,d)::gX b a)).Nodup:=iB.2 ⟨RJ b a,Ec c a⟩
def Ck {a:UM}{c:U}{e:Nat}(d:(keys a).Nodup)(b:dt a c=none):(keys ((c,e)::a)).Nodup:=iB.2 ⟨uh b,d⟩
def OX {d:Nat}{a:UM}{c:U}(b:(keys a).Nodup):(keys (ij d a c)).Nodup:=by
 unfold ij;split
 .exact Ec b c
 .exact LW b
def J5 {d:Nat}:∀(a:C U){c:UM},(keys c).Nodup->(keys (a.foldl (ij d) c)).Nodup
 |[],_,b=>b
 |e::a,_,b=>J5 a (OX b)
def Zw {c:Nat}{b:UM}{a:U}:dt (ij c b a) a=if(dt b a).getD 0=c then none else some ((dt b a).getD 0-c):=by
 unfold ij;split
 .exact Ee
 .exact tn
def DA {e:Nat}{c:U}:∀(a:C U)(d:UM),a.Nodup->c∈a->dt (a.foldl (ij e) d) c=if(dt d c).getD 0=e then none else some ((dt d c).getD 0-e)
 |i::a,d,b,h=>by
  rw[iB]at b;rw[oZ];by_cases f:c=i
  .subst f;rw[tW a _ b.1,Zw]
  .rw[DA a _ b.2 ((dh.1 h).resolve_left f),Gg (λg=>f g.symm)]
def Zy {b f:Nat}{a:UM}{e:U}(c:(keys a).Nodup)(d:dt a e=some f)(g:b<=f):mH (ij b a e)+b=mH a:=by
 rw[Eo c d];unfold ij;rw[d,uS];split
 .omega
 .simp only[mH,dA,iE];omega
def OP {i:Nat}:∀(a:C U)(b:UM),a.Nodup->(keys b).Nodup->(∀j∈a,∃m,dt b j=some m/\i<=m)->mH (a.foldl (ij i) b)+a.length*i=mH b
 |[],b,_,_,_=>by simp
 |j::a,b,c,d,f=>by rw[iB]at c;obtain⟨m,l,k⟩:=f j (dQ ..);have p:=Zy d l k;have q:=OP a (ij i b j) c.2 (OX d) (λr h=>by obtain⟨n,g,e⟩:=f r (dN _ h);exact⟨n,by rw[Gg (λo=>c.1 (by rw[o];exact h))];exact g,e⟩);rw[oZ,eE,lT];omega
section
variable{h:Nat}{d g:UM}{b e a c i:Nat}{k:U}{f:Int}
def nX.sum (m:nX h d b a k i f g e c)(q:(keys d).Nodup)(A:f=0):c=a+i/\mH g+(h+1)*e=mH d+(h+1)*b+i/\(keys g).Nodup:=by
 rcases m with⟨v,_⟩|⟨_,_,_,_,rfl,⟨z,s,rfl,rfl⟩|⟨p,_,rfl,rfl⟩|⟨p,B,j,t,G,rfl,rfl⟩⟩
 .exact absurd A v
 .refine⟨rfl,?_,LW q⟩;have:=Eo q s;simp only[mH,dA,iE]at this|-;omega
 .refine⟨rfl,?_,Ck q p⟩;simp only[mH,dA,iE];omega
 .have x:j.Nodup:=t.nodup_iff.2 q;have u:∀E∈j,∃z,dt d E=some z/\iS i d j<=z:=λE y=>by obtain⟨z,s⟩:=zJ (t.mem_iff.1 y);have:=DB d j i E y;rw[s,uS]at this;exact⟨z,s,this⟩
  have r:=OP j d x q u;have w:j.length=h:=by rw[t.length_eq,keys,dL];exact B
  rw[w]at r;have fV:=BD d j i;have o:dt (j.foldl (ij (iS i d j)) d) k=none:=(tW j d (λm=>uh p (t.mem_iff.1 m))).trans p;have n:=J5 (d:=iS i d j) j q;generalize j.foldl (ij (iS i d j)) d=H at r o n|-;generalize iS i d j=l at r fV o|-;have D:(h+1)*(b+l)=(h+1)*b+h*l+l:=by rw[Nat.mul_add,lT h l];omega
  refine⟨rfl,?_,?_⟩
  .rw[D];split
   .simp only[mH,dA,iE]at r|-;omega
   .omega
  .split
   .exact Ck n o
   .exact n
def nX.same (j:nX h d b a k i f g e c)(p:f≠0):g=d/\e=b/\c=a:=by
 rcases j with⟨_,m,n,o,_⟩|⟨l,_⟩
 .exact⟨m,n,o⟩
 .exact absurd l p
def nX.top (j:nX h d b a k i f g e c)(m:f=0):c<=9223372036854775808:=by
 rcases j with⟨l,_⟩|⟨_,_,_,j,rfl,_⟩
 .exact absurd m l
 .exact j
structure nG (h:Nat)(d:UM)(b a:Nat):Prop where
 nd:(keys d).Nodup
 sum:mH d+(h+1)*b<=a
 top:a<=9223372036854775808
 pos:∀k j,dt d k=some j->j≠0
def nG.new (h:Nat):nG h [] 0 0:=⟨xD,by simp[mH],by omega,λk l j=>by simp[dt]at j⟩
def nG.Zi (j:nG h d b a):b<=a:=by have:=j.sum;rw[lT]at this;omega
def nG.ok (j:nG h d b a):Ng d b a:=⟨j.top,j.Zi,λk m l=>by have:=Sf j.nd l;have:=j.sum;omega⟩
def nX.pos (s:nX h d b a k i f g e c)(x:(keys d).Nodup)(r:∀k p,dt d k=some p->p≠0):∀k p,dt g k=some p->p≠0:=by
 rcases s with⟨_,rfl,_⟩|⟨_,_,B,_,_,⟨p,z,rfl,_⟩|⟨v,_,rfl,_⟩|⟨v,y,m,w,A,_,rfl⟩⟩
 .exact r
 .intro n q j;by_cases f:k=n
  .subst f;rw[tn]at j;injection j with j;omega
  .rw[qF f,vt f]at j;exact r n q j
 .intro n q j;by_cases f:k=n
  .subst f;rw[tn]at j;injection j with j;omega
  .rw[qF f]at j;exact r n q j
 .have u:m.Nodup:=w.nodup_iff.2 x;have t:∀n p,dt (m.foldl (ij (iS i d m)) d) n=some p->p≠0:=λn p l=>by
   by_cases o:n∈m
   .rw[DA m d u o]at l;have:=DB d m i n o;split at l
    .cases l
    .injection l with l;omega
   .rw[tW m d o]at l;exact r n p l
  split
  .intro n q j;by_cases f:k=n
   .subst f;rw[tn]at j;injection j with j;omega
   .rw[qF f]at j;exact t n q j
  .exact t
def nG.add (j:nG h d b a)(l:nX h d b a k i f g e c):nG h g e c:=by
 by_cases m:f=0
 .obtain⟨o,p,n⟩:=l.sum j.nd m;exact⟨n,by have:=j.sum;omega,l.top m,l.pos j.nd j.pos⟩
 .obtain⟨rfl,rfl,rfl⟩:=l.same m;exact j
def nG.del (j:nG h d b a):nG h (gX d k) b a:=by
 refine⟨Ec j.nd k,?_,j.top,λp o l=>?_⟩
 .have m:=j.sum;cases n:dt d k with
  |none=>rw[yo (uh n)];exact m
  |some o=>rw[Eo j.nd n]at m;omega
 .by_cases f:k=p
  .subst f;rw[Ee]at l;cases l
  .rw[vt f]at l;exact j.pos p o l
def nG.swap {q:U}{t u:Nat}{y:M}(j:nG h d b a)(hS:vO d b k q t u y g):nG h g b a:=by
 rcases hS with⟨_,_,rfl,_⟩|⟨z,r,x,p,w,_,rfl⟩
 .exact j
 .have o:=j.del (k:=k);have m:dt (gX d k) q=none:=by
   by_cases f:k=q
   .subst f;exact Ee
   .rw[vt f];exact p
  refine⟨Ck o.nd m,?_,j.top,λv s l=>?_⟩
  .have n:=j.sum;rw[Eo j.nd r]at n;simp only[mH,dA,iE]at n|-;omega
  .by_cases f:q=v
   .subst f;rw[tn]at l;injection l with l;omega
   .rw[qF f]at l;exact o.pos v s l
end
def KI (f:UM)(a:Nat)(d:U):∃(c:U)(e h:Nat)(b:Bool),rn f a d=PF [gf c e h,.bool b]/\(b=true->dt f d=some e/\h=a/\c=d)/\(b=false->dt f d=none/\e=0/\h=0/\c=ByteArray.empty):=by
 unfold rn;cases i:dt f d with
 |none=>exact⟨ByteArray.empty,0,0,false,rfl,(λg=>by cases g),(λ_=>⟨rfl,rfl,rfl,rfl⟩)⟩
 |some e=>exact⟨d,e,a,true,rfl,(λ_=>⟨rfl,rfl,rfl⟩),(λg=>by cases g)⟩
def cE (a:C En):C U:=a.map Prod.fst
def lJ (a b:C En):cE (a++b)=cE a++cE b:=by simp[cE]
def ya (c:C En):∀b∈dn c,b.oneCell'=true:=by intro b a;simp only[dn,fp,rZ,dz]at a;obtain⟨d,⟨e,_,rfl⟩,a⟩:=a;simp only[dy,dh,nn,o6]at a;rcases a with rfl|rfl|rfl<;>rfl
def x9 (a b:C En):dn (a++b)=dn a++dn b:=by rw[dn,dE,DM];rfl
def BJ (b:C En)(a:Nat):(dn b).take (a*3)=dn (b.take a):=by
 by_cases c:a<=b.length
 .conv=>lhs;rw[<-gJ a b,x9]
  rw[uO (by rw[pX,eD];omega),gS (by rw[pX,eD];omega)]
 .rw[gS (by rw[pX];omega),gS (by omega)]
def DP (b:C En)(a:Nat):(dn b).drop (a*3)=dn (b.drop a):=by
 by_cases d:a<=b.length
 .conv=>lhs;rw[<-gJ a b,x9]
  have c:(dn (b.take a)).length=a*3:=by rw[pX,eD];omega
  rw[<-c,kZ]
 .rw[AR (by rw[pX];omega),AR (by omega)];rfl
def Df (b:Nat)(i:C En)(a:Nat)(g d:U)(e f:Nat)(c:Bool):Prop:=(c=false/\g∉cE i/\d=ByteArray.empty/\e=0/\f=0)\/(c=true/\∃h j k,i=h++(g,e,j)::k/\g∉cE h/\d=g/\f=if b=2 then a else j)
def FG (d:C En)(c:U)(a:C En):Prop:=(c∉cE d/\a=d)\/∃b f e,d=b++f::e/\f.1=c/\c∉cE b/\a=b++e
def x7 {a:C En}{b:En}(c:b∈a):b.1∈cE a:=gu c
def Rz {h:C En}(b:(cE h).Nodup){i j:C En}{c:U}{d k:Nat×Nat}(a:h=i++(c,d)::j)(g:(c,k)∈h):d=k:=by
 subst a;have l:(c,d)∈i++(c,d)::j:=by simp
 rw[lJ]at b;obtain⟨_,e,f⟩:=kR.1 b;rcases dV.1 g with a|a
 .exact absurd rfl (f _ (x7 a) _ (by simp[cE]))
 .rcases dh.1 a with a|a
  .injection a with _ a;exact a.symm
  .exact absurd (x7 a) (iB.1 e).1
def iM (b a:Nat)(c:En):En:=(c.1,c.2.1,if b=2 then a else c.2.2)
def Gm (b a:Nat)(c:C En):cE (c.map (iM b a))=cE c:=by rw[cE,jj];rfl
def ly (c:Nat)(b:C En):Nat:=b.foldl (λa d=>min a d.2.1) c
def Mi (a:Nat)(c:C En):ly a c<=a:=by
 induction c generalizing a with
 |nil=>exact dT _
 |cons d c b=>exact gF (b (min a d.2.1)) (Jq ..)
def SR {a:C En}{e:En}(d:Nat)(b:e∈a):ly d a<=e.2.1:=by
 induction a generalizing d with
 |nil=>cases b
 |cons f a c=>
  rcases dh.1 b with rfl|b
  .exact gF (Mi _ a) (Jr ..)
  .exact c _ b
def tw (b:Nat)(a:En):cG En:=if a.2.1-b=0 then none else some (a.1,a.2.1-b,a.2.2)
def red (a:Nat)(b:C En):C En:=b.filterMap (tw a)
def aie (b:Nat)(a:C En):(red b a).length<=a.length:=List.length_filterMap_le ..
def Wd (g:Nat)(c:C En)(b:Nat)(f:U)(d:Nat)(e:C En)(a:Nat):Prop:=(c.length≠g/\e=c++[(f,d,0)]/\a=b)\/(c.length=g/\a=b+ly d c/\e=red (ly d c) c++if ly d c<d then[(f,d-ly d c,0)]else[])
def We (a:Nat)(c:U)(d:Nat)(b:Int):Prop:=c=ByteArray.empty/\b=3\/c≠ByteArray.empty/\d=0/\b=1\/c≠ByteArray.empty/\d≠0/\9223372036854775808<a+d/\b=12
def Wf (g:C En)(b:U)(h:Nat)(c:C En):Prop:=∃a e f d,g=a++(b,e,f)::d/\b∉cE a/\c=a++d++[(b,e+h,f)]
def Nr (j:Nat)(h:C En)(b c:Nat)(g:U)(f:Nat)(i:Int)(e:C En)(a d:Nat):Prop:=(i≠0/\e=h/\a=b/\d=c/\We c g f i)\/(i=0/\g≠ByteArray.empty/\f≠0/\c+f<=9223372036854775808/\d=c+f/\((Wf h g f e/\a=b)\/(g∉cE h/\Wd j h b g f e a)))
def FF (d:C En)(b:U)(e f:Nat)(a c:C En):Prop:=d=a++(b,e,f)::c/\b∉cE a
def Ju (c:C En)(a:Nat)(k d:U)(b h:Nat)(m:M)(g:C En):Prop:=(∃f:Int,m=PF [oM,F f]/\g=c/\(k∉cE c/\f=8\/∃e l i j,FF c k e l i j/\(d=ByteArray.empty/\f=3\/d≠ByteArray.empty/\(d∈cE c/\f=10\/d∉cE c/\(b=0\/e<b\/a<h)/\f=1))))\/(∃e l i j,FF c k e l i j/\d≠ByteArray.empty/\d∉cE c/\¬(b=0\/e<b\/a<h)/\m=PF [gf k e a,F 0]/\g=i++j++[(d,b,0)])
def nQ (b:C En):UM:=b.map λa=>(a.1,a.2.1)
def Cq (a b:C En):nQ (a++b)=nQ a++nQ b:=by simp[nQ]
def G4 (a:C En):keys (nQ a)=cE a:=by rw[keys,nQ,jj];rfl
def ahK (a:C En):(nQ a).length=a.length:=by rw[nQ,dL]
def L6 {g:C En}{d:U}{e:Nat}:(d,e)∈nQ g↔∃f,(d,e,f)∈g:=by
 simp only[nQ,dz];constructor
 .rintro⟨⟨j,k,h⟩,c,i⟩;injection i with a b;subst a;subst b;exact⟨h,c⟩
 .rintro⟨f,c⟩;exact⟨(d,e,f),c,rfl⟩
def FL (a:UM)(b:C En):Prop:=(nQ b).Perm a/\(keys a).Nodup
section
variable{a e:UM}{b d:C En}{k:U}{c:Nat}
def RN (i:dt a k=some c):(k,c)∈a:=by
 unfold dt at i;obtain⟨j,f,rfl⟩:=nq.1 i;have g:=Fm f;have h:j.1=k:=by simpa using Fh f
 rw[<-h];exact g
def FL.nd (f:FL a b):(cE b).Nodup:=by rw[<-G4];exact(f.1.map Prod.fst).nodup_iff.2 f.2
def FL.ks (f:FL a b):(cE b).Perm (keys a):=by rw[<-G4];exact f.1.map Prod.fst
def FL.len (f:FL a b):b.length=a.length:=by rw[<-ahK];exact f.1.length_eq
def FL.yu (h:FL a b):k∉cE b↔dt a k=none:=⟨λg=>yq λf=>g (h.ks.mem_iff.2 f),λg f=>uh g (h.ks.mem_iff.1 f)⟩
def FL.sm (g:FL a b):dt a k=some c↔∃h,(k,c,h)∈b:=⟨λf=>L6.1 (g.1.mem_iff.2 (RN f)),λf=>vu g.2 (g.1.mem_iff.1 (L6.2 f))⟩
def FL.here {h i:C En}{g:Nat}(j:FL a b)(f:b=h++(k,c,g)::i):dt a k=some c:=j.sm.2 ⟨g,by rw[f];simp⟩
def FL.del {h i:C En}{p:Nat}(o:FL a b)(m:b=h++(k,c,p)::i):(nQ (h++i)).Perm (gX a k):=by
 have j:=LF o.1 k;have f:(nQ b).Perm ((k,c)::nQ (h++i)):=by rw[m,Cq,Cq];exact eg
 have n:k∉keys (nQ (h++i)):=by have l:=(f.map Prod.fst).nodup_iff.1 (by rw[show(nQ b).map Prod.fst=cE b from G4 b];exact o.nd);exact(iB.1 l).1
 have g:=LF f k;rw[Hb,yo n]at g;exact g.symm.trans j
def adC (f:dt a k=none):gX a k=a:=yo (uh f)
def FL.take (f:FL a b)(i:FG b k d):FL (gX a k) d:=by
 refine⟨?_,Ec f.2 k⟩;rcases i with⟨h,rfl⟩|⟨j,m,l,g,rfl,_,rfl⟩
 .rw[adC (f.yu.1 h)];exact f.1
 .exact f.del g
def FL.get {f i j:Nat}{h:U}{g:Bool}(o:FL a b)(m:Df 2 b f k h i j g):rn a f k=PF [gf h i j,.bool g]:=by
 rcases m with⟨rfl,n,rfl,rfl,rfl⟩|⟨rfl,p,r,q,l,_,rfl,rfl⟩
 .rw[rn,o.yu.1 n];rfl
 .rw[rn,o.here l]
def FL.mn (s:FL a b){h:C U}(q:h.Perm (keys a))(j:Nat):iS j a h=ly j b:=by
 have m:iS j a h=(h.map λk=>(dt a k).getD 0).foldl (λf g=>Min.min f g) j:=by rw[iS,List.foldl_map]
 have n:ly j b=(b.map λi=>i.2.1).foldl (λf g=>Min.min f g) j:=by rw[ly,List.foldl_map]
 have o:(h.map λk=>(dt a k).getD 0).Perm (b.map λi=>i.2.1):=by
  refine(q.map _).trans ?_;have p:((cE b).map λk=>(dt a k).getD 0)=b.map λi=>i.2.1:=by rw[cE,jj];refine k5 λi r=>?_;show(dt a i.1).getD 0=i.2.1;rw[s.sm.2 ⟨i.2.2,r⟩];rfl
  rw[<-p];exact(s.ks.map _).symm
 rw[m,n];exact o.foldl_eq' (λf _ g _ l=>by omega) j
def FL.aif (G:FL a b){h:C U}(A:h.Perm (keys a))(f:Nat)(P:∀l∈b,f<=l.2.1):(nQ (red f b)).Perm (h.foldl (ij f) a)/\(keys (h.foldl (ij f) a)).Nodup:=by
 have K:h.Nodup:=A.nodup_iff.2 G.2;have p:=J5 (d:=f) h G.2;refine⟨?_,p⟩;have L:(nQ (red f b)).Nodup:=by
  have T:(keys (nQ (red f b))).Nodup:=by
   rw[G4];have W:(cE (red f b)).Sublist (cE b):=by
    have:∀r:C En,(cE (red f r)).Sublist (cE r):=by
     intro r;induction r with
     |nil=>exact gq _
     |cons l r Q=>
      by_cases n:l.2.1-f=0
      .rw[show red f (l::r)=red f r by simp[Go.Proofs.YtdlpoonfcdoiiaaGreat.red,tw,n]];exact Q.cons _
      .rw[show red f (l::r)=(l.1,l.2.1-f,l.2.2)::red f r by simp[Go.Proofs.YtdlpoonfcdoiiaaGreat.red,tw,n]];exact Q.cons_cons _
    exact this b
   exact G.nd.sublist W
  exact yV Prod.fst (λu v o j=>o (by rw[j])) T
 have H:(h.foldl (ij f) a).Nodup:=yV Prod.fst (λu v o j=>o (by rw[j])) p;refine(tH L H).2 λ⟨E,c⟩=>?_;have X:(E,c)∈h.foldl (ij f) a↔dt (h.foldl (ij f) a) E=some c:=⟨λi=>vu p i,RN⟩;rw[X,L6];by_cases t:E∈h
 .rw[DA h a K t];obtain⟨D,q⟩:=zJ (A.mem_iff.1 t);obtain⟨R,x⟩:=G.sm.1 q;have ab:f<=D:=P _ x;rw[q,uS];constructor
  .rintro⟨s,B⟩;obtain⟨l,n,g⟩:=xC.1 B;unfold tw at g;split at g
   .cases g
   .rename_i ad;injection g with g;injection g with y z;injection z with z e3;have m:dt a E=some l.2.1:=G.sm.2 ⟨l.2.2,by rw[<-y];exact n⟩;rw[q]at m;injection m with m;rw[cJ (by omega)];congr 1;omega
  .intro i;split at i
   .cases i
   .injection i with i;refine⟨R,xC.2 ⟨_,x,?_⟩⟩;show(if D-f=0 then none else some (E,D-f,R))=_;rw[cJ (by omega),i]
 .rw[tW h a t];have w:dt a E=none:=yq λS=>t (A.mem_iff.2 S);rw[w];constructor
  .rintro⟨s,B⟩;obtain⟨l,n,g⟩:=xC.1 B;unfold tw at g;split at g
   .cases g
   .injection g with g;injection g with y z;have m:dt a E=some l.2.1:=G.sm.2 ⟨l.2.2,by rw[<-y];exact n⟩;rw[w]at m;cases m
  .intro i;cases i
def FL.add {n y p l m j t ab:Nat}{o R:Int}(q:FL a b)(v:nX n a y m k ab o e p j)(w:Nr n b y m k ab R d l t):R=o/\l=p/\t=j/\FL e d:=by
 rcases v with⟨E,rfl,rfl,rfl,hE⟩|⟨rfl,G,Q,af,rfl,v⟩
 .rcases w with⟨_,rfl,rfl,rfl,r⟩|⟨_,G,Q,af,_⟩
  .refine⟨?_,rfl,rfl,q⟩;rcases hE with⟨i,rfl⟩|⟨i,h,rfl⟩|⟨i,h,S,rfl⟩<;>rcases r with⟨u,rfl⟩|⟨u,z,rfl⟩|⟨u,z,D,rfl⟩<;>first|rfl|exact absurd i u|exact absurd u i|exact absurd h z|exact absurd z h
  .rcases hE with⟨i,_⟩|⟨_,h,_⟩|⟨_,_,S,_⟩
   .exact absurd i G
   .exact absurd h Q
   .omega
 .rcases w with⟨_,_,_,_,r⟩|⟨rfl,_,_,_,rfl,w⟩
  .rcases r with⟨i,_⟩|⟨_,h,_⟩|⟨_,_,S,_⟩
   .exact absurd i G
   .exact absurd h Q
   .omega
  .refine⟨rfl,?_⟩;rcases w with⟨⟨A,c,s,B,E,ag,rfl⟩,rfl⟩|⟨X,W⟩
   .have K:=q.here E;rcases v with⟨o',g,rfl,rfl⟩|⟨f,_⟩|⟨f,_⟩
    .rw[K]at g;injection g with g;subst g;refine⟨rfl,rfl,?_,LW q.2⟩;rw[Cq];exact(pK _ _).trans ((q.del E).cons _)
    .rw[K]at f;cases f
    .rw[K]at f;cases f
   .have f:=q.yu.1 X;rcases v with⟨o',g,_⟩|⟨_,ae,rfl,rfl⟩|⟨_,ae,P,L,hs,rfl,rfl⟩
    .rw[f]at g;cases g
    .rcases W with⟨_,rfl,rfl⟩|⟨h,_⟩
     .refine⟨rfl,rfl,?_,Ck q.2 f⟩;rw[Cq];exact(pK _ _).trans (q.1.cons _)
     .have:=q.len;omega
    .rcases W with⟨h,_⟩|⟨_,rfl,rfl⟩
     .have:=q.len;omega
     .rw[q.mn L];obtain⟨D,T⟩:=q.aif L (ly ab b) (λx hx=>SR ab hx);refine⟨rfl,rfl,?_⟩;have H:dt (P.foldl (ij (ly ab b)) a) k=none:=(tW P a (λad=>uh f (L.mem_iff.1 ad))).trans f;rw[FL,Cq];split
      .exact⟨(pK _ _).trans (D.cons _),Ck T H⟩
      .rw[show nQ []=[]from rfl,eN];exact⟨D,T⟩
def FL.swap {r G H:Nat}{E:U}{T u':M}(l:FL a b)(hS:vO a r k E G H T e)(D:Ju b r k E G H u' d):∃(S:U)(p q:Nat)(j:Int),T=PF [gf S p q,F j]/\u'=T/\FL e d:=by
 have y:E∈cE b↔(dt a E).isSome=true:=by
  constructor
  .intro o;obtain⟨c,f⟩:=zJ (l.ks.mem_iff.1 o);rw[f];rfl
  .intro o;refine pI λR=>?_;rw[l.yu.1 R]at o;cases o
 rcases hS with⟨j,rfl,rfl,hE⟩|⟨c,f,o,w,Q,rfl,rfl⟩
 .rcases D with⟨B,rfl,rfl,i⟩|⟨p,q,K,L,h,x,s,u,_,_⟩
  .refine⟨ByteArray.empty,0,0,j,rfl,?_,l⟩
   suffices B=j by rw[this]
   rcases hE with⟨g,rfl⟩|⟨c,f,hE⟩
   .rcases i with⟨_,rfl⟩|⟨p,q,K,L,h,_⟩
    .rfl
    .rw[l.here h.1]at g;cases g
   .rcases i with⟨g,_⟩|⟨p,q,K,L,h,i⟩
    .rw[l.yu.1 g]at f;cases f
    .rw[l.here h.1]at f;injection f with f;subst f;rcases hE with⟨g,rfl⟩|⟨g,⟨m,rfl⟩|⟨m,t,rfl⟩⟩<;>rcases i with⟨z,rfl⟩|⟨z,⟨A,rfl⟩|⟨A,W,rfl⟩⟩<;>first|rfl|exact absurd g z|exact absurd z g|exact absurd (y.2 m) A|exact absurd A (l.yu.2 m)
  .exfalso;rcases hE with⟨g,_⟩|⟨c,f,hE⟩
   .rw[l.here h.1]at g;cases g
   .rw[l.here h.1]at f;injection f with f;subst f;rcases hE with⟨g,_⟩|⟨_,⟨m,_⟩|⟨_,t,_⟩⟩
    .exact x g
    .exact s (y.2 m)
    .exact u t
 .rcases D with⟨B,rfl,rfl,i⟩|⟨p,q,K,L,h,x,s,u,rfl,rfl⟩
  .exfalso;rcases i with⟨g,_⟩|⟨p,q,K,L,h,i⟩
   .rw[l.yu.1 g]at f;cases f
   .rw[l.here h.1]at f;injection f with f;subst f;rcases i with⟨g,_⟩|⟨_,⟨m,_⟩|⟨_,t,_⟩⟩
    .exact o g
    .exact l.yu.2 w m
    .exact Q t
  .have n:=l.here h.1;rw[f]at n;injection n with n;subst n;refine⟨k,c,r,0,rfl,rfl,?_,?_⟩
   .rw[Cq];exact(pK _ _).trans ((l.del h.1).cons _)
   .refine Ck (Ec l.2 k) ?_;by_cases v:k=E
    .subst v;exact Ee
    .rw[vt v];exact w
def UT {k h:U}{c o i j:Nat}{f g:Bool}(n:(Value.tuple [gf k c o,.bool f].toArray)=PF [gf h i j,.bool g]):k=h/\c=i/\o=j/\f=g:=by simp[gf]at n;obtain⟨⟨l,p,q⟩,m⟩:=n;exact⟨l,by omega,by omega,m⟩
def FL.eF {f:Nat}{h:C U}{es:C En}(t:FL a b)(p:h.Perm (keys a))(q:gd h)(i:es.Perm (b.map (iM 2 f)))(l:gd (cE es)):h.map (rk a f)=es:=by
 have m:(cE es).Perm h:=by have j:(cE es).Perm (cE (b.map (iM 2 f))):=i.map _;rw[Gm]at j;exact j.trans (t.ks.trans p.symm)
 have n:=Cx l q m;rw[<-n,cE,jj];refine(k5 λu r=>?_).trans (wc es);obtain⟨g,s,rfl⟩:=dz.1 (i.mem_iff.1 r);show((iM 2 f g).1,(dt a (iM 2 f g).1).getD 0,f)=iM 2 f g;have o:dt a g.1=some g.2.1:=t.sm.2 ⟨g.2.2,s⟩;show(g.1,(dt a g.1).getD 0,f)=(g.1,g.2.1,f);rw[o];rfl
end
section
variable{g:dX}{i:Nat}{c:O}{b:Nat->Prop}{l:cG Nat}{h j:jq}{k:Nat->jq}{a:C Deferred}{e:dD}{f n:C V}{d:O}{m:fj}
def abL {r s:Code}(p:ev e m=some (.bool true))(q:G g i c b l r h j k a e f d):G g i c b l (.cond m r s) h j k a e f d:=zD p (λ_=>q) (λo=>by cases o)
def yf {s r:Code}(p:ev e m=some (.bool false))(q:G g i c b l r h j k a e f d):G g i c b l (.cond m s r) h j k a e f d:=zD p (λo=>by cases o) (λ_=>q)
def WO {o p:Code}:St (G g i c b l (.seq o p) h j k a e f d) (G g i c b l o (λa e f d=>G g i c b l p h j k a e f d) j k a e f d):=iX
def WN {id:Nat}{o:C Oper}(p:zO o):St (G g i c b l (.region id o.toArray false) h j k a e f d) (WL g i c b o.toArray (h a) o e f d):=jF p
def WJ {id:Nat}{o:Code}:St (G g i c b l (.block id o) h j k a e f d) (G g i c b l o h j (xU id h k) a e f d):=vm
def WQ {h:jq}{o:Prop}(p:h a e f d=o):St (G g i c b l .skip h j k a e f d) o:=λq=>zF (p▸q)
def WR {o p:Code}(q:ev e m=some (.bool true)):St (G g i c b l (.cond m o p) h j k a e f d) (G g i c b l o h j k a e f d):=abL q
def WM {p o:Code}(q:ev e m=some (.bool false)):St (G g i c b l (.cond m p o) h j k a e f d) (G g i c b l o h j k a e f d):=yf q
def abP {r:Array Oper}{E:fj}{w:Array dk}{t:fR}{cap:C M}{x:dk}{s:String}{v:Array Edge}{o:C Oper}(D:ev e E=some (.func (.func t) #[] cap.toArray))(B:GL g i c b .none r h o (a++[vf t cap]) e f d)(h0:a=[]):GL g i c b .none r h (⟨.none,.defer {callee:=.value E,args:=#[],argTypes:=w},x,s,v,.none⟩::o) a e f d:=λp u A G z=>
 wpListIn_plain rfl λH y=>by
  refine⟨λ_ _=>trivial,?_⟩;subst h0;have q:(execOp (bk p []).eval ⟨.none,.defer {callee:=.value E,args:=#[],argTypes:=w},x,s,v,.none⟩).run g d=.ok (.defer (vf t cap)) d:=by rw[wE];simp[execOp,resolve,u.eval D,Deferred.ofValue,vf]
  rw[show(sq .none).round=none from rfl,Oper.semAt_none,q];simp only[Oper.uponIn];have:=y _ _ (B _ u A G z);rw[kF]at this;simpa[bk,u.defers,Act.put]using this
def YG {D o t E:Nat}{q:C M}{B:M}{p:TypeDesc}(r:Nat)(A:lk e D=some (.pointer (some ⟨o,0,.none⟩)))(x:g.underlying E=some p)(s:(match p with|.struct _|.array _ _=>false|_=>true)=true)(z:f[r]? =some (cF o q t))(w:q[0]? =some B):∃o,lk e D=some (.pointer (some ⟨o,0,.none⟩))/\∀d,cI c b f d->(loadVar E ⟨o,0,.none⟩).run g d=.ok B d:=by
 refine⟨o,A,λd y=>?_⟩;have u:d.heap[o]? =some (.cells q.toArray t (0,0)):=y.ok z;have v:d.cell? ⟨o,0,.none⟩=some B:=by rw[tL d o 0 q.toArray t (0,0) u];simpa using w
 simp[loadVar,Q6 x s,v]
def fG {o r:Prop}(q:r)(p:St o r:=by first
 |exact WO|exact WN (jB rfl)|exact WJ|exact WQ rfl|exact WR rfl|exact WM rfl):o:=p q
end
def yh (a b:Int):Int:=if b>a then b else a
section
variable{m:dX}{k:Nat}{d:O}{c:Nat->Prop}{t:cG Nat}{r:jq}{e:C Deferred}{i:dD}{p:C V}{o:O}{a:Array Oper}{f:Op}{h:dk}{g:String}{n:Array Edge}{l:Tmp}{j:M}{b:C Oper}{s:M->C V->Prop}{u A B z:fj}{v:IntKind}{w x y q t2:Int}
def PY {T:Array dk}(Q:ev i u=some (.int v w))(R:ev i A=some (.int v x))(S:ev i B=some (.int v y))(L:ev i z=some (.int v q))(K:yh (yh (yh w x) y) q=t2):dp m k d c (.call {callee:=.builtin .max,args:=#[u,A,B,z],argTypes:=T}) h i p (.int v t2):=λG E o H W D X=>by subst K;simp[execOp,H,resolve,invoke,builtin,D.eval Q,D.eval R,D.eval S,D.eval L,Builtin.max_,Builtin.max2,yh]
def GN {G q:Nat}{E:Bool}(ab:(a[G]?).bind (·.dst)=some q)(hl:lk i q=some (.bool E))(T:∀H,f≠.defer H)(L:dp m k d c f h i p j)(hk:GL m k d c t a r b e ((l,j)::i) p o)(P:Nat.blt l k=true:=by rfl):GL m k d c t a r (⟨some l,f,h,g,n,some (G,E)⟩::b) e i p o:=λD R S Q X=>
 wpListIn_step λK W=>by
  have hw:Region.wanted (⟨some l,f,h,g,n,some (G,E)⟩:Oper) (yielded a (bk D e).tmps)=true:=by show Region.wanted _ (yielded a D.tmps)=true;simp[Region.wanted,mO R ab hl]
  rw[cM hw];refine⟨λ_ _=>trivial,?_⟩;rw[Da _ _ _ T,wE,L _ D o rfl rfl R S];simp only[Oper.uponIn];rw[s6];exact W _ _ (hk _ (R.put P j) S Q X)
def QA {L q:Nat}{H:Bool}(hj:(a[L]?).bind (·.dst)=some q)(hl:lk i q=some (.bool H))(ad:∀T,f≠.defer T)(D:eG m k d c f h i p o s)(hk:∀j G R,s j G->GL m k d c t a r b e ((l,j)::i) G R)(hd:Nat.blt l k=true:=by rfl):GL m k d c t a r (⟨some l,f,h,g,n,some (L,H)⟩::b) e i p o:=λE W hh Q hQ=>
 wpListIn_step λK hK=>by
  have hw:Region.wanted (⟨some l,f,h,g,n,some (L,H)⟩:Oper) (yielded a (bk E e).tmps)=true:=by show Region.wanted _ (yielded a E.tmps)=true;simp[Region.wanted,mO W hj hl]
  rw[cM hw];exact HB (e:=m) (c:=λ_ _ _=>False) (A:=λP R=>∃j G,P=E.put (some l) j/\s j G/\cI d c G R) e ad (λ_ _ D=>D) (λ_ _ _ D=>D) (λP R ab=>by obtain⟨j,G,rfl,X,S⟩:=ab;exact hK _ _ (hk j G R X _ (W.put hd j) S Q hQ)) (D _ E _ _ rfl rfl W hh λj G R X S=>⟨j,G,rfl,X,S⟩)
def K0 {H G q:Nat}{E:Bool}{u:fj}{S:C fj}{vs:C M}{ts:Array dk}(W Hr:C V)(hj:(a[G]?).bind (·.dst)=some q)(hl:lk i q=some (.bool E))(hx:ev i u=some (.func (.yield H) #[] #[]))(ah:mB i S=some vs)(hH:p.Perm (W++Hr))(hc:cI d c p o->cI o (gO W) W o->Dj m H vs o (gO W) s)(hk:∀j T w',s j T->GL m k d c .none a r b e ((l,j)::i) (T++Hr) w')(hd:Nat.blt l k=true:=by rfl):GL m k d c .none a r (⟨some l,.call {callee:=.value u,args:=S.toArray,argTypes:=ts},h,g,n,some (G,E)⟩::b) e i p o:=λD X hh Q hQ=>
 wpListIn_step λK hK=>by
  have hw:Region.wanted (⟨some l,.call {callee:=.value u,args:=S.toArray,argTypes:=ts},h,g,n,some (G,E)⟩:Oper) (yielded a (bk D e).tmps)=true:=by show Region.wanted _ (yielded a D.tmps)=true;simp[Region.wanted,mO X hj hl]
  rw[cM hw];refine⟨λ_ _=>trivial,?_⟩;have P:(S.toArray.map D.eval)=vs.toArray:=by apply lS;simpa using X.wM _ ah
  have L:=hh.perm hH;obtain⟨fn,af,assign,ad,hy,R⟩:=hc hh (B2 L);have ae:(execOp D.eval ⟨some l,.call {callee:=.value u,args:=S.toArray,argTypes:=ts},h,g,n,some (G,E)⟩).run m o=.ok (.round H fn af assign ad) o:=by simp only[execOp,resolve,X.eval hx,Deferred.ofValue,invoke,P,ke,ku,j8,IX,E4,hy]
  rw[Da _ _ _ (by simp),wE,ae];refine⟨λab=>(by cases ab),R.mono ?_⟩;rintro ai w' ⟨j,T,rfl,ag,hp⟩;dsimp only;rw[s6];exact hK _ _ (hk j T w' hp _ (X.put hd j) (L.call ag) Q hQ)
def aje (E:dp m k d c f h i p j)(G:∀D,f≠.defer D)(H:Nat.blt l k=true):St (GL m k d c t a r (⟨some l,f,h,g,n,.none⟩::b) e i p o) (GL m k d c t a r b e ((l,j)::i) p o):=λK=>wT G E K H
def ajf {E q:Nat}{D:Bool}(Q:(a[E]?).bind (·.dst)=some q)(S:lk i q=some (.bool D))(H:dp m k d c f h i p j)(K:∀G,f≠.defer G)(L:Nat.blt l k=true):St (GL m k d c t a r (⟨some l,f,h,g,n,some (E,D)⟩::b) e i p o) (GL m k d c t a r b e ((l,j)::i) p o):=λR=>GN Q S K H R L
def Qz {G:dD}(E:C Nat)(D:keep i E=some G)(H:r e G p o):GL m k d c t a r [] e i p o:=KZ G (ti D) H
end
def sg {b a:Prop}(e:a)(d:St b a:=by
 (first|apply aje|apply ajf rfl rfl)
 .first
  |exact rh rfl|exact BN rfl|exact JL rfl|(first|exact tQ 0 rfl rfl rfl rfl|exact tQ 1 rfl rfl rfl rfl|exact tQ 2 rfl rfl rfl rfl|exact tQ 3 rfl rfl rfl rfl)
  |exact P0 rfl rfl|exact P1 rfl rfl|exact NY rfl rfl (by omega)|exact NZ rfl rfl (by omega)|exact gA rfl rfl|exact kH rfl rfl|exact oh rfl rfl|exact wD rfl|exact JM rfl
 all_goals first|rfl|(intro f c;cases c)):b:=d e
section
variable{e:dX}{h:Nat}{d:O}{b:Nat->Prop}{f:dD}{g:C V}{a:O}{c:dk}
def KH {i t2:dk}{ok:Bool}{q:fj}{p o:M}(n:ev f q=some p)(m:∀a,(Instr.typeAssert p i t2 ok).run e a=.ok o a):dp e h d b (.typeAssert q i t2 ok) c f g o:=λt j a k r l s=>by simp[execOp,k,l.eval n,m]
end
end Go.Proofs.YtdlpoonfcdoiiaaGreat
