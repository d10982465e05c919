/- What the code does, step by step, and plain facts: part 2. They have no conditions. -/
import Derived.Test.YtdlpoonfcdoiiaaGreatMB1
namespace Go.Proofs.YtdlpoonfcdoiiaaGreat
open Go.RowKit Go.Proofs.Tryz
set_option maxHeartbeats 40000000
set_option linter.all false
section
variable{c:dX}{a:Array Oper}{e:Exit->Act->O->Prop}{b:Region.Mode}{d:Array Bool->O->Prop}
def yN (c:dX)(b:Region.Mode)(a:Array Oper)(e:Exit->Act->O->Prop)(d:Array Bool->O->Prop):Nat->Array Bool->Act->O->Prop
 |0,f,g,j=>Region.ready b a f=[]/\e .normal g j
 |h+1,f,g,j=>
  (Region.ready b a f=[]->e .normal g j)/\
  ∀l∈Region.ready b a f,wpOp c a e l (λk i=>d (f.setIfInBounds l true) i/\yN c b a e d h (f.setIfInBounds l true) k i) g j
def IF:∀(f:Nat)(g:Array Bool)(h:Act)(n:O),yN c b a e d f g h n->wpAny c b a e f g h n
 |0,_,_,_,i=>i
 |f+1,_,_,_,i=>⟨i.1,λo l=>wpOp_mono (λj m k=>IF f _ j m k.2) (i.2 o l)⟩
def uG (b:Region.Mode)(a:Array Oper)(f:Array Bool):Prop:=∀(h:Nat)(i:Oper),a[h]? =some i->f.getD h false=true->∀g∈i.after,Region.binds b g=true->f.getD g.on false=true
def uG.step {f:Array Bool}(r:uG b a f){p:Nat}(o:p∈Region.ready b a f):uG b a (f.setIfInBounds p true):=by
 intro q s n m h l k;by_cases i:q=p
 .subst i;obtain⟨_,t,g,j⟩:=Dc.1 o;rw[n]at g;injection g with g;subst g;exact getD_set_true (j h l k)
 .rw[xL false (uR i)]at m;exact getD_set_true (r q s n m h l k)
def uF (g f:Array Bool):Prop:=∀h,g.getD h false=true->f.getD h false=true
def qx (c:dX)(b:Region.Mode)(a:Array Oper)(d:Array Bool->O->Prop)(h:Array Bool)(l:Nat)(i:Oper)(k:M)(g:Act):Prop:=(Region.wanted i (yielded a g.tmps)=true/\∀f j,uF h f->f.getD l true=false->uG b a f->d f j->(execOp g.eval i).run c j=.ok (.value k) j)\/(Region.wanted i (yielded a g.tmps)=false/\k=undef)
def qx.of_same {g:Array Bool}{m:Nat}{i:Oper}{n:M}{f h:Act}(l:qx c b a d g m i n f)(j:execOp h.eval i=execOp f.eval i)(k:Region.wanted i (yielded a h.tmps)=Region.wanted i (yielded a f.tmps)):qx c b a d g m i n h:=by unfold qx at*;rw[j,k];exact l
def qx.WG {g f:Array Bool}{n:Nat}{p:Oper}{q:M}{h:Act}(m:qx c b a d g n p q h)(r:uF g f):qx c b a d f n p q h:=m.imp (λ⟨i,j⟩=>⟨i,λs t l=>j s t (λo k=>l o (r o k))⟩) id
def qx.wpOp {f:Array Bool}{j:Nat}{q:Oper}{s:M}{g:Act}(m:a[j]? =some q)(p:qx c b a d f j q s g){r:Act->O->Prop}{k:O}(n:f.getD j true=false)(l:uG b a f)(hS:d f k)(i:r (g.put q.dst s) k):wpOp c a e j r g k:=by
 unfold Go.wpOp;simp only[m];rcases p with⟨h,o⟩|⟨h,rfl⟩
 .simp only[h,pO,Oper.wp,o f k (λ_ i=>i) n l hS,Oper.upon];exact .inl i
 .simp only[h,vW,r7];exact i
def atr {h:Array Bool}{R W:Nat}{i k:Oper}{o:M}(T:a[W]? =some k)(L:i.apart a k=true)(Q:∀z l,i.op≠.select z l)(y:∀z l,k.op≠.select z l)(K:∀m g E,e (.panic m) (g.put i.dst o) E->e (.panic m) g E){X:Act->O->Prop}{g:Act}{E:O}(n:qx c b a d h R i o g)(p:wpOp c a e W X (g.put i.dst o) E):wpOp c a e W (λG D=>qx c b a d h R i o G/\X (G.put i.dst o) D) g E:=by
 obtain⟨A,s,H⟩:=Oper.apart_spec L;have keep:∀(g:Act),qx c b a d h R i o g->∀r,qx c b a d h R i o (g.put k.dst r):=λg n r=>
  n.of_same (execOp_put i Q g k.dst r H) (wanted_put i g k.dst r H)
 have v:∀j,qx c b a d h R i o {g with defers:=j::g.defers}:=λj=>n.of_same rfl rfl;unfold wpOp at*;simp only[T]at*;rw[wanted_put k g i.dst o A]at p;split
 .rename_i B;simp only[B,pO]at p;rcases p with p|⟨q,u⟩
  case inr=>exact .inr ⟨by unfold Oper.asks at*;rw[execOp_put k y g i.dst o A]at q;exact q,u⟩
  refine .inl ?_;unfold Oper.wp at*;rw[execOp_put k y g i.dst o A]at p;generalize(execOp g.eval k).run c E=ab at*;cases ab with
  |ok P D=>
   cases P<;>simp only[Oper.upon]at p|-
   case value r=>exact⟨keep g n r,by rw[<-AF g o r s];exact p⟩
   case skip=>exact⟨keep g n _,by rw[<-AF g o undef s];exact p⟩
   case defer j=>refine⟨keep _ (v j) _,?_⟩;rw[<-AF _ o undef s,<-Act.put_defers];exact p
   case enter f args=>
    refine nY p λw S t=>?_;cases w with
    |returned r=>exact⟨keep g n r,by rw[<-AF g o r s];exact t⟩
    |panicked m=>exact K _ _ _ t
    |outgrown=>exact t
   case row row args=>exact Rows.mono p λr S t=>⟨keep g n r,by rw[<-AF g o r s];exact t⟩
  |halt x D=>
   cases x<;>simp only[Oper.upon]at p|-
   case panic r=>exact K _ _ _ p
 .rename_i B;simp only[B]at p;exact⟨keep g n _,by rw[<-AF g o undef s];exact p⟩
def Dk (f:Array Bool)(h:Nat):uF f (f.setIfInBounds h true):=λ_ g=>getD_set_true g
def Vm {t:Nat}{q:Oper}{v:M}(X:a[t]? =some q)(E:∀(n:Nat)(o:Oper) w k,a[n]? =some o->o.op≠.select w k)
 (hQ:∀u i G,e (.panic u) (i.put q.dst v) G->e (.panic u) i G) (x:∀f G,d (f.setIfInBounds t true) G↔d f G):
 ∀(l:Nat)(f:Array Bool)(i:Act)(G:O),(∀n r,a[n]? =some r->n≠t->f.getD n true=false->(∀g∈r.after,Region.binds b g=true->g.on≠t)->q.apart a r=true)->t∈Region.ready b a f->qx c b a d f t q v i->uG b a f->d f G->yN c b a e d l (f.setIfInBounds t true) (i.put q.dst v) G->yN c b a e d (l+1) f i G:=by
 intro l
 induction l with
 |zero=>
  intro f i G _ m K H hS ad;have B:=(Dc.1 m).1;refine⟨λh=>(by rw[h]at m;cases m),λn z=>?_⟩;by_cases j:n=t
  .subst j;exact K.wpOp X B H hS ⟨(x _ _).2 hS,ad⟩
  .have:=ready_mono z j;rw[ad.1]at this;cases this
 |succ l ih=>
  intro f i G s m K H hS ad;have B:=(Dc.1 m).1;refine⟨λh=>(by rw[h]at m;cases m),λn z=>?_⟩;by_cases j:n=t
  .subst j;exact K.wpOp X B H hS ⟨(x _ _).2 hS,ad⟩
  .have p:=ad.2 n (ready_mono z j);obtain⟨A,r,D,W⟩:=Dc.1 z;have P:∀g∈r.after,Region.binds b g=true->g.on≠t:=λg he hb ae=>by
    have p:=W g he hb;have h0:=(Dc.1 m).1;rw[ae]at p;rcases np t f.size with S|S
    .simp[S]at h0 p;rw[h0]at p;cases p
    .simp[IY S]at p
   have h2:=atr D (s n r D j A P) (λw k=>E t q w k X) (λw k=>E n r w k D) hQ K p;have y:∀ab ok,a[ab]? =some ok->ab≠t->(f.setIfInBounds n true).getD ab true=false->(∀g∈ok.after,Region.binds b g=true->g.on≠t)->q.apart a ok=true:=λab ok hk af R ag=>by
    refine s ab ok hk af ?_ ag;by_cases Q:n=ab
    .subst Q;exact A
    .rw[xL true Q]at R;exact R
   refine wpOp_mono (λa' w' T=>?_) h2;have L:d (f.setIfInBounds n true) w':=by have:=T.2.1;rw[Array.setIfInBounds_comm _ _ (uR j)]at this;exact(x _ _).1 this
   refine⟨L,ih (f.setIfInBounds n true) a' w' y (ready_mono m (uR j)) (T.1.WG (Dk _ _)) (H.step z) L ?_⟩;rw[Array.setIfInBounds_comm _ _ j];exact T.2.2
def Dz (a:Array Oper):Nat->Nat->Nat->Bool
 |0,_,_=>false
 |i+1,f,h=>match a[f]?with
  |some j=>j.after.toList.any λg=>Region.binds .any g&&(Nat.beq g.on h||Dz a i g.on h)
  |.none=>false
def ON {g:Array Bool}(m:uG .any a g):∀(o f n:Nat),Dz a o f n=true->g.getD f false=true->g.getD n false=true
 |0,_,_,l,_=>by cases l
 |o+1,f,n,l,p=>by
  simp only[Dz]at l;split at l
  .rename_i s q;obtain⟨r,k,j⟩:=List.any_eq_true.1 l;have k:=Array.mem_toList_iff.1 k;simp only[iu,jh]at j;have h:=m f s q p r k j.1;rcases j.2 with i|i
   .rw[r5 i]at h;exact h
   .exact ON m o r.on n i h
  .cases l
end
section
variable{p:dX}{n:Nat}{f:O}{e:Nat->Prop}{s t:fJ}{u:Nat->fJ}{h:dD}{m:C V}{k:O}{b:Array Oper}{i:Op}{j:dk}{g:String}{l:Array Edge}{o:M}{r:M->C V->Prop}{q:Nat}
abbrev iR:=V×cG Nat
def kx (v:Array Bool):C iR->C V
 |[]=>[]
 |(x,.none)::w=>x::kx v w
 |(x,some y)::w=>bif v.getD y false then kx v w else x::kx v w
def ld (c:Nat):C iR->C iR
 |[]=>[]
 |(w,.none)::v=>(w,.none)::ld c v
 |(w,some x)::v=>bif Nat.beq x c then ld c v else(w,some x)::ld c v
def j3:C iR->C V
 |[]=>[]
 |(w,_)::v=>w::j3 v
def tu (b:Array Oper)(c:Nat):C iR->C V
 |[]=>[]
 |(w,.none)::v=>w::tu b c v
 |(w,some x)::v=>bif Dz b b.size x c then w::tu b c v else tu b c v
def nP (c:Nat):C iR->Bool
 |[]=>true
 |(_,.none)::v=>nP c v
 |(_,some w)::v=> !Nat.beq w c&&nP c v
def WK (p:dX)(n:Nat)(f:O)(e:Nat->Prop)(b:Array Oper)(s:fJ):C iR->C (Nat×Bool)->dD->C V->O->Prop
 |a,[],h,m,k=>∃B E,kf B h/\(∃G,(j3 a++m).Perm (E++G))/\s B E k
 |a,(c,true)::d,h,m,k=>∃q i j g l y o,b[c]? =some ⟨some q,i,j,g,l,y⟩/\Nat.blt q n=true/\nP c a=true/\((dp p n f e i j h (tu b c a) o/\(y=.none\/∃x w v,y=some (x,w)/\(b[x]?).bind (·.dst)=some v/\lk h v=some (.bool w)))\/(o=undef/\∃x w v,y=some (x,w)/\(b[x]?).bind (·.dst)=some v/\(lk h v=some (.bool !w)\/lk h v=some undef)))/\WK p n f e b s a d ((q,o)::h) m k
 |a,(c,false)::d,h,m,k=>∃dst i j g l,b[c]? =some ⟨dst,i,j,g,l,.none⟩/\(match dst with|some q=>Nat.blt q n=true|.none=>True)/\∃r,eG p n f e i j h (j3 a++m) k r/\∀o A D,r o A->∃z,A.Perm (j3 (ld c a)++z)/\WK p n f e b s (ld c a) d (match dst with|some q=>(q,o)::h|.none=>h) z D
def Bt {v:Array Bool}{c:Nat}(A:uG .any b v)(z:v.getD c true=false):∀(G:C iR),(tu b c G).Sublist (kx v G)
 |[]=>gq _
 |(y,.none)::x=>(Bt A z x).cons_cons y
 |(y,some w)::x=>by
  simp only[tu,kx];cases D:Dz b b.size w c with
  |false=>
   simp only[oG];cases v.getD w false with
   |true=>exact Bt A z x
   |false=>exact(Bt A z x).cons y
  |true=>
   have:v.getD w false=false:=by
    cases E:v.getD w false with
    |false=>rfl
    |true=>
     have:=ON A _ w c D E;rcases np c v.size with B|B
     .simp[B]at this z;rw[this]at z;cases z
     .simp[IY B]at this
   simp only[this,n0,oG];exact(Bt A z x).cons_cons y
def FT {x:Array Bool}{c:Nat}:∀(B:C iR),nP c B=true->kx (x.setIfInBounds c true) B=kx x B
 |[],_=>rfl
 |(z,.none)::w,v=>by simp only[kx];rw[FT w v]
 |(z,some y)::w,v=>by
  simp only[nP,iu,yS]at v;have A:c≠y:=λD=>by subst D;simp at v
  simp only[kx];rw[xL false A,FT w v.2]
def Dm {v:Array Bool}{c:Nat}(z:c<v.size):∀(E:C iR),kx (v.setIfInBounds c true) E=kx v (ld c E)
 |[]=>rfl
 |(A,.none)::x=>by simp only[kx,ld];rw[Dm z x]
 |(A,some w)::x=>by
  simp only[kx,ld];by_cases y:w=c
  .subst y;simp only[pN,n0];have:(v.setIfInBounds w true).getD w false=true:=by simp[z]
   rw[this];exact Dm z x
  .have B:Nat.beq w c=false:=by
    cases D:Nat.beq w c with
    |false=>rfl
    |true=>exact absurd (r5 D) y
   simp only[B,oG,kx];rw[xL false (uR y),Dm z x]
def Bs {z:Array Bool}:∀(B:C iR),(∀w v,(w,some v)∈B->z.getD v false=false)->kx z B=j3 B
 |[],_=>rfl
 |(w,.none)::y,x=>by simp only[kx,j3];rw[Bs y λw v A=>x w v (dN _ A)]
 |(w,some v)::y,x=>by simp only[kx,j3];rw[x w v (dQ ..),Bs y λw v A=>x w v (dN _ A)];rfl
def Ea {c:Nat}:∀(K:C iR)(x:V)(w:Nat),(x,some w)∈ld c K->(x,some w)∈K/\w≠c
 |[],_,_,v=>by simp[ld]at v
 |(A,.none)::y,x,w,v=>by
  simp only[ld,dh]at v;rcases v with v|v
  .cases v
  .have:=Ea y x w v;exact⟨dN _ this.1,this.2⟩
 |(A,some B)::y,x,w,v=>by
  simp only[ld]at v;by_cases z:B=c
  .subst z;simp only[pN,n0]at v;have:=Ea y x w v;exact⟨dN _ this.1,this.2⟩
  .have G:Nat.beq B c=false:=by
    cases H:Nat.beq B c with
    |false=>rfl
    |true=>exact absurd (r5 H) z
   simp only[G,oG,dh]at v;rcases v with v|v
   .injection v with E D;injection D with D;subst E;subst D;exact⟨dQ ..,z⟩
   .have:=Ea y x w v;exact⟨dN _ this.1,this.2⟩
def ID {W:C iR}(ao:Region.noSelect b=true)(Q:Exit->Act->O->Prop)(ah:∀al z k,¬Q (.panic al) z k)
 (hQ:∀a' w',(∃m' H',Fr n m' a'/\cI f e H' w'/\s m' H' w')->Q .normal a' w'):
 ∀(d:C (Nat×Bool))(R:Nat)(w:Array Bool)(a:C iR)(h:dD)(m:C V)(z:Act)(k:O),d.length<=R->w.size=b.size->ou b w d=true->uG .any b w->(∀v,uF w v->v.size=b.size->kx v W=kx v a)->(∀B A,(B,some A)∈a->w.getD A false=false)->Fr n h z->cI f e (j3 a++m) k->WK p n f e b s a d h m k->(∀c,(c,true)∈d->nP c W=true)->yN p .any b Q (λv w'=>v.size=b.size/\∃H',cI f e (kx v W++H') w') R w z k
 |[],R,w,a,h,m,z,k,_,_,H,_,_,_,X,hh,hd,_=>by
  obtain⟨m',L,hs,⟨E,hE⟩,hN⟩:=hd;have hh:=hh.pick hE;simp only[ou,Fj]at H;cases R with
  |zero=>exact⟨H,hQ z k ⟨m',_,X.sub hs,hh,hN⟩⟩
  |succ aL=>exact⟨λ_=>hQ z k ⟨m',_,X.sub hs,hh,hN⟩,by rw[H];simp⟩
 |(c,true)::d,0,_,_,_,_,_,_,hl,_,_,_,_,_,_,_,_,_=>by simp at hl
 |(c,false)::d,0,_,_,_,_,_,_,hl,_,_,_,_,_,_,_,_,_=>by simp at hl
 |(c,true)::d,R+1,w,a,h,m,z,k,hl,T,H,hc,ad,ak,X,hh,hd,aj=>by
  obtain⟨q,i,j,g,l,aM,o,hi,am,_,hv,ar⟩:=hd;simp only[ou,n0,iu]at H;have S:c∈Region.ready .any b w:=by simpa using H.1.2
  have aD:=aj c (dQ ..);have aw:c<w.size:=by rw[T];exact(mS.1 hi).1
  have P:∀v,uF (w.setIfInBounds c true) v->v.size=b.size->kx v W=kx v a:=λv aE=>ad v (λD hj=>aE D (Dk _ _ D hj));have aB:nP c a=true:=by assumption
  have af:∀B A,(B,some A)∈a->(w.setIfInBounds c true).getD A false=false:=by
   intro B A K;have aF:c≠A:=by
    rintro rfl;have aI:∀L:C iR,nP c L=true->(B,some c)∉L:=by
     intro L;induction L with
     |nil=>simp
     |cons x L ih=>
      obtain⟨aK,y⟩:=x;cases y with
      |none=>
       intro G K;rcases dh.1 K with K|K
       .cases K
       .exact ih G K
      |some y=>
       intro G K;simp only[nP,iu,yS]at G;rcases dh.1 K with K|K
       .injection K with _ K;injection K with K;subst K;simp at G
       .exact ih G.2 K
    exact aI a aB K
   rw[xL false aF];exact ak B A K
  refine Vm hi (Region.noSelect_spec ao) (λal z k G=>(ah _ _ _ G).elim) ?_ R w z k (Region.free_spec hi H.1.1) S ?_ hc ⟨T,m,?_⟩ (ID ao Q ah hQ d R _ a ((q,o)::h) m _ k (by simpa using hl) (by simpa using T) H.2 (hc.step S) P af (X.put am o) hh ar (λy hk=>aj y (dN _ hk)))
  .intro v w';rw[FT W aD];simp
  .rcases hv with⟨hf,hg⟩|⟨rfl,D,au,aq,rfl,hj,ae⟩
   .refine .inl ⟨?_,λv w' ab az aC ⟨aA,H',ai⟩=>hf _ z w' rfl rfl X ?_⟩
    .rcases hg with rfl|⟨D,au,aq,rfl,hj,ae⟩
     .rfl
     .simp[Region.wanted,mO X hj ae]
    .rw[ad v ab aA]at ai;exact(ai.j0 (mr _ _)).j0 (Bt aC az a)
   .refine .inr ⟨?_,rfl⟩;rcases ae with ae|ae
    .simp[Region.wanted,mO X hj ae]
    .simp[Region.wanted,An X hj ae]
  .rw[ad w (λ_ G=>G) T,Bs a ak];exact hh
 |(c,false)::d,R+1,w,a,h,m,z,k,hl,T,H,hc,ad,ak,X,hh,hd,aj=>by
  obtain⟨dst,i,j,g,l,hi,am,r,he,hk⟩:=hd;simp only[ou,oG,iu,uT]at H;refine⟨λh0=>absurd (H.1▸h0) (by simp),λy ay=>?_⟩;obtain rfl:y=c:=by rw[H.1]at ay;simpa using ay
  have S:y∈Region.ready .any b w:=by rw[H.1];simp
  have aw:y<w.size:=by rw[T];exact(mS.1 hi).1
  have aJ:∀o,Fr n (match dst with|some q=>(q,o)::h|.none=>h) (z.put dst o):=by
   intro o;cases dst with
   |none=>exact X
   |some q=>exact X.put am o
  have hw:Region.wanted (⟨dst,i,j,g,l,.none⟩:Oper) (yielded b z.tmps)=true:=rfl;have af:∀B A,(B,some A)∈ld y a->(w.setIfInBounds y true).getD A false=false:=by intro B A K;obtain⟨h1,h2⟩:=Ea a B A K;rw[xL false (uR h2)];exact ak B A h1
  have ap:∀v:Array Bool,uF (w.setIfInBounds y true) v->v.size=b.size->v=v.setIfInBounds y true:=by
   intro v ab ag;have:v.getD y false=true:=ab y (by simp[aw]);apply Array.ext
   .simp
   .intro D h1 h2;by_cases ax:D=y
    .subst ax;have h3:v[D]? =some v[D]:=yR h1;simp[h3]at this;simp[this]
    .rw[Np h1 (uR ax)]
  have P:∀v,uF (w.setIfInBounds y true) v->v.size=b.size->kx v W=kx v (ld y a):=by intro v ab ag;rw[ad v (λD hj=>ab D (Dk _ _ D hj)) ag];rw[ap v ab ag,Dm (by rw[ag];exact(mS.1 hi).1) a,<-ap v ab ag]
  unfold wpOp;simp only[hi,hw,pO];refine .inl (he _ z _ Q rfl rfl X hh λo H' w' hp ai=>?_);obtain⟨av,aG,aH⟩:=hk o H' w' hp;have an:=ai.perm aG;refine⟨⟨by simpa using T,av,?_⟩,ID ao Q ah hQ d R _ (ld y a) _ av _ w' (by simpa using hl) (by simpa using T) H.2 (hc.step S) P af (aJ o) an aH (λD hj=>aj D (dN _ hj))⟩;rw[P _ (λ_ G=>G) (by simpa using T),Bs _ af];exact an
def FU (d:C (Nat×Bool))(a:C iR):Bool:=d.all λ(c,fl)=> !fl||nP c a
def U7 {id:Nat}(d:C (Nat×Bool))(a:C iR)(Hm:C V)(T:p.follows .mixedOrders=true)(B:Region.noSelect b=true)(D:ou b (Array.replicate b.size false) d=true)(y:Nat.ble d.length b.size=true)(A:FU d a=true)(L:m.Perm (j3 a++Hm))(v:∀w',WK p n f e b s a d h Hm w'):W p n f e (.region id b true) s t u h m k:=λw Q R=>by
 have z:=(R.perm L).drew;refine wp_region_any T (IF _ _ _ _ (ID (W:=a) B _ (λ_ _ _ v=>v) (λ_ _ X=>X) d _ _ a h Hm w _ (qs y) (by simp) D ?_ (λ_ _ _=>rfl) ?_ Q z (v _) ?_))
 .intro G H _ x;simp only[AG,AH]at x;split at x<;>simp at x
 .intro K E _;simp only[AG,AH];split<;>simp
 .intro c S;have:=yW.1 A (c,true) S;simpa using this
variable{a:C iR}{d:C (Nat×Bool)}{c:Nat}
def ew (y:b[c]? =some ⟨some q,i,j,g,l,.none⟩)(v:dp p n f e i j h (tu b c a) o)(z:WK p n f e b s a d ((q,o)::h) m k)(x:Nat.blt q n=true:=by rfl)(w:nP c a=true:=by rfl):WK p n f e b s a ((c,true)::d) h m k:=⟨q,i,j,g,l,.none,o,y,x,w,.inl ⟨v,.inl rfl⟩,z⟩
def gY (z:b[c]? =some ⟨some q,i,j,g,l,.none⟩)(v:eG p n f e i j h (j3 a++m) k r)(A:∀o x B,r o x->∃w,x.Perm (j3 (ld c a)++w)/\WK p n f e b s (ld c a) d ((q,o)::h) w B)(y:Nat.blt q n=true:=by rfl):WK p n f e b s a ((c,false)::d) h m k:=⟨some q,i,j,g,l,z,y,r,v,A⟩
def jC (y:b[c]? =some ⟨.none,i,j,g,l,.none⟩)(v:eG p n f e i j h (j3 a++m) k r)(z:∀o x A,r o x->∃w,x.Perm (j3 (ld c a)++w)/\WK p n f e b s (ld c a) d h w A):WK p n f e b s a ((c,false)::d) h m k:=⟨.none,i,j,g,l,y,trivial,r,v,z⟩
def M3 (w:dD)(x:kf w h)(v:s w (j3 a++m) k):WK p n f e b s a [] h m k:=⟨w,_,x,⟨[],by simp⟩,v⟩
def ate (w:dD)(A:C Nat){x B:C V}(z:kf w h)(y:pick A (j3 a++m)=some (x,B))(v:s w x k):WK p n f e b s a [] h m k:=⟨w,x,z,⟨B,de _ _ y⟩,v⟩
end
def c8 (d:Nat){a:C V}{e:V}{c:C V}(b:pick [d] a=some ([e],c)):a.Perm (e::c):=de [d] a b
def yy:C V->O->Prop
 |[],_=>True
 |c::a,d=>c.ok d/\(∀e∈a,∀b,c.fq b->¬e.fq b)/\yy a d
def Sa:∀(d:C V)(e a:O),(∀c,gO d c->a.heap[c]? =e.heap[c]?)->yy d e->yy d a
 |[],_,_,_,_=>trivial
 |k::d,e,a,j,⟨f,g,h⟩=>⟨k.loc e a (λc b=>j c ⟨k,dQ ..,b⟩) f,g,Sa d e a (λc ⟨l,i,b⟩=>j c ⟨l,dN _ i,b⟩) h⟩
def cz (L:C V):V where
 fq:=gO L
 ok:=yy L
 loc:=Sa L
def K9 {i l:O}{e:Nat->Prop}:∀{j:C V},Hs i e j l↔yy j l/\∀b,gO j b->b<l.heap.size/\(i.heap.size<=b\/e b)
 |[]=>⟨λ_=>⟨trivial,by rintro b ⟨q,o,_⟩;cases o⟩,λ_=>trivial⟩
 |q::j=>by
  have k:=K9 (i:=i) (l:=l) (e:=e) (j:=j);constructor
  .rintro⟨⟨f,m,g⟩,n⟩;obtain⟨h,d⟩:=k.1 n;refine⟨⟨f,g,h⟩,?_⟩;rintro b ⟨p,c,a⟩;rcases dh.1 c with rfl|c
   .exact m b a
   .exact d b ⟨p,c,a⟩
  .rintro⟨⟨f,g,h⟩,d⟩;exact⟨⟨f,λb a=>d b ⟨q,dQ ..,a⟩,g⟩,k.2 ⟨h,λb ⟨p,c,a⟩=>d b ⟨p,dN _ c,a⟩⟩⟩
def cI.cz {h o:O}{g:Nat->Prop}{L H:C V}:cI h g (L++H) o↔cI h g (cz L::H) o:=by
 unfold cI;refine and_congr_right λ_=>?_;rw[Hs.append];constructor
 .rintro⟨i,a,j⟩;obtain⟨b,c⟩:=K9.1 i;refine⟨⟨b,c,?_⟩,a⟩;rintro n f l ⟨m,e,d⟩;exact j m e n f l d
 .rintro⟨⟨b,c,k⟩,a⟩;exact⟨K9.2 ⟨b,c⟩,a,λm e n f l d=>k n f l ⟨m,e,d⟩⟩
section
variable{f:dX}{h:Nat}{b:O}{a:Nat->Prop}{e i:fJ}{j:Nat->fJ}{g:dD}{d:C V}{c:O}
def lh {k:Code}{n:C V}(m:cI b a d c->cI b a n c)(q:W f h b a k e i j g n c):W f h b a k e i j g d c:=λl o p=>q l o (m p)
def dG {k:Code}(m:C V)(l:W f h b a k e i j g (cz m::d) c):W f h b a k e i j g (m++d) c:=lh cI.cz.1 l
def eu {k:Code}(m:C V)(l:W f h b a k e i j g (m++d) c):W f h b a k e i j g (cz m::d) c:=lh cI.cz.2 l
def vL {m:Array Oper}{r:C Oper}{n:C V}(l:cI b a d c->cI b a n c)(q:WL f h b a m e r g n c):WL f h b a m e r g d c:=λk o p=>q k o (l p)
def qh {k:Array Oper}{n:C Oper}(m:C V)(l:WL f h b a k e n g (cz m::d) c):WL f h b a k e n g (m++d) c:=vL cI.cz.1 l
def CK {k:Array Oper}{n:C Oper}(m:C V)(l:WL f h b a k e n g (m++d) c):WL f h b a k e n g (cz m::d) c:=vL cI.cz.2 l
end
def um:∀{c:C V}{e:O}{f:Nat}{d:V},yy c e->c[f]? =some d->d.ok e
 |[],_,_,_,_,b=>by simp at b
 |g::c,e,0,d,b,a=>by simp at a;subst a;exact b.1
 |g::c,e,f+1,d,b,a=>um b.2.2 (by simpa using a)
def cI.okB {e i:O}{a:Nat->Prop}{f g:C V}(b:cI e a f i){j k:Nat}{h:V}(c:f[j]? =some (Proofs.YtdlpoonfcdoiiaaGreat.cz g))(d:g[k]? =some h):h.ok i:=um (b.ok c) d
def nB {k q:O}{e:Nat->Prop}{l m:C V}{o b d:Nat}{j:M}{c:C M}(g:cI k e l q){s t:Nat}(h:l[s]? =some (cz m))(i:m[t]? =some (row j o b d c))(r:0<d:=by omega):∃f cap,j=.slice (some ⟨f,0,.none⟩) d cap:=by
 have a:q.ownsRow 0 o b j d c:=g.okB h i;rcases a.2 with⟨_,p⟩|⟨f,cap,n,p,_⟩
 .omega
 .exact⟨f,cap,p⟩
def HQ {k p:O}{d:Nat->Prop}{l m:C V}{o b i:Nat}{j:M}{c:C M}(f:cI k d l p){r s:Nat}(g:l[r]? =some (cz m))(h:m[s]? =some (row j o b i c)):∃q cap,j=.slice q i cap:=by
 have a:p.ownsRow 0 o b j i c:=f.okB g h;rcases a.2 with⟨e,rfl⟩|⟨t,cap,n,e,_⟩
 .exact⟨_,_,e⟩
 .exact⟨_,_,e⟩
def Rd.qD {g l:O}{c:Nat->Prop}{h i:C V}{m a j:Nat}{k:M}{b:C M}(d:cI g c h l){n o:Nat}(e:h[n]? =some (cz i))(f:i[o]? =some (row k m a j b)):Rd l cW a k j b:=xe (d.okB e f)
section
variable{c:dX}{n:Nat}{g:O}{b:Nat->Prop}{j:dD}{h i:C V}{f:O}{e:dk}{k:fj}{l:M}{d m a:Nat}
def aaZ {o q v:Nat}{r:C M}{p:TypeDesc}(s t:Nat)(D:ev j k=some (.pointer (some ⟨o,q,.none⟩)))(z:h[s]? =some (cz i))(A:i[t]? =some (cF o r v))(x:c.underlying d=some p)(u:(match p with|.struct _|.array _ _=>false|_=>true)=true)(B:r[q]? =some l):dp c n g b (.load d k) e j h l:=BR D x u λf y=>by have w:f.heap[o]? =some (.cells r.toArray v (0,0)):=y.okB z A;rw[tL f o q r.toArray v (0,0) w];simpa using B
def PU {o cap p r:Nat}{v:C M}{q:TypeDesc}(s t:Nat)(B:ev j k=some (.pointer (some ⟨o,r,.none⟩)))(y:h[s]? =some (cz i))(z:i[t]? =some (row (.slice (some ⟨o,0,.none⟩) p cap) m a p v))(w:c.underlying d=some q)(u:(match q with|.struct _|.array _ _=>false|_=>true)=true)(A:v[r]? =some l):dp c n g b (.load d k) e j h l:=BR B w u λf x=>by have:=(show f.ownsRow 0 m a (.slice (some ⟨o,0,.none⟩) p cap) p v from x.okB y z).cells (g:=o) rfl r l A;rw[pQ]at this;simpa using this
def PW {o cap p s:Nat}{r x:C M}{q:TypeDesc}(t u:Nat)(H:ev j k=some (.pointer (some ⟨o,s,.none⟩)))(B:h[t]? =some (cz i))(D:i[u]? =some (row (.slice (some ⟨o,0,.none⟩) p cap) m a p x))(z:c.underlying d=some q)(v:(match q with|.struct _|.array _ _=>true|_=>false)=true)(E:(c.info? d).map (·.size)=some r.length)(G:(x.drop s).take r.length=r):dp c n g b (.load d k) e j h (.agg r.toArray):=DW H z v E λf A y L w=>by have K:y<r.length:=(da.1 w).1;rw[<-G,mT,cM (by omega),kQ]at w;have:=(show f.ownsRow 0 m a (.slice (some ⟨o,0,.none⟩) p cap) p x from A.okB B D).cells (g:=o) rfl (s+y) L w;rw[pQ]at this;simpa using this
end
def kJ:Nat->C V->cG (C V×V×C V)
 |_,[]=>.none
 |0,b::a=>some ([],b,a)
 |e+1,b::a=>match kJ e a with
  |some (c,f,d)=>some (b::c,f,d)
  |.none=>.none
def rQ:∀(f:Nat)(g:C V){c d:C V}{b:V},kJ f g=some (c,b,d)->g=c++b::d
 |_,[],_,_,_,a=>by simp[kJ]at a
 |0,b::h,_,_,_,a=>by simp only[kJ,ln,r6]at a;obtain⟨rfl,rfl,rfl⟩:=a;rfl
 |f+1,l::h,c,d,b,a=>by
  simp only[kJ]at a;split at a
  .rename_i i k j e;simp only[ln,r6]at a;obtain⟨rfl,rfl,rfl⟩:=a;rw[rQ f h e];rfl
  .cases a
section
variable{k:dX}{p:Nat}{g:O}{e:Nat->Prop}{f:dD}{d a b:C V}{l:O}{i:dk}{m n:fj}{j:M}{h o c bytes:Nat}{q:M}
def BF (u:Nat){s r:Nat}{z t:C M}{A:M}(R:fB k h o c bytes q)(K:ev f m=some j)(L:ev f n=some A)(G:kJ u d=some (a,row j o c s z,b))(H:∀l,cI g e d l->Rd l cW c A r t)(D:∀B∈t,B.oneCell'=true)(v:(s+r)*bytes<=140737488355328)(x:s+r<=140737488355328):eG k p g e (.call {callee:=.builtin .append,args:=#[m,n],argTypes:=#[h,h]}) i f d l (λB w=>(∃Q cap,B=.slice Q (s+r) cap)/\w=a++row B o c (s+r) (z++t)::b):=(DC a b R K L (rQ u d G) H D v x).vK λj w S y E=>⟨by subst y;exact fS (E.j0 (C6 _ _)) (p:=0) rfl,y⟩
def Kh (s:Nat){w r y:Nat}{u v t:C M}(H:ev f m=some (.pointer (some ⟨w,r,.none⟩)))(K:ev f n=some j)(B:kJ s d=some (a,cF w u y,b))(G:j.cells=t.toArray)(E:(k.info? h).map (·.size)=some t.length)(A:∀L∈t,L.oneCell'=true)(D:Nat.ble (r+t.length) u.length=true)(x:u.take r++t++u.drop (r+t.length)=v):eG k p g e (.store h m n) i f d l (λ_ z=>z=a++cF w v y::b):=DK a b H K G E A (qs D) x (rQ s d B)
def Ki (u:Nat){s cap r t:Nat}{w x v:C M}(H:ev f m=some (.pointer (some ⟨s,t,.none⟩)))(K:ev f n=some j)(B:kJ u d=some (a,row (.slice (some ⟨s,0,.none⟩) r cap) o c r w,b))(G:j.cells=v.toArray)(E:(k.info? h).map (·.size)=some v.length)(A:∀L∈v,L.oneCell'=true)(D:t+v.length<=w.length)(y:w.take t++v++w.drop (t+v.length)=x):eG k p g e (.store h m n) i f d l (λ_ z=>z=a++row (.slice (some ⟨s,0,.none⟩) r cap) o c r x::b):=DL a b H K G E A D y (rQ u d B)
end
section
variable{g:dX}{m:Nat}{e:O}{b:Nat->Prop}{h:dD}{f k:C V}{n:O}{d:dk}{j:fj}{a:M}{i l c:Nat}
def aa0 {p cap t u:Nat}{w:C M}{o:TypeDesc}(r s:Nat)(B:ev h j=some (.pointer (some ⟨p,u,.none⟩)))(y:f[r]? =some (cz k))(z:k[s]? =some (row (.slice (some ⟨p,0,.none⟩) t cap) l c t w))(x:g.underlying i=some o)(v:(match o with|.struct _|.array _ _=>false|_=>true)=true)(A:(w.drop u).take 1=[a]):dp g m e b (.load i j) d h f a:=PU r s B y z x v (by
 have q:((w.drop u).take 1)[0]? =some a:=by rw[A];rfl
 rw[mT,cM (by omega),kQ]at q;exact q)
def DV {p cap s t:Nat}{v:C M}{o:TypeDesc}(r:Nat)(z:ev h j=some (.pointer (some ⟨p,t,.none⟩)))(w:g.underlying i=some o)(u:(match o with|.struct _|.array _ _=>false|_=>true)=true)(x:f[r]? =some (row (.slice (some ⟨p,0,.none⟩) s cap) l c s v))(y:(v.drop t).take 1=[a]):dp g m e b (.load i j) d h f a:=DU r z w u x (by
 have q:((v.drop t).take 1)[0]? =some a:=by rw[y];rfl
 rw[mT,cM (by omega),kQ]at q;exact q)
end
section
variable{g:dX}{h:Nat}{b:O}{a:Nat->Prop}{f i:fJ}{j:Nat->fJ}{e:dD}{c k:C V}{l:V}{d:O}
def MZ {m:Code}(p:W g h b a m f i j e c d):W g h b a (.scope m) f i j e c d:=λn q r=>
 wp_scope_straight (xM (p n q r) λo t u s=>by cases o<;>exact s)
def U9 {n:Nat}(m:f e c d):W g h b a (.label n) f i j e c d:=λ_ o p=>wp_label ⟨e,c,o,p,m⟩
def cI.snoc:cI b a (Proofs.YtdlpoonfcdoiiaaGreat.cz k::l::c) d↔cI b a (Proofs.YtdlpoonfcdoiiaaGreat.cz (k++[l])::c) d:=by rw[<-cI.cz,<-cI.cz,dJ,nJ]
def Al {m:Code}(n:W g h b a m f i j e (cz (k++[l])::c) d):W g h b a m f i j e (cz k::l::c) d:=lh cI.snoc.1 n
def Vk {o:Array Oper}{m:C Oper}(n:WL g h b a o f m e (cz (k++[l])::c) d):WL g h b a o f m e (cz k::l::c) d:=vL cI.snoc.1 n
def cI.Od (m:cI b a c d):cI b a (Proofs.YtdlpoonfcdoiiaaGreat.cz []::c) d:=cI.cz.1 m
def sL {m:Code}(n:W g h b a m f i j e (cz []::c) d):W g h b a m f i j e c d:=lh cI.Od n
end
def Sq {d:Type}:∀{a:C d}{e:Nat}{c:d},a[e]? =some c->a.Perm (c::a.eraseIdx e)
 |[],_,_,b=>by simp at b
 |g::a,0,c,b=>by simp at b;subst b;exact cD _
 |g::a,e+1,c,b=>by
  have f:a[e]? =some c:=by simpa using b
  exact((Sq f).cons g).trans (List.Perm.swap ..)
def Ss {d:Type}:∀{a:C d}{b:Nat}(c:d),b<a.length->(a.set b c).Perm (c::a.eraseIdx b)
 |[],_,_,e=>by simp at e
 |g::a,0,c,_=>cD _
 |g::a,b+1,c,e=>by
  have f:b<a.length:=by simpa using e
  exact((Ss c f).cons g).trans (List.Perm.swap ..)
section
variable{h:dX}{k:Nat}{b:O}{a:Nat->Prop}{g m:fJ}{n:Nat->fJ}{j:dD}{d c:C V}{f:O}{l e:V}{i:Nat}
def cI.swp {o p:V}:cI b a (o::p::d) f->cI b a (p::o::d) f:=λq=>q.perm (List.Perm.swap ..)
def cI.at_ (r:c[i]? =some l):cI b a (Proofs.YtdlpoonfcdoiiaaGreat.cz c::d) f->cI b a (l::Proofs.YtdlpoonfcdoiiaaGreat.cz (c.eraseIdx i)::d) f:=λo=>by have p:cI b a (c++d) f:=cI.cz.2 o;have q:cI b a (c.eraseIdx i++(l::d)) f:=p.perm (((Sq r).append_right d).trans (by show(l::(c.eraseIdx i++d)).Perm _;exact eg.symm));exact(cI.cz.1 q).swp
def cI.UO (q:i<c.length):cI b a (e::Proofs.YtdlpoonfcdoiiaaGreat.cz (c.eraseIdx i)::d) f->cI b a (Proofs.YtdlpoonfcdoiiaaGreat.cz (c.set i e)::d) f:=λo=>by have p:cI b a (c.eraseIdx i++(e::d)) f:=cI.cz.2 o.swp;refine cI.cz.1 (p.perm ?_);refine eg.trans ?_;show(e::(c.eraseIdx i++d)).Perm _;exact((Ss e q).append_right d).symm
def Ai {o:Code}(i:Nat)(q:c[i]? =some l)(p:W h k b a o g m n j (l::cz (c.eraseIdx i)::d) f):W h k b a o g m n j (cz c::d) f:=lh (cI.at_ q) p
def Vd {o:Code}(q:i<c.length)(p:W h k b a o g m n j (cz (c.set i e)::d) f):W h k b a o g m n j (e::cz (c.eraseIdx i)::d) f:=lh (cI.UO q) p
def ati {q:Array Oper}{o:C Oper}(i:Nat)(r:c[i]? =some l)(p:WL h k b a q g o j (l::cz (c.eraseIdx i)::d) f):WL h k b a q g o j (cz c::d) f:=vL (cI.at_ r) p
def ato {q:Array Oper}{o:C Oper}(r:i<c.length)(p:WL h k b a q g o j (cz (c.set i e)::d) f):WL h k b a q g o j (e::cz (c.eraseIdx i)::d) f:=vL (cI.UO r) p
end
section
variable{c:Type}{b:c->C M}{a:Nat}
def zB (e:∀d,(b d).length=a):∀f:C c,(f.flatMap b).length=f.length*a
 |[]=>by simp
 |d::f=>by rw[ji,cX,e,zB e f,eE,lT];omega
def KM (e:∀d,(b d).length=a):∀(g:C c)(f:Nat),(g.flatMap b).drop (f*a)=(g.drop f).flatMap b
 |g,0=>by simp
 |[],f+1=>by simp
 |d::g,f+1=>by rw[ji,xz,<-KM e g f,lT,wi,<-xy];congr 1;rw[<-e d];simp
def Qk (e:∀d,(b d).length=a):∀(g:C c)(f:Nat),(g.flatMap b).take (f*a)=(g.take f).flatMap b
 |g,0=>by simp
 |[],f+1=>by simp
 |d::g,f+1=>by rw[ji,List.take_succ_cons,ji,<-Qk e g f,lT,wi];rw[xE,e,gS (by rw[e];omega)];congr 2;omega
def KN {e:C c}{g:Nat}{d:c}(i:e[g]? =some d):e=e.take g++d::e.drop (g+1):=by obtain⟨f,h⟩:=da.1 i;rw[<-h,<-jP f,gJ]
def oQ (e:∀d,(b d).length=a){h:C c}{g:Nat}{d:c}(j:h[g]? =some d):((h.flatMap b).drop (g*a)).take a=b d:=by
 rw[KM e];obtain⟨f,i⟩:=da.1 j;rw[jP f,i,ji]
 conv=>lhs;rw[<-e d]
 simp
def qC (f:∀d,(b d).length=a){k:C c}{j i:Nat}{d:c}{l:M}(m:k[j]? =some d)(g:(b d)[i]? =some l):(k.flatMap b)[j*a+i]? =some l:=by
 have h:i<a:=by rw[<-f d];exact(da.1 g).1
 have e:=dq (λn:C M=>n[i]?) (oQ f m);rw[uL h,kQ,g]at e;exact e
def Qj (g:∀d,(b d).length=a){h:C c}{e:Nat}(f:c)(i:e<h.length):(h.flatMap b).take (e*a)++b f++(h.flatMap b).drop (e*a+a)=(h.set e f).flatMap b:=by
 have j:e*a+a=(e+1)*a:=by rw[lT]
 rw[j,KM g,Qk g,qU,cM i];simp
def DZ (f:∀d,(b d).length=a){h:C c}{e i:Nat}{d k:c}{n:M}(v:h[e]? =some d)(u:i<a)(w:b k=(b d).set i n):(h.flatMap b).take (e*a+i)++[n]++(h.flatMap b).drop (e*a+i+[n].length)=(h.set e k).flatMap b:=by
 obtain⟨l,_⟩:=da.1 v;have g:=zB f h;have j:e*a+i<(h.flatMap b).length:=by rw[g];have:(e+1)*a<=h.length*a:=j7 a l;rw[lT]at this;omega
 rw[show(h.flatMap b).take (e*a+i)++[n]++(h.flatMap b).drop (e*a+i+[n].length)=(h.flatMap b).set (e*a+i) n by rw[qU,cM j];simp];rw[<-Qj f k l,w];refine qo λm=>?_;rw[oD];have s:((h.flatMap b).take (e*a)).length=e*a:=by rw[eD,g];have:=j7 a (Nat.le_of_lt l);omega
 have t:((b d).set i n).length=a:=by rw[fy,f]
 rcases np m (e*a)with o|o
 .rw[cJ (by omega),dJ,nk (by omega),uL o]
 .rw[dJ,nm (by omega),s];rcases np (m-e*a) a with p|p
  .rw[nk (by omega),oD];by_cases q:i=m-e*a
   .rw[cM (by omega),cM q,cM j,cM (by rw[f];exact u)]
   .rw[cJ (by omega),cJ q];have r:(b d)[m-e*a]? =some ((b d)[m-e*a]'(by rw[f];exact p)):=dr _;rw[r];have:=qC f v r;rw[show e*a+(m-e*a)=m by omega]at this;exact this
  .rw[cJ (by omega),nm (by omega),t,kQ];congr 1;omega
end
def Rd.at_ {q:O}{o:Nat->Prop}{m l d i:Nat}{n:cG Addr}{b:C M}(t:Rd q o m (.slice n l d) l b)(u:i<l):∃a c,n=some ⟨a,c,.none⟩/\¬o a/\∀j p,b[j]? =some p->q.cell? ⟨a,c+j,.none⟩=some p:=by obtain⟨r,s,e,_,_,g⟩:=t;injection e with f _ _;subst f;obtain⟨a,c,e,h,_,k⟩:=g.resolve_left (by omega);exact⟨a,c,e,h,k⟩
def yn {a:Type}(c:a->M){d:C a}{e:Nat}{b:a}(f:d[e]? =some b):(d.map c)[e*1]? =some (c b):=by simp[f]
inductive mq where
 |done
 |fl (a:Nat) (b:mq)
 |ef (a:Nat) (b:mq)
 |two (a:Nat) (b:mq) (c:Nat) (d:mq)
 |three (a:Nat) (b:mq) (c:Nat) (d:mq) (e:Nat) (f:mq)
def mq.kT:mq->Nat
 |.done=>0
 |.fl _ a=>a.kT+1
 |.ef _ a=>a.kT+1
 |.two _ a _ b=>max a.kT b.kT+1
 |.three _ a _ b _ c=>max (max a.kT b.kT) c.kT+1
def rI (b:Array Oper):Array Bool->mq->Bool
 |a,.done=>(Region.ready .any b a).isEmpty
 |a,.fl c d=>Region.free .any b a c&&(Region.ready .any b a).contains c&&rI b (a.setIfInBounds c true) d
 |a,.ef c d=>Region.ready .any b a==[c]&&rI b (a.setIfInBounds c true) d
 |a,.two c d e f=>Region.ready .any b a==[c,e]&&(rI b (a.setIfInBounds c true) d&&rI b (a.setIfInBounds e true) f)
 |a,.three c d e f g h=>Region.ready .any b a==[c,e,g]&&(rI b (a.setIfInBounds c true) d&&(rI b (a.setIfInBounds e true) f&&rI b (a.setIfInBounds g true) h))
def tg (a:C iR):mq->Bool
 |.done=>true
 |.fl d b=>nP d a&&tg a b
 |.ef _ b=>tg a b
 |.two _ b _ c=>tg a b&&tg a c
 |.three _ b _ c _ e=>tg a b&&(tg a c&&tg a e)
section
variable{j:dX}{h:Nat}{d:O}{c:Nat->Prop}{t A:fJ}{B:Nat->fJ}{g:dD}{l:C V}{i:O}{b:Array Oper}{o:Op}{p:dk}{m:String}{s:Array Edge}{u:M}{w:M->C V->Prop}{v:Nat}
def ql (j:dX)(h:Nat)(d:O)(c:Nat->Prop)(b:Array Oper)(a:C iR)(k:Nat)(y:C iR->dD->C V->O->Prop)(g:dD)(l:C V)(i:O):Prop:=∃dst o p m s,b[k]? =some ⟨dst,o,p,m,s,.none⟩/\(match dst with|some v=>Nat.blt v h=true|.none=>True)/\∃w,eG j h d c o p g (j3 a++l) i w/\∀u r D,w u r->∃e,r.Perm (j3 (ld k a)++e)/\y (ld k a) (match dst with|some v=>(v,u)::g|.none=>g) e D
def WX (j:dX)(h:Nat)(d:O)(c:Nat->Prop)(b:Array Oper)(t:fJ):mq->C iR->dD->C V->O->Prop
 |.done,a,g,l,i=>∃K L,kf K g/\(∃Q,(j3 a++l).Perm (L++Q))/\t K L i
 |.fl k e,a,g,l,i=>∃v o p m s D u,b[k]? =some ⟨some v,o,p,m,s,D⟩/\Nat.blt v h=true/\nP k a=true/\((dp j h d c o p g (tu b k a) u/\(D=.none\/∃q r e,D=some (q,r)/\(b[q]?).bind (·.dst)=some e/\lk g e=some (.bool r)))\/(u=undef/\∃q r e,D=some (q,r)/\(b[q]?).bind (·.dst)=some e/\(lk g e=some (.bool !r)\/lk g e=some undef)))/\WX j h d c b t e a ((v,u)::g) l i
 |.ef k e,a,g,l,i=>ql j h d c b a k (WX j h d c b t e) g l i
 |.two k e q E,a,g,l,i=>ql j h d c b a k (WX j h d c b t e) g l i/\ql j h d c b a q (WX j h d c b t E) g l i
 |.three k e q E G H,a,g,l,i=>ql j h d c b a k (WX j h d c b t e) g l i/\ql j h d c b a q (WX j h d c b t E) g l i/\ql j h d c b a G (WX j h d c b t H) g l i
structure vR (b:Array Oper)(r a:C iR)(e:Array Bool):Prop where
 size:e.size=b.size
 closed:uG .any b e
 fits:∀n,uF e n->n.size=b.size->kx n r=kx n a
 un:∀E D,(E,some D)∈a->e.getD D false=false
def LR {k:Nat}{H:V}:∀E:C iR,nP k E=true->(H,some k)∉E
 |[],_=>by simp
 |(D,.none)::E,r=>by
  intro e;rcases dh.1 e with e|e
  .cases e
  .exact LR E r e
 |(D,some G)::E,r=>by
  intro e;simp only[nP,iu,yS]at r;rcases dh.1 e with e|e
  .injection e with _ e;injection e with e;subst e;simp at r
  .exact LR E r.2 e
def vR.fl {D a:C iR}{r:Array Bool}{k:Nat}(e:vR b D a r)(Q:k∈Region.ready .any b r)(L:nP k a=true):vR b D a (r.setIfInBounds k true):=by
 refine⟨by simpa using e.size,e.closed.step Q,λn K=>e.fits n (λq H=>K q (Dk _ _ q H)),λS R E=>?_⟩;have G:k≠R:=by rintro rfl;exact LR a L E
 rw[xL false G];exact e.un S R E
def vR.ef {L a:C iR}{E:Array Bool}{D:Nat}(G:vR b L a E)(hr:D∈Region.ready .any b E)(X:D<b.size):vR b L (ld D a) (E.setIfInBounds D true):=by
 have W:D<E.size:=by rw[G.size];exact X
 have Q:∀n:Array Bool,uF (E.setIfInBounds D true) n->n.size=b.size->n=n.setIfInBounds D true:=by
  intro n H K;have:n.getD D false=true:=H D (by simp[W]);apply Array.ext
  .simp
  .intro q R T;by_cases S:q=D
   .subst S;have P:n[q]? =some n[q]:=yR R;simp[P]at this;simp[this]
   .rw[Np R (uR S)]
 refine⟨by simpa using G.size,G.closed.step hr,λn H K=>?_,λr e hm=>?_⟩
 .rw[G.fits n (λq ab=>H q (Dk _ _ q ab)) K];rw[Q n H K,Dm (by rw[K];exact X) a,<-Q n H K]
 .obtain⟨R,T⟩:=Ea a r e hm;rw[xL false (uR T)];exact G.un r e R
def Cd {H a:C iR}{r:Array Bool}{e:Nat}{y:C iR->dD->C V->O->Prop}{Q:Exit->Act->O->Prop}{G:Act}{R:Nat}(P:vR b H a r)(hr:e∈Region.ready .any b r)(X:Fr h g G)(hh:cI d c (j3 a++l) i)(L:ql j h d c b a e y g l i)(hk:∀m' K T D,vR b H (ld e a) (r.setIfInBounds e true)->Fr h m' T->cI d c (j3 (ld e a)++K) D->y (ld e a) m' K D->yN j .any b Q (λn D=>n.size=b.size/\∃K,cI d c (kx n H++K) D) R (r.setIfInBounds e true) T D):wpOp j b Q e (λT D=>(λn D=>n.size=b.size/\∃K,cI d c (kx n H++K) D) (r.setIfInBounds e true) D/\yN j .any b Q (λn D=>n.size=b.size/\∃K,cI d c (kx n H++K) D) R (r.setIfInBounds e true) T D) G i:=by
 obtain⟨dst,o,p,m,s,hi,ab,w,he,ae⟩:=L;have ah:∀u,Fr h (match dst with|some v=>(v,u)::g|.none=>g) (G.put dst u):=by
  intro u;cases dst with
  |none=>exact X
  |some v=>exact X.put ab u
 have hw:Region.wanted (⟨dst,o,p,m,s,.none⟩:Oper) (yielded b G.tmps)=true:=rfl;have E:=P.ef hr (mS.1 hi).1;unfold wpOp;simp only[hi,hw,pO];refine .inl (he _ G _ Q rfl rfl X hh λu K D hp ad=>?_);obtain⟨W,af,ag⟩:=ae u K D hp;have S:=ad.perm af;refine⟨⟨E.size,W,?_⟩,hk _ W _ D E (ah u) S ag⟩;rw[E.fits _ (λ_ L=>L) E.size,Bs _ E.un];exact S
def yO {ai:C iR}(ag:Region.noSelect b=true)(Q:Exit->Act->O->Prop)(ae:∀al r i,¬Q (.panic al) r i)
 (hQ:∀a' S,(∃m' W,Fr h m' a'/\cI d c W S/\t m' W S)->Q .normal a' S):
 ∀(f:mq)(G:Nat)(D:Array Bool)(a:C iR)(g:dD)(l:C V)(r:Act)(i:O),f.kT<=G->rI b D f=true->vR b ai a D->Fr h g r->cI d c (j3 a++l) i->WX j h d c b t f a g l i->tg ai f=true->yN j .any b Q (λn S=>n.size=b.size/\∃W,cI d c (kx n ai++W) S) G D r i
 |.done,G,D,a,g,l,r,i,_,e,_,X,hh,hd,_=>by
  obtain⟨m',L,hs,⟨E,hE⟩,hN⟩:=hd;have hh:=hh.pick hE;simp only[rI,Fj]at e;cases G with
  |zero=>exact⟨e,hQ r i ⟨m',_,X.sub hs,hh,hN⟩⟩
  |succ ax=>exact⟨λ_=>hQ r i ⟨m',_,X.sub hs,hh,hN⟩,by rw[e];simp⟩
 |.fl k f,0,_,_,_,_,_,_,hl,_,_,_,_,_,_=>by simp[mq.kT]at hl
 |.ef k f,0,_,_,_,_,_,_,hl,_,_,_,_,_,_=>by simp[mq.kT]at hl
 |.two ..,0,_,_,_,_,_,_,hl,_,_,_,_,_,_=>by simp[mq.kT]at hl
 |.three ..,0,_,_,_,_,_,_,hl,_,_,_,_,_,_=>by simp[mq.kT]at hl
 |.fl k f,G+1,D,a,g,l,r,i,hl,e,H,X,hh,hd,R=>by
  obtain⟨v,o,p,m,s,ay,u,hi,aw,ar,hv,am⟩:=hd;simp only[rI,iu]at e;simp only[tg,iu]at R;have ak:k∈Region.ready .any b D:=by simpa using e.1.2
  refine Vm hi (Region.noSelect_spec ag) (λal r i aj=>(ae _ _ _ aj).elim) ?_ G D r i (Region.free_spec hi e.1.1) ak ?_ H.closed ⟨H.size,l,?_⟩ (yO ag Q ae hQ f G _ a ((v,u)::g) l _ i (by simpa[mq.kT]using hl) e.2 (H.fl ak ar) (X.put aw u) hh am R.2)
  .intro n S;rw[FT ai R.1];simp
  .rcases hv with⟨hf,hg⟩|⟨rfl,q,an,ao,rfl,hj,ah⟩
   .refine .inl ⟨?_,λn S au ap av ⟨aq,W,K⟩=>hf _ r S rfl rfl X ?_⟩
    .rcases hg with rfl|⟨q,an,ao,rfl,hj,ah⟩
     .rfl
     .simp[Region.wanted,mO X hj ah]
    .rw[H.fits n au aq]at K;exact(K.j0 (mr _ _)).j0 (Bt av ap a)
   .refine .inr ⟨?_,rfl⟩;rcases ah with ah|ah
    .simp[Region.wanted,mO X hj ah]
    .simp[Region.wanted,An X hj ah]
  .rw[H.fits D (λ_ aj=>aj) H.size,Bs a H.un];exact hh
 |.ef k f,G+1,D,a,g,l,r,i,hl,e,H,X,hh,hd,R=>by
  simp only[rI,iu,uT]at e;refine⟨λh0=>absurd (e.1▸h0) (by simp),λaf T=>?_⟩;obtain rfl:af=k:=by rw[e.1]at T;simpa using T
  exact Cd H T X hh hd λm' W a' S ab P K hw=>yO ag Q ae hQ f G _ _ m' W a' S (by simpa[mq.kT]using hl) e.2 ab P K hw R
 |.two k f q x,G+1,D,a,g,l,r,i,hl,e,H,X,hh,hd,R=>by
  simp only[rI,iu,uT]at e;simp only[tg,iu]at R;simp only[mq.kT]at hl;refine⟨λh0=>absurd (e.1▸h0) (by simp),λaf T=>?_⟩;have ad:=T;rw[e.1]at ad;rcases dh.1 ad with rfl|ad
  .exact Cd H T X hh hd.1 λm' W a' S ab P K hw=>yO ag Q ae hQ f G _ _ m' W a' S (by omega) e.2.1 ab P K hw R.1
  .obtain rfl:af=q:=by simpa using ad
   exact Cd H T X hh hd.2 λm' W a' S ab P K hw=>yO ag Q ae hQ x G _ _ m' W a' S (by omega) e.2.2 ab P K hw R.2
 |.three k f q x n z,G+1,D,a,g,l,r,i,hl,e,H,X,hh,hd,R=>by
  simp only[rI,iu,uT]at e;simp only[tg,iu]at R;simp only[mq.kT]at hl;refine⟨λh0=>absurd (e.1▸h0) (by simp),λaf T=>?_⟩;have ad:=T;rw[e.1]at ad;rcases dh.1 ad with rfl|ad
  .exact Cd H T X hh hd.1 λm' W a' S ab P K hw=>yO ag Q ae hQ f G _ _ m' W a' S (by omega) e.2.1 ab P K hw R.1
  rcases dh.1 ad with rfl|ad
  .exact Cd H T X hh hd.2.1 λm' W a' S ab P K hw=>yO ag Q ae hQ x G _ _ m' W a' S (by omega) e.2.2.1 ab P K hw R.2.1
  .obtain rfl:af=n:=by simpa using ad
   exact Cd H T X hh hd.2.2 λm' W a' S ab P K hw=>yO ag Q ae hQ z G _ _ m' W a' S (by omega) e.2.2.2 ab P K hw R.2.2
def U8 {id:Nat}(f:mq)(a:C iR)(Hm:C V)(ab:j.follows .mixedOrders=true)(Q:Region.noSelect b=true)(R:rI b (Array.replicate b.size false) f=true)(H:Nat.ble f.kT b.size=true)(L:tg a f=true)(T:l.Perm (j3 a++Hm))(D:∀w',WX j h d c b t f a g Hm w'):W j h d c (.region id b true) t A B g l i:=λE X P=>by
 have K:=(P.perm T).drew;refine wp_region_any ab (IF _ _ _ _ (yO (ai:=a) Q _ (λ_ _ _ D=>D) (λ_ _ hq=>hq) f _ _ a g Hm E _ (qs H) R ⟨by simp,?_,λ_ _ _=>rfl,?_⟩ X K (D _) L))
 .intro q S _ G;simp only[AG,AH]at G;split at G<;>simp at G
 .intro r e _;simp only[AG,AH];split<;>simp
variable{a:C iR}{f x z:mq}{k q n:Nat}{y:C iR->dD->C V->O->Prop}
def atF (E:b[k]? =some ⟨some v,o,p,m,s,.none⟩)(e:dp j h d c o p g (tu b k a) u)(G:WX j h d c b t f a ((v,u)::g) l i)(D:Nat.blt v h=true:=by rfl)(r:nP k a=true:=by rfl):WX j h d c b t (.fl k f) a g l i:=⟨v,o,p,m,s,.none,u,E,D,r,.inl ⟨e,.inl rfl⟩,G⟩
def Vr (e:ql j h d c b a k (WX j h d c b t f) g l i):WX j h d c b t (.ef k f) a g l i:=e
def Vt (e:ql j h d c b a k (WX j h d c b t f) g l i)(r:ql j h d c b a q (WX j h d c b t x) g l i):WX j h d c b t (.two k f q x) a g l i:=⟨e,r⟩
def Vs (e:ql j h d c b a k (WX j h d c b t f) g l i)(r:ql j h d c b a q (WX j h d c b t x) g l i)(D:ql j h d c b a n (WX j h d c b t z) g l i):WX j h d c b t (.three k f q x n z) a g l i:=⟨e,r,D⟩
def G5 (G:b[k]? =some ⟨some v,o,p,m,s,.none⟩)(e:eG j h d c o p g (j3 a++l) i w)(H:∀u D K,w u D->∃r,D.Perm (j3 (ld k a)++r)/\y (ld k a) ((v,u)::g) r K)(E:Nat.blt v h=true:=by rfl):ql j h d c b a k y g l i:=⟨some v,o,p,m,s,G,E,w,e,H⟩
def Rj (E:b[k]? =some ⟨.none,o,p,m,s,.none⟩)(e:eG j h d c o p g (j3 a++l) i w)(G:∀u D H,w u D->∃r,D.Perm (j3 (ld k a)++r)/\y (ld k a) g r H):ql j h d c b a k y g l i:=⟨.none,o,p,m,s,E,trivial,w,e,G⟩
def atE (r:dD)(H:C Nat){D K:C V}(G:kf r g)(E:pick H (j3 a++l)=some (D,K))(e:t r D i):WX j h d c b t .done a g l i:=⟨r,D,G,⟨K,de _ _ E⟩,e⟩
end
inductive oz where
 |done
 |fl (a:Nat) (b:oz)
 |ef (a:Nat) (b:oz)
 |two (a:Nat) (b:oz) (c:Nat) (d:oz)
def oz.kT:oz->Nat
 |.done=>0
 |.fl _ a=>a.kT+1
 |.ef _ a=>a.kT+1
 |.two _ a _ b=>max a.kT b.kT+1
def vz (b:Array Oper):Array Bool->oz->Bool
 |a,.done=>(Region.ready .any b a).isEmpty
 |a,.fl c d=>Region.free .any b a c&&(Region.ready .any b a).contains c&&vz b (a.setIfInBounds c true) d
 |a,.ef c d=>Region.ready .any b a==[c]&&vz b (a.setIfInBounds c true) d
 |a,.two c d e f=>Region.ready .any b a==[c,e]&&(vz b (a.setIfInBounds c true) d&&vz b (a.setIfInBounds e true) f)
section
variable{m:dX}{j:Nat}{d:O}{c:Nat->Prop}{s x:fJ}{y:Nat->fJ}{e:dD}{g:C V}{f:O}{b:Array Oper}{k:Op}{l:dk}{i:String}{n:Array Edge}{p:M}{t:M->C V->Prop}{r:Nat}
def vM (m:dX)(j:Nat)(d:O)(c:Nat->Prop)(b:Array Oper)(a:C V)(o:Nat)(w:dD->C V->O->Prop)(e:dD)(g:C V)(f:O):Prop:=∃dst k l i n u,b[o]? =some ⟨dst,k,l,i,n,u⟩/\(match dst with|some r=>Nat.blt r j=true|.none=>True)/\((∃t,(u=.none\/∃q A z,u=some (q,A)/\(b[q]?).bind (·.dst)=some z/\lk e z=some (.bool A))/\eG m j d c k l e (a++g) f t/\∀p D E,t p D->∃B,D.Perm (a++B)/\w (match dst with|some r=>(r,p)::e|.none=>e) B E)\/((∃q A z,u=some (q,A)/\(b[q]?).bind (·.dst)=some z/\(lk e z=some (.bool !A)\/lk e z=some undef))/\w (match dst with|some r=>(r,undef)::e|.none=>e) g f))
def WT (m:dX)(j:Nat)(d:O)(c:Nat->Prop)(b:Array Oper)(s:fJ)(a:C V):oz->dD->C V->O->Prop
 |.done,e,g,f=>∃D E,kf D e/\(∃G,(a++g).Perm (E++G))/\s D E f
 |.fl o z,e,g,f=>∃r k l i n u p,b[o]? =some ⟨some r,k,l,i,n,u⟩/\Nat.blt r j=true/\((dp m j d c k l e a p/\(u=.none\/∃q A z,u=some (q,A)/\(b[q]?).bind (·.dst)=some z/\lk e z=some (.bool A)))\/(p=undef/\∃q A z,u=some (q,A)/\(b[q]?).bind (·.dst)=some z/\(lk e z=some (.bool !A)\/lk e z=some undef)))/\WT m j d c b s a z ((r,p)::e) g f
 |.ef o z,e,g,f=>vM m j d c b a o (λe g f=>WT m j d c b s a z e g f) e g f
 |.two o z q B,e,g,f=>vM m j d c b a o (λe g f=>WT m j d c b s a z e g f) e g f/\vM m j d c b a q (λe g f=>WT m j d c b s a B e g f) e g f
def Ks {a:C V}{o:Nat}{w:dD->C V->O->Prop}{Q:Exit->Act->O->Prop}{K':Act->O->Prop}{z:Act}(G:Fr j e z)(hh:cI d c (a++g) f)(R:vM m j d c b a o w e g f)(hk:∀m' E K B,Fr j m' K->cI d c (a++E) B->w m' E B->K' K B):wpOp m b Q o (λK B=>(∃E,cI d c (a++E) B)/\K' K B) z f:=by
 obtain⟨dst,k,l,i,n,u,hi,ab,hv⟩:=R;have P:∀p,Fr j (match dst with|some r=>(r,p)::e|.none=>e) (z.put dst p):=by
  intro p;cases dst with
  |none=>exact G
  |some r=>exact G.put ab p
 rcases hv with⟨t,hg,he,H⟩|⟨⟨q,D,S,rfl,L,A⟩,H⟩
 .have hw:Region.wanted (⟨dst,k,l,i,n,u⟩:Oper) (yielded b z.tmps)=true:=by
   rcases hg with rfl|⟨q,D,S,rfl,L,A⟩
   .rfl
   .simp[Region.wanted,mO G L A]
  unfold wpOp;simp only[hi,hw,pO];refine .inl (he _ z _ Q rfl rfl G hh λp E B hp W=>?_);obtain⟨T,X,ad⟩:=H p E B hp;exact⟨⟨T,W.perm X⟩,hk _ T _ B (P p) (W.perm X) ad⟩
 .have hw:Region.wanted (⟨dst,k,l,i,n,some (q,D)⟩:Oper) (yielded b z.tmps)=false:=by
   rcases A with A|A
   .simp[Region.wanted,mO G L A]
   .simp[Region.wanted,An G L A]
  unfold wpOp;simp only[hi,hw,vW,r7];exact⟨⟨g,hh⟩,hk _ g _ f (P undef) hh H⟩
def EY {a:C V}(af:Region.noSelect b=true)(Q:Exit->Act->O->Prop)(W:∀ag z f,¬Q (.panic ag) z f)
 (hQ:∀ad G,(∃X K,Fr j X ad/\cI d c K G/\s X K G)->Q .normal ad G):
 ∀(h:oz)(B:Nat)(D:Array Bool)(e:dD)(g:C V)(z:Act)(f:O),h.kT<=B->vz b D h=true->Fr j e z->cI d c (a++g) f->WT m j d c b s a h e g f->wpAnyH m .any b Q (λG=>∃K,cI d c (a++K) G) B D z f
 |.done,B,D,e,g,z,f,_,A,H,P,hd=>by obtain⟨X,L,hs,⟨E,hE⟩,hN⟩:=hd;simp only[vz,Fj]at A;exact wpAnyH_done A (hQ z f ⟨X,L,H.sub hs,P.pick hE,hN⟩) B
 |.fl o h,0,_,_,_,_,_,S,_,_,_,_=>by simp[oz.kT]at S
 |.ef o h,0,_,_,_,_,_,S,_,_,_,_=>by simp[oz.kT]at S
 |.two o h q v,0,_,_,_,_,_,S,_,_,_,_=>by simp[oz.kT]at S
 |.fl o h,B+1,D,e,g,z,f,S,A,H,P,hd=>by
  obtain⟨r,k,l,i,n,u,p,hi,al,hv,ah⟩:=hd;simp only[vz,iu]at A;refine wpAnyH_take hi af A.1.1 A.1.2 (λag z f aj=>(W _ _ _ aj).elim) ?_ ⟨g,P⟩ (EY af Q W hQ h B _ ((r,p)::e) g _ f (by simpa[oz.kT]using S) A.2 (H.put al p) P ah);rcases hv with⟨hf,hg⟩|⟨rfl,q,ai,ak,rfl,hj,T⟩
  .refine .inl ⟨?_,λG ⟨K,R⟩=>hf _ z G rfl rfl H (R.j0 (mr _ _))⟩;rcases hg with rfl|⟨q,ai,ak,rfl,hj,T⟩
   .rfl
   .simp[Region.wanted,mO H hj T]
  .refine .inr ⟨?_,rfl⟩;rcases T with T|T
   .simp[Region.wanted,mO H hj T]
   .simp[Region.wanted,An H hj T]
 |.ef o h,B+1,D,e,g,z,f,S,A,H,P,hd=>by
  simp only[vz,iu,uT]at A;refine wpAnyH_all A.1 (by simp) λab hk=>?_;obtain rfl:ab=o:=by simpa using hk
  exact Ks H P hd λX K ad G ae R hw=>EY af Q W hQ h B _ X K ad G (by simpa[oz.kT]using S) A.2 ae R hw
 |.two o h q v,B+1,D,e,g,z,f,S,A,H,P,hd=>by
  simp only[vz,iu,uT]at A;refine wpAnyH_all A.1 (by simp) λab hk=>?_;simp only[oz.kT]at S;rcases dh.1 hk with rfl|hk
  .exact Ks H P hd.1 λX K ad G ae R hw=>EY af Q W hQ h B _ X K ad G (by omega) A.2.1 ae R hw
  .obtain rfl:ab=q:=by simpa using hk
   exact Ks H P hd.2 λX K ad G ae R hw=>EY af Q W hQ v B _ X K ad G (by omega) A.2.2 ae R hw
def xr {id:Nat}(h:oz)(a Hm:C V)(T:m.follows .mixedOrders=true)(G:Region.noSelect b=true)(H:vz b (Array.replicate b.size false) h=true)(B:Nat.ble h.kT b.size=true)(L:g.Perm (a++Hm))(z:∀D,WT m j d c b s a h e Hm D):W m j d c (.region id b true) s x y e g f:=λA Q R=>by have E:=(R.perm L).drew;refine wp_region_held (S:=λD=>∃K,cI d c (a++K) D) T ?_;exact EY G _ (λ_ _ _ z=>z) (λ_ _ X=>X) h _ _ e Hm A _ (qs B) H Q E (z _)
variable{a:C V}{h v:oz}{o q:Nat}{u:cG (Nat×Bool)}{w:dD->C V->O->Prop}
def nW (B:b[o]? =some ⟨some r,k,l,i,n,.none⟩)(z:dp m j d c k l e a p)(D:WT m j d c b s a h ((r,p)::e) g f)(A:Nat.blt r j=true:=by rfl):WT m j d c b s a (.fl o h) e g f:=⟨r,k,l,i,n,.none,p,B,A,.inl ⟨z,.inl rfl⟩,D⟩
def fY (z:vM m j d c b a o (λe g f=>WT m j d c b s a h e g f) e g f):WT m j d c b s a (.ef o h) e g f:=z
def rV (z:vM m j d c b a o (λe g f=>WT m j d c b s a h e g f) e g f)(A:vM m j d c b a q (λe g f=>WT m j d c b s a v e g f) e g f):WT m j d c b s a (.two o h q v) e g f:=⟨z,A⟩
def fF (E:b[o]? =some ⟨some r,k,l,i,n,.none⟩)(z:eG m j d c k l e (a++g) f t)(G:∀p B H,t p B->∃A,B.Perm (a++A)/\w ((r,p)::e) A H)(D:Nat.blt r j=true:=by rfl):vM m j d c b a o w e g f:=⟨some r,k,l,i,n,.none,E,D,.inl ⟨t,.inl rfl,z,G⟩⟩
def lK (D:b[o]? =some ⟨.none,k,l,i,n,.none⟩)(z:eG m j d c k l e (a++g) f t)(E:∀p B G,t p B->∃A,B.Perm (a++A)/\w e A G):vM m j d c b a o w e g f:=⟨.none,k,l,i,n,.none,D,trivial,.inl ⟨t,.inl rfl,z,E⟩⟩
def atz (A:dD)(B:kf A e)(z:s A (a++g) f):WT m j d c b s a .done e g f:=⟨A,_,B,⟨[],by simp⟩,z⟩
def atA (A:dD)(G:C Nat){B H:C V}(E:kf A e)(D:pick G (a++g)=some (B,H))(z:s A B f):WT m j d c b s a .done e g f:=⟨A,B,E,⟨H,de _ _ D⟩,z⟩
end
class UF (a:dX)(c:dk)(b:outParam TypeDesc):Prop where
 h:a.underlying c=some b
def Ko {b:dX}{c:dk}{a:TypeDesc}(_:b.underlying c=some a):TypeDesc:=a
def St (b a:Prop):Prop:=a->b
section
variable{g:dX}{k:Nat}{b:O}{a:Nat->Prop}{p H:fJ}{K:Nat->fJ}{c:dD}{l:C V}{q:O}{d:Array Oper}{A:C Oper}{v:Op}{j:dk}{x:String}{D:Array Edge}{E:M}{z:Nat}{n w L:fj}{s B:Int}{u:IntKind}
def Wz {e f:Code}:St (W g k b a (.seq e f) p H K c l q) (W g k b a e (λc l q=>W g k b a f p H K c l q) H K c l q):=jJ
def Wx {id:Nat}{e:C Oper}:St (W g k b a (.region id e.toArray false) p H K c l q) (WL g k b a e.toArray p e c l q):=kj
def Wm {id:Nat}{e:Code}:St (W g k b a (.block id e) p H K c l q) (W g k b a e p H (s7 id p K) c l q):=CI
def WA {p:fJ}{e:Prop}(f:p c l q=e):St (W g k b a .skip p H K c l q) e:=λu=>iY (f▸u)
def WB {e f:Code}(h:ev c L=some (.bool true)):St (W g k b a (.cond L e f) p H K c l q) (W g k b a e p H K c l q):=as5 h
def Ww {f e:Code}(h:ev c L=some (.bool false)):St (W g k b a (.cond L f e) p H K c l q) (W g k b a e p H K c l q):=as4 h
def keep (c:dD):C Nat->cG dD
 |[]=>some []
 |r::e=>match lk c r,keep c e with
  |some E,some f=>some ((r,E)::f)
  |_,_=>none
def ti:∀{e:C Nat}{h:dD},keep c e=some h->kf h c
 |[],h,f=>by injection f with f;subst f;trivial
 |r::e,h,f=>by
  unfold keep at f;split at f
  .rename_i E o t Q;injection f with f;subst f;exact⟨t,ti Q⟩
  .cases f
def kp {f:dD}(e:C Nat)(o:keep c e=some f)(h:p f l q):WL g k b a d p [] c l q:=atj f (ti o) h
def kw {L:Code}{f:dD}(e:C Nat)(o:keep c e=some f)(h:W g k b a L p H K f l q):W g k b a L p H K c l q:=IB f (ti o) h
def Wr (h:dp g k b a v j c l E)(e:Nat.blt z k=true):St (WL g k b a d p (⟨some z,v,j,x,D,.none⟩::A) c l q) (WL g k b a d p A ((z,E)::c) l q):=λf=>I h f e
def Ws {f R:Nat}{e:Bool}(o:(d[f]?).bind (·.dst)=some R)(Q:lk c R=some (.bool e))(S:dp g k b a v j c l E)(h:Nat.blt z k=true):St (WL g k b a d p (⟨some z,v,j,x,D,some (f,e)⟩::A) c l q) (WL g k b a d p A ((z,E)::c) l q):=λt=>dZ o Q S t h
def Wt {f R:Nat}{e:Bool}(o:(d[f]?).bind (·.dst)=some R)(Q:lk c R=some (.bool !e))(h:Nat.blt z k=true):St (WL g k b a d p (⟨some z,v,j,x,D,some (f,e)⟩::A) c l q) (WL g k b a d p A ((z,undef)::c) l q):=λt=>M5 o Q t h
section
variable{i:C V}{G:C (Nat×Bool)}{r:Nat}
def Wn (f:d[r]? =some ⟨some z,v,j,x,D,.none⟩)(o:dp g k b a v j c i E)(e:Nat.blt z k=true):St (WD g k b a d p i ((r,true)::G) c l q) (WD g k b a d p i G ((z,E)::c) l q):=λh=>cN f o h e
def Wo {f S:Nat}{e:Bool}(o:d[r]? =some ⟨some z,v,j,x,D,some (f,e)⟩)(t:(d[f]?).bind (·.dst)=some S)(R:lk c S=some (.bool e))(T:dp g k b a v j c i E)(h:Nat.blt z k=true):St (WD g k b a d p i ((r,true)::G) c l q) (WD g k b a d p i G ((z,E)::c) l q):=λQ=>fX o t R T Q h
def Wp {f S:Nat}{e:Bool}(o:d[r]? =some ⟨some z,v,j,x,D,some (f,e)⟩)(t:(d[f]?).bind (·.dst)=some S)(R:lk c S=some (.bool !e))(h:Nat.blt z k=true):St (WD g k b a d p i ((r,true)::G) c l q) (WD g k b a d p i G ((z,undef)::c) l q):=λQ=>as9 o t R Q h
def Wv {i:C iR}(f:d[r]? =some ⟨some z,v,j,x,D,.none⟩)(o:dp g k b a v j c (tu d r i) E)(e:Nat.blt z k=true)(h:nP r i=true):St (WK g k b a d p i ((r,true)::G) c l q) (WK g k b a d p i G ((z,E)::c) l q):=λu=>ew f o u e h
def WE {i:C iR}{e:mq}(h:d[r]? =some ⟨some z,v,j,x,D,.none⟩)(t:dp g k b a v j c (tu d r i) E)(f:Nat.blt z k=true)(o:nP r i=true):St (WX g k b a d p (.fl r e) i c l q) (WX g k b a d p e i ((z,E)::c) l q):=λu=>atF h t u f o
def WC {e:oz}(h:d[r]? =some ⟨some z,v,j,x,D,.none⟩)(t:dp g k b a v j c i E)(f:Nat.blt z k=true):St (WT g k b a d p i (.fl r e) c l q) (WT g k b a d p i e ((z,E)::c) l q):=λo=>nW h t o f
def ui {i:C iR}{f:dD}(e:C Nat)(o:keep c e=some f)(h:p f (j3 i++l) q):WK g k b a d p i [] c l q:=M3 f (ti o) h
def sK {o:dD}(h:C Nat)(t:C Nat){e f:C V}(S:keep c h=some o)(R:pick t (i++l)=some (e,f))(Q:p o e q):WD g k b a d p i [] c l q:=as8 o t (ti S) R Q
def kd {f:dD}(e:C Nat)(o:keep c e=some f)(h:p f (i++l) q):WD g k b a d p i [] c l q:=as7 f (ti o) h
end
variable{m y:dk}
def Xb {src dst:dk}{f:TypeDesc}[e:UF g src f][Q:UF g dst (.int .i64)](t:ev c n=some (.int u s))(o: -9223372036854775808<=s/\s<=9223372036854775807):dp g k b a (.convert src dst n) j c l (.int .i64 s):=aaP t e.h Q.h o
def Xc {src dst:dk}{f:TypeDesc}[e:UF g src f][Q:UF g dst (.int .u64)](t:ev c n=some (.int u s))(o:0<=s/\s<=18446744073709551615):dp g k b a (.convert src dst n) j c l (.int .u64 s):=aaQ t e.h Q.h o
def Xq {Q:dk}[f:UF g m (.pointer Q)]{e:Addr}(o:ev c n=some (.pointer (some e)))(t:ev c w=some (.pointer .none)):dp g k b a (.binOp .neq m n w y) j c l (.bool true):=cU (zx o t f.h) rfl
def Xf {Q:dk}[f:UF g m (.pointer Q)]{e:Addr}(o:ev c n=some (.pointer (some e)))(t:ev c w=some (.pointer .none)):dp g k b a (.binOp .eql m n w y) j c l (.bool false):=cU (gB o t f.h) rfl
def Xn (e:ev c n=some (.int u s))(f:ev c w=some (.int u B))(h:s<B):dp g k b a (.binOp .lss m n w y) j c l (.bool true):=cU (gN e f) (by rw[gb h])
def Xm (e:ev c n=some (.int u s))(f:ev c w=some (.int u B))(h:¬s<B):dp g k b a (.binOp .lss m n w y) j c l (.bool false):=cU (gN e f) (by rw[fL h])
def Xl (e:ev c n=some (.int u s))(f:ev c w=some (.int u B))(h:s<=B):dp g k b a (.binOp .leq m n w y) j c l (.bool true):=cU (wP e f) (by rw[gb h])
def FZ (e:ev c n=some (.int u s))(f:ev c w=some (.int u B))(h:¬s<=B):dp g k b a (.binOp .leq m n w y) j c l (.bool false):=cU (wP e f) (by rw[fL h])
def NZ (e:ev c n=some (.int u s))(f:ev c w=some (.int u B))(h:B<s):dp g k b a (.binOp .gtr m n w y) j c l (.bool true):=cU (gA e f) (by rw[gb h])
def NY (e:ev c n=some (.int u s))(f:ev c w=some (.int u B))(h:¬B<s):dp g k b a (.binOp .gtr m n w y) j c l (.bool false):=cU (gA e f) (by rw[fL h])
def Xh (e:ev c n=some (.int u s))(f:ev c w=some (.int u B))(h:B<=s):dp g k b a (.binOp .geq m n w y) j c l (.bool true):=cU (m6 e f) (by rw[gb h])
def Xg (e:ev c n=some (.int u s))(f:ev c w=some (.int u B))(h:¬B<=s):dp g k b a (.binOp .geq m n w y) j c l (.bool false):=cU (m6 e f) (by rw[fL h])
def Xe (e:ev c n=some (.int u s))(f:ev c w=some (.int u B))(h:s=B):dp g k b a (.binOp .eql m n w y) j c l (.bool true):=cU (e9 e f) (by rw[gb h])
def Xd (e:ev c n=some (.int u s))(f:ev c w=some (.int u B))(h:¬s=B):dp g k b a (.binOp .eql m n w y) j c l (.bool false):=cU (e9 e f) (by rw[fL h])
def Xp (e:ev c n=some (.int u s))(f:ev c w=some (.int u B))(h:s≠B):dp g k b a (.binOp .neq m n w y) j c l (.bool true):=cU (jt e f) (by rw[gb h])
def Xo (e:ev c n=some (.int u s))(f:ev c w=some (.int u B))(h:¬s≠B):dp g k b a (.binOp .neq m n w y) j c l (.bool false):=cU (jt e f) (by rw[fL h])
def JM (e:ev c n=some (.bool false)):dp g k b a (.unOp .not m n) j c l (.bool true):=cU (jl rfl e) rfl
def wD (e:ev c n=some (.bool true)):dp g k b a (.unOp .not m n) j c l (.bool false):=cU (jl rfl e) rfl
def Xj {R S:dk}[f:UF g R (.slice S)]{o:cG Addr}{e t:Nat}(Q:ev c n=some (.slice o e t)):dp g k b a (.call {callee:=.builtin .len,args:=#[n],argTypes:=#[R]}) j c l (.int .i64 e):=aaW Q f.h
def Xk {t:dk}[f:UF g t .string]{e:U}(o:ev c n=some (.string e)):dp g k b a (.call {callee:=.builtin .len,args:=#[n],argTypes:=#[t]}) j c l (.int .i64 e.size):=aaX o f.h
def tQ {t:dk}{Q:TypeDesc}[f:UF g t Q]{e o P:Nat}{S:C M}(r:Nat)(X:ev c n=some (.pointer (some ⟨e,o,.none⟩)))(T:l[r]? =some (cF e S P))(R:(match Q with|.struct _|.array _ _=>false|_=>true)=true)(W:S[o]? =some E):dp g k b a (.load t n) j c l E:=PV r X f.h (by revert R;cases Q<;>exact id) T W
class FO (g:dX)(t:dk)(r:Nat)(o:outParam Nat):Prop where
 h:∃e f,g.underlying t=some (.struct e)/\e[r]? =some f/\f.offset=o/\(match g.info? f.type with|some r=>Nat.beq r.size 0|.none=>true)=false
def JL {r e t Q:Nat}[o:FO g m r Q](X:ev c n=some (.pointer (some ⟨e,t,.none⟩))):dp g k b a (.fieldAddr m n r) j c l (.pointer (some ⟨e,t+Q,.none⟩)):=by obtain⟨P,f,R,S,T,W⟩:=o.h;exact aaT Q X R S T W
class ES (g:dX)(o:dk)(e:outParam Nat):Prop where
 h:∃f,g.underlying o=some (.slice f)/\(g.info? f).map (·.size)=some e
class EA (g:dX)(o:dk)(len e:outParam Nat):Prop where
 h:∃f,g.underlying o=some (.array len f)/\(g.info? f).map (·.size)=some e
def N0 {Q r f t len cap:Nat}[o:ES g m Q](X:ev c n=some (.slice (some ⟨f,t,.none⟩) len cap))(P:ev c w=some (.int u s))(W:s=(r:Nat))(R:r<len):dp g k b a (.indexAddr m n w) j c l (.pointer (some ⟨f,t+r*Q,.none⟩)):=by obtain⟨e,S,T⟩:=o.h;exact Kz Q X P S T W R
def Xi {Q r f t len:Nat}[o:EA g m len Q](X:ev c n=some (.pointer (some ⟨f,t,.none⟩)))(P:ev c w=some (.int u s))(W:s=(r:Nat))(R:r<len):dp g k b a (.indexAddr m n w) j c l (.pointer (some ⟨f,t+r*Q,.none⟩)):=by obtain⟨e,S,T⟩:=o.h;exact PO Q X P S T W R
end
def uB {b a:Prop}(c:St b a:=by first
 |exact Wz|exact Wx|exact Wm|exact WA rfl|exact Wy
 |exact Wt rfl rfl rfl|exact Wu rfl rfl rfl|exact Wp rfl rfl rfl rfl|exact Wq rfl rfl rfl rfl
 |(first|apply Wr|apply Wn rfl|apply Wv rfl|apply WE rfl|apply WC rfl|apply Ws rfl rfl|apply Wo rfl rfl rfl)
  .first
   |exact rh rfl|exact BN rfl|exact JL rfl|exact N0 rfl rfl rfl (by omega)|exact Xi rfl rfl rfl (by omega)
   |(first|exact tQ 0 rfl rfl rfl rfl|exact tQ 1 rfl rfl rfl rfl|exact tQ 2 rfl rfl rfl rfl|exact tQ 3 rfl rfl rfl rfl|exact tQ 4 rfl rfl rfl rfl|exact tQ 5 rfl rfl rfl rfl|exact tQ 6 rfl rfl rfl rfl)
   |exact aa4 rfl|exact P0 rfl rfl|exact P1 rfl rfl|exact Xj rfl|exact Xk rfl|exact PN rfl rfl
   |exact Xm rfl rfl (by omega)|exact Xn rfl rfl (by omega)|exact FZ rfl rfl (by omega)|exact Xl rfl rfl (by omega)
   |exact NY rfl rfl (by omega)|exact NZ rfl rfl (by omega)|exact Xg rfl rfl (by omega)|exact Xh rfl rfl (by omega)
   |exact Xd rfl rfl (by omega)|exact Xe rfl rfl (by omega)|exact Xo rfl rfl (by omega)|exact Xp rfl rfl (by omega)
   |exact gN rfl rfl|exact wP rfl rfl|exact gA rfl rfl|exact m6 rfl rfl|exact e9 rfl rfl|exact jt rfl rfl
   |exact kH rfl rfl|exact Px rfl rfl|exact og rfl rfl|exact BT rfl rfl
   |exact oO rfl rfl|exact Gv rfl rfl|exact PX rfl rfl|exact Xq rfl rfl|exact Xf rfl rfl|exact Xb rfl (by omega)|exact Xc rfl (by omega)
   |exact Gw rfl rfl (by omega)|exact P2 rfl rfl (by omega)|exact te rfl rfl|exact oh rfl rfl|exact aa3 rfl rfl (by omega)
   |exact wD rfl|exact JM rfl|exact jl rfl rfl|exact mC rfl rfl rfl
  all_goals rfl
 |exact WB rfl|exact Ww rfl):St b a:=c
def Y {b a:Prop}(d:a)(c:St b a:=by exact uB):b:=c d
def VC {d a b:Prop}(e:St d a:=by exact uB)(c:St a b:=by exact uB):St d b:=λf=>e (c f)
def VD {d a b:Prop}(e:St d a:=by exact VC)(c:St a b:=by exact uB):St d b:=λf=>e (c f)
def VE {d a b:Prop}(e:St d a:=by exact VD)(c:St a b:=by exact uB):St d b:=λf=>e (c f)
def VF {d a b:Prop}(e:St d a:=by exact VE)(c:St a b:=by exact uB):St d b:=λf=>e (c f)
def VG {d a b:Prop}(e:St d a:=by exact VF)(c:St a b:=by exact uB):St d b:=λf=>e (c f)
def VH {d a b:Prop}(e:St d a:=by exact VG)(c:St a b:=by exact uB):St d b:=λf=>e (c f)
def VJ {d a b:Prop}(e:St d a:=by exact VH)(c:St a b:=by exact uB):St d b:=λf=>e (c f)
def JK {d a b:Prop}(e:St d a:=by exact VJ)(c:St a b:=by exact uB):St d b:=λf=>e (c f)
def cC {b a:Prop}(d:a)(c:St b a:=by exact VC):b:=c d
def cQ {b a:Prop}(d:a)(c:St b a:=by exact VD):b:=c d
def cL {b a:Prop}(d:a)(c:St b a:=by exact VE):b:=c d
def df {b a:Prop}(d:a)(c:St b a:=by exact VF):b:=c d
def eL {b a:Prop}(d:a)(c:St b a:=by exact VG):b:=c d
def fw {b a:Prop}(d:a)(c:St b a:=by exact VH):b:=c d
def iq {b a:Prop}(d:a)(c:St b a:=by exact VJ):b:=c d
def fh {b a:Prop}(d:a)(c:St b a:=by exact JK):b:=c d
def Kp (_:C Nat)(a:Prop):Prop:=a
section
variable{k:dX}{m:Nat}{f:O}{d:Nat->Prop}{h:fJ}{i a:dD}{g:C V}{j:O}{c:Array Oper}{b:C Nat}{l e:Prop}
def Tv (o:Kp b (h a g j))(n:keep i b=some a):WL k m f d c h [] i g j:=kp b n o
def Tt {n:C V}(p:Kp b (h a (n++g) j))(o:keep i b=some a):WD k m f d c h n [] i g j:=kd b o p
def N (b:C Nat)(n:e)(o:Kp b e->l:=by
 intro n
 repeat refine Y ?_
 first|exact Tv n rfl|exact Tt n rfl|exact Tu n rfl):l:=o n
end
def Em:TypeDesc->Bool
 |.struct _=>false
 |.array _ _=>false
 |_=>true
def FR:TypeDesc->Bool
 |.struct _=>true
 |.array _ _=>true
 |_=>false
section
variable{e:dX}{v:Nat}{d:O}{c:Nat->Prop}{f:dD}{g o w T:C V}{l:O}{i h W yt z j t R a G E cap u H len x:Nat}{p K:fj}{n X Q:M}{b y m q s:C M}{r:TypeDesc}{k:IntKind}{P:Int}
def dH (ab:Nat)(hx:ev f p=some (.pointer (some ⟨t,a,.none⟩)):=by exact rfl)(ad:UF e h r:=by infer_instance)(ha:Em r=true:=by exact rfl)(hi:g[ab]? =some (cF t b G):=by exact rfl)(hv:b[a]? =some n:=by exact rfl):dp e v d c (.load h p) i f g n:=PV ab hx ad.h (by cases r<;>exact ha) hi hv
def di (ab:Nat)(hx:ev f p=some (.pointer (some ⟨t,a,.none⟩)):=by exact rfl)(ad:UF e h r:=by infer_instance)(ha:FR r=true:=by exact rfl)(hs:(e.info? h).map (·.size)=some b.length:=by kernel_rfl)(hi:g[ab]? =some (cF t m G):=by exact rfl)(hv:(m.drop a).take b.length=b:=by exact rfl):dp e v d c (.load h p) i f g (.agg b.toArray):=aa1 ab hx ad.h (by cases r<;>exact ha) hs hi hv
def eZ (ab ad:Nat)(hx:ev f p=some (.pointer (some ⟨t,a,.none⟩)):=by exact rfl)(hi:g[ab]? =some (cz T):=by exact rfl)(hj:T[ad]? =some (cF t b G):=by exact rfl)(ae:UF e h r:=by infer_instance)(ha:Em r=true:=by exact rfl)(hv:b[a]? =some n:=by exact rfl):dp e v d c (.load h p) i f g n:=aaZ ab ad hx hi hj ae.h (by cases r<;>exact ha) hv
def gj (ab:Nat)(hx:ev f p=some (.pointer (some ⟨E,a,.none⟩)):=by exact rfl)(ad:UF e h r:=by infer_instance)(ha:Em r=true:=by exact rfl)(hi:g[ab]? =some (row (.slice (some ⟨E,0,.none⟩) u cap) z j u m):=by exact rfl)(hv:m[a]? =some n:=by exact rfl):dp e v d c (.load h p) i f g n:=DU ab hx ad.h (by cases r<;>exact ha) hi hv
def jd {ad:Addr}(hx:ev f p=some (.pointer (some ad)):=by exact rfl)(ab:UF e h r:=by infer_instance)(ha:Em r=true:=by exact rfl)(hc:d.cell? ad=some n)(hF:¬c ad.block:=by exact id):dp e v d c (.load h p) i f g n:=KA hx ab.h (by cases r<;>exact ha) hc hF
def kY (hx:ev f p=some (.pointer (some ⟨t,a,.none⟩)):=by exact rfl)(ab:UF e h r:=by infer_instance)(ha:FR r=true:=by exact rfl)(hs:(e.info? h).map (·.size)=some b.length:=by kernel_rfl)(hc:∀ad ab,b[ad]? =some ab->d.cell? ⟨t,a+ad,.none⟩=some ab)(hF:¬c t:=by exact id):dp e v d c (.load h p) i f g (.agg b.toArray):=Gt hx ab.h (by cases r<;>exact ha) hs hc hF
def je (ab:Nat)(hx:ev f p=some (.pointer (some ⟨E,a,.none⟩)):=by exact rfl)(ad:UF e h r:=by infer_instance)(ha:FR r=true:=by exact rfl)(hs:(e.info? h).map (·.size)=some b.length:=by kernel_rfl)(hi:g[ab]? =some (row (.slice (some ⟨E,0,.none⟩) u cap) z j u m):=by exact rfl)(hv:(m.drop a).take b.length=b:=by exact rfl):dp e v d c (.load h p) i f g (.agg b.toArray):=Gu ab hx ad.h (by cases r<;>exact ha) hs hi hv
def sO (ab ad:Nat)(hx:ev f p=some (.pointer (some ⟨E,a,.none⟩)):=by exact rfl)(hi:g[ab]? =some (cz T):=by exact rfl)(hj:T[ad]? =some (row (.slice (some ⟨E,0,.none⟩) u cap) z j u m):=by exact rfl)(ae:UF e h r:=by infer_instance)(ha:Em r=true:=by exact rfl)(hv:m[a]? =some n:=by exact rfl):dp e v d c (.load h p) i f g n:=PU ab ad hx hi hj ae.h (by cases r<;>exact ha) hv
def qN (ab ad:Nat)(hx:ev f p=some (.pointer (some ⟨E,a,.none⟩)):=by exact rfl)(hi:g[ab]? =some (cz T):=by exact rfl)(hj:T[ad]? =some (row (.slice (some ⟨E,0,.none⟩) u cap) z j u m):=by exact rfl)(ae:UF e h r:=by infer_instance)(ha:FR r=true:=by exact rfl)(hs:(e.info? h).map (·.size)=some b.length:=by kernel_rfl)(hv:(m.drop a).take b.length=b:=by exact rfl):dp e v d c (.load h p) i f g (.agg b.toArray):=PW ab ad hx hi hj ae.h (by cases r<;>exact ha) hs hv
def cR {ab:Nat}(hx:ev f p=some (.slice (some ⟨t,a,.none⟩) len cap):=by exact rfl)(hy:ev f K=some (.int k P):=by exact rfl)(ae:ES e W j:=by infer_instance)(hi:P=(ab:Nat):=by exact rfl)(ad:ab<len:=by omega):dp e v d c (.indexAddr W p K) i f g (.pointer (some ⟨t,a+ab*j,.none⟩)):=N0 hx hy hi ad
def ee {h:dk}{parts:C (Nat×fj)}{q:C (Nat×M)}(hb:∀l,(Instr.build h q.toArray).run e l=.ok n l)(hp:wN f parts=some q:=by exact rfl):dp e v d c (.build h parts.toArray) i f g n:=aaO hp hb
section
variable{L:fR}{fn:Func}{B:C fj}{A:C M}{S:Array dk}{D:M->C V->Prop}
def eB (hf:e.funcs[L]? =some fn)(hc:∀l,cI d c g l->fz e L A l cW D)(hx:mB f B=some A:=by exact rfl)(hb:(fn.body.isNone,fn.name== "runtime.NumGoroutine")=(false,false):=by kernel_rfl):eG e v d c (.call {callee:=.value (.func L),args:=B.toArray,argTypes:=S}) i f g l (λn H'=>∃o,H'=o++g/\D n o):=DG hx hf hb hc
def ft (ab:V)(Hr:C V)(hf:e.funcs[L]? =some fn)(hH:g.Perm (ab::Hr))(hc:∀l,cI d c g l->cI l ab.fq [ab] l->fz e L A l ab.fq D)(hx:mB f B=some A:=by exact rfl)(hb:(fn.body.isNone,fn.name== "runtime.NumGoroutine")=(false,false):=by kernel_rfl):eG e v d c (.call {callee:=.value (.func L),args:=B.toArray,argTypes:=S}) i f g l (λn H'=>∃o,H'=o++Hr/\D n o):=nu ab Hr hx hf hb hH hc
def ox (Hc Hr:C V)(hf:e.funcs[L]? =some fn)(hH:g.Perm (Hc++Hr))(hc:∀l,cI d c g l->cI l (gO Hc) Hc l->fz e L A l (gO Hc) D)(hx:mB f B=some A:=by exact rfl)(hb:(fn.body.isNone,fn.name== "runtime.NumGoroutine")=(false,false):=by kernel_rfl):eG e v d c (.call {callee:=.value (.func L),args:=B.toArray,argTypes:=S}) i f g l (λn H'=>∃o,H'=o++Hr/\D n o):=Ke Hc Hr hx hf hb hH hc
end
def mP (b:C M)(hz:(e.info? h).map (·.zero)=some (some (.agg b.toArray)):=by kernel_rfl):eG e v d c (.alloc h) i f g l (λab H'=>∃t,ab=.pointer (some ⟨t,0,.none⟩)/\H'=cF t b h::g):=O1 b hz
def JD (n:M)(hz:(e.info? h).map (·.zero)=some (some n):=by kernel_rfl)(hv:n.cells=#[n]:=by exact rfl):eG e v d c (.alloc h) i f g l (λab H'=>∃t,ab=.pointer (some ⟨t,0,.none⟩)/\H'=cF t [n] h::g):=O0 n hz hv
def Vy (hx:ev f p=some n:=by exact rfl)(hv:n.cells=b.toArray:=by exact rfl):eG e v d c (.box h p) i f g l (λab H'=>∃t,ab=.pointer (some ⟨t,0,.none⟩)/\H'=cF t b h::g):=O4 hx hv
def qi (ab:fB e h z j x X)(hx:ev f p=some n:=by exact rfl)(hv:n.cells=b.toArray:=by exact rfl)(hl:b.length=j:=by exact rfl)(ae:j<=65536:=by omega):eG e v d c (.buildSlice h 1 #[(0,p)]) i f g l (λad H'=>∃t,ad=.slice (some ⟨t,0,.none⟩) 1 1/\H'=row (.slice (some ⟨t,0,.none⟩) 1 1) z j 1 b::g):=Kf ab hx hv hl ae
def jo (ad:Nat)(ag:fB e h z j x X)(hx:ev f p=some n:=by exact rfl)(hy:ev f K=some Q:=by exact rfl)(hi:kJ ad g=some (o,row n z j u m,w):=by exact rfl)(hr:∀l,cI d c g l->Rd l cW j Q H s:=by exact λl hh=>Rd.dM hh (l:=0) rfl)(h1:∀ab∈s,ab.oneCell'=true:=by simp[Value.oneCell'])(ae:(u+H)*x<=140737488355328:=by omega)(ah:u+H<=140737488355328:=by omega):eG e v d c (.call {callee:=.builtin .append,args:=#[p,K],argTypes:=#[h,h]}) i f g l (λab H'=>(∃af cap,ab=.slice af (u+H) cap)/\H'=o++row ab z j (u+H) (m++s)::w):=BF ad ag hx hy hi hr h1 ae ah
def Vx {ad:Nat}(ag:fB e h z j x X)(hx:ev f p=some n:=by exact rfl)(hy:ev f K=some Q:=by exact rfl)(hi:kJ ad g=some (o,row n z j u m,w):=by first|exact@rfl _ (kJ 0 _)|exact@rfl _ (kJ 1 _)|exact@rfl _ (kJ 2 _)|exact@rfl _ (kJ 3 _)|exact@rfl _ (kJ 4 _)|exact@rfl _ (kJ 5 _)|exact@rfl _ (kJ 6 _)|exact@rfl _ (kJ 7 _))(hr:∀l,cI d c g l->Rd l cW j Q H s:=by first|exact λl hh=>Rd.dM hh (l:=0) rfl|exact λl hh=>Rd.dM hh (l:=1) rfl|exact λl hh=>Rd.dM hh (l:=2) rfl|exact λl hh=>Rd.dM hh (l:=3) rfl)(h1:∀ab∈s,ab.oneCell'=true:=by simp[Value.oneCell'])(ae:(u+H)*x<=140737488355328:=by omega)(ah:u+H<=140737488355328:=by omega):eG e v d c (.call {callee:=.builtin .append,args:=#[p,K],argTypes:=#[h,h]}) i f g l (λab H'=>(∃af cap,ab=.slice af (u+H) cap)/\H'=o++row ab z j (u+H) (m++s)::w):=BF ad ag hx hy hi hr h1 ae ah
def gD (ab:Nat)(hx:ev f p=some (.pointer (some ⟨R,a,.none⟩)):=by exact rfl)(hy:ev f K=some n:=by exact rfl)(hi:kJ ab g=some (o,cF R b G,w):=by exact rfl)(hv:n.cells=q.toArray:=by exact rfl)(hs:(e.info? h).map (·.size)=some q.length:=by kernel_rfl)(h1:∀ad∈q,ad.oneCell'=true:=by simp[Value.oneCell'])(hl:Nat.ble (a+q.length) b.length=true:=by exact rfl)(ae:b.take a++q++b.drop (a+q.length)=y:=by exact rfl):eG e v d c (.store h p K) i f g l (λ_ H'=>H'=o++cF R y G::w):=Kh ab hx hy hi hv hs h1 hl ae
def fK (ab:Nat)(hx:ev f p=some (.pointer (some ⟨E,a,.none⟩)):=by exact rfl)(hy:ev f K=some n:=by exact rfl)(hi:kJ ab g=some (o,row (.slice (some ⟨E,0,.none⟩) u cap) z j u m,w):=by exact rfl)(hv:n.cells=q.toArray:=by exact rfl)(hs:(e.info? h).map (·.size)=some q.length:=by kernel_rfl)(h1:∀ad∈q,ad.oneCell'=true:=by simp[Value.oneCell'])(hl:a+q.length<=m.length)(ae:m.take a++q++m.drop (a+q.length)=y:=by exact rfl):eG e v d c (.store h p K) i f g l (λ_ H'=>H'=o++row (.slice (some ⟨E,0,.none⟩) u cap) z j u y::w):=Ki ab hx hy hi hv hs h1 hl ae
end
section
variable{d:dX}{e:Nat}{o b:O}{c n:Nat->Prop}{a:M->C V->Prop}{g:C V}{j:fR}{fn:Func}{h:Code}{f i k l m p q:M}
abbrev AB (d:dX)(e:Nat)(b:O)(c:Nat->Prop)(fn:Func)(h:Code)(a:M->C V->Prop)(r:dD)(g:C V):Prop:=W d e b c h (λr g s=>∃u t,(∀f,Fr e r f->cI b c g s->(results fn f.tmps).run d s=.ok u s)/\t.Sublist g/\a u t) (λr g s=>∃u t,(∀f,Fr e r f->cI b c g s->(results fn f.tmps).run d s=.ok u s)/\t.Sublist g/\a u t) (λ_ _ _ _=>False) r g b
def Vz (t:d.funcs[j]? =some fn)(u:cI b c g b)(r:AB d e b c fn h a [] g)(s:fn.body=some h:=by exact rfl)(w:fn.ntmps=e:=by exact rfl)(v:Nat.ble 0 e=true:=by exact rfl):fz d j [] b c a:=enter t s w [] v trivial u r
def dS (t:d.funcs[j]? =some fn)(u:cI b c g b)(r:AB d e b c fn h a [(0,f)] g)(s:fn.body=some h:=by exact rfl)(w:fn.ntmps=e:=by exact rfl)(v:Nat.ble 1 e=true:=by exact rfl):fz d j [f] b c a:=enter t s w [(0,f)] v ⟨rfl,trivial⟩ u r
def dR (t:d.funcs[j]? =some fn)(u:cI b c g b)(r:AB d e b c fn h a [(0,f),(1,i)] g)(s:fn.body=some h:=by exact rfl)(w:fn.ntmps=e:=by exact rfl)(v:Nat.ble 2 e=true:=by exact rfl):fz d j [f,i] b c a:=enter t s w [(0,f),(1,i)] v ⟨rfl,rfl,trivial⟩ u r
def hJ (t:d.funcs[j]? =some fn)(u:cI b c g b)(r:AB d e b c fn h a [(0,f),(1,i),(2,k)] g)(s:fn.body=some h:=by exact rfl)(w:fn.ntmps=e:=by exact rfl)(v:Nat.ble 3 e=true:=by exact rfl):fz d j [f,i,k] b c a:=enter t s w [(0,f),(1,i),(2,k)] v ⟨rfl,rfl,rfl,trivial⟩ u r
def sP (t:d.funcs[j]? =some fn)(u:cI b c g b)(r:AB d e b c fn h a [(0,f),(1,i),(2,k),(3,l)] g)(s:fn.body=some h:=by exact rfl)(w:fn.ntmps=e:=by exact rfl)(v:Nat.ble 4 e=true:=by exact rfl):fz d j [f,i,k,l] b c a:=enter t s w [(0,f),(1,i),(2,k),(3,l)] v ⟨rfl,rfl,rfl,rfl,trivial⟩ u r
def Aq (t:d.funcs[j]? =some fn)(u:cI b c g b)(r:AB d e b c fn h a [(0,f),(1,i),(2,k),(3,l),(4,m)] g)(s:fn.body=some h:=by exact rfl)(w:fn.ntmps=e:=by exact rfl)(v:Nat.ble 5 e=true:=by exact rfl):fz d j [f,i,k,l,m] b c a:=enter t s w [(0,f),(1,i),(2,k),(3,l),(4,m)] v ⟨rfl,rfl,rfl,rfl,rfl,trivial⟩ u r
end
section
variable{g:dX}{i:Nat}{b j:O}{a:Nat->Prop}{l:fJ}{m:Nat->fJ}{c:M->C V->Prop}{f e:C V}{h:dD}{fn:Func}{k:C ResultVar}{d:C M}
abbrev Jx (g:dX)(i:Nat)(b:O)(a:Nat->Prop)(fn:Func)(c:M->C V->Prop):fJ:=λh f j=>∃o e,(∀n,Fr i h n->cI b a f j->(results fn n.tmps).run g j=.ok o j)/\e.Sublist f/\c o e
def dP (q:fn.results=k.toArray)(o:c (l8 d) f)(r:xh h k=some d:=by exact rfl):W g i b a .ret l (Jx g i b a fn c) m h f j:=eM ⟨_,_,λn p _=>im q r n p _,gq _,o⟩
def gT (q:fn.results=k.toArray)(o:c (l8 d) [])(r:xh h k=some d:=by exact rfl):W g i b a .ret l (Jx g i b a fn c) m h f j:=eM ⟨_,_,λn p _=>im q r n p _,iw _,o⟩
end
def Ti:Nat->C Nat->Bool
 |_,[]=>true
 |a,c::b=>bif Nat.beq a c then false else Ti a b
def uy:Nat->Nat->C Nat->C (Nat×Bool)
 |_,0,_=>[]
 |a,b+1,es=>(a,Ti a es)::uy (a+1) b es
abbrev F (a:Int):M:=.int .i64 a
abbrev J (a:Int):M:=.int .u64 a
abbrev Z (a:Nat):M:=.pointer (some ⟨a,0,.none⟩)
abbrev vS (b c a:Nat):M:=.slice (some ⟨b,0,.none⟩) c a
abbrev vN:M:=.slice .none 0 0
abbrev vQ:M:=.pointer .none
abbrev vE:M:=.string ByteArray.empty
section
variable{g:dX}{j:Nat}{c:O}{b:Nat->Prop}{i E:fJ}{G:Nat->fJ}{f d:dD}{h m T v Q:C V}{k:O}{a:Array Oper}{e:C Oper}{s w K x n L t P X q id:Nat}{o:String}{r:Array Edge}{S y:fj}{p z:M}{l H u:C M}
def dj (l:C M)(W:∀n w',WL g j c b a i e ((q,Z n)::f) (cF n l w::h) w')(hz:(g.info? w).map (·.zero)=some (some (.agg l.toArray)):=by kernel_rfl)(hd:Nat.blt q j=true:=by exact rfl):WL g j c b a i (⟨some q,.alloc w,s,o,r,.none⟩::e) f h k:=dw (O1 l hz) (λ_ _ w' ⟨n,e1,e2⟩=>by subst e1;subst e2;exact W n w') hd
def CN (p:M)(W:∀n w',WL g j c b a i e ((q,Z n)::f) (cF n [p] w::h) w')(hz:(g.info? w).map (·.zero)=some (some p):=by kernel_rfl)(hv:p.cells=#[p]:=by exact rfl)(hd:Nat.blt q j=true:=by exact rfl):WL g j c b a i (⟨some q,.alloc w,s,o,r,.none⟩::e) f h k:=dw (O0 p hz hv) (λ_ _ w' ⟨n,e1,e2⟩=>by subst e1;subst e2;exact W n w') hd
def dK (W:∀n w',WL g j c b a i e ((q,Z n)::f) (cF n l w::h) w')(hx:ev f S=some p:=by exact rfl)(hv:p.cells=l.toArray:=by exact rfl)(hd:Nat.blt q j=true:=by exact rfl):WL g j c b a i (⟨some q,.box w S,s,o,r,.none⟩::e) f h k:=dw (O4 hx hv) (λ_ _ w' ⟨n,e1,e2⟩=>by subst e1;subst e2;exact W n w') hd
def gZ (W:fB g w K x X z)(ad:∀n w',WL g j c b a i e ((q,vS n 1 1)::f) (row (vS n 1 1) K x 1 l::h) w')(hx:ev f S=some p:=by exact rfl)(hv:p.cells=l.toArray:=by exact rfl)(hl:l.length=x:=by exact rfl)(ae:x<=65536:=by omega)(hd:Nat.blt q j=true:=by exact rfl):WL g j c b a i (⟨some q,.buildSlice w 1 #[(0,S)],s,o,r,.none⟩::e) f h k:=dw (Kf W hx hv hl ae) (λ_ _ w' ⟨n,e1,e2⟩=>by subst e1;subst e2;exact ad n w') hd
def cO (W:Nat)(ad:∀w',WL g j c b a i e f (m++cF L H P::T) w')(hx:ev f S=some (.pointer (some ⟨L,t,.none⟩)):=by exact rfl)(hy:ev f y=some p:=by exact rfl)(hi:kJ W h=some (m,cF L l P,T):=by exact rfl)(hv:p.cells=u.toArray:=by exact rfl)(hs:(g.info? w).map (·.size)=some u.length:=by kernel_rfl)(h1:∀ae∈u,ae.oneCell'=true:=by simp[Value.oneCell'])(hl:Nat.ble (t+u.length) l.length=true:=by exact rfl)(af:l.take t++u++l.drop (t+u.length)=H:=by exact rfl):WL g j c b a i (⟨.none,.store w S y,s,o,r,.none⟩::e) f h k:=iQ (Kh W hx hy hi hv hs h1 hl af) (λ_ _ w' K=>by subst K;exact ad w')
section
variable{R:fR}{fn:Func}{B:C fj}{A:C M}{ab:Array dk}{D:M->C V->Prop}
def dd (hf:g.funcs[R]? =some fn)(hc:∀k,cI c b h k->fz g R A k cW D)(ad:∀p m w',D p m->WL g j c b a i e ((q,p)::f) (m++h) w')(hx:mB f B=some A:=by exact rfl)(hb:(fn.body.isNone,fn.name== "runtime.NumGoroutine")=(false,false):=by kernel_rfl)(hd:Nat.blt q j=true:=by exact rfl):WL g j c b a i (⟨some q,.call {callee:=.value (.func R),args:=B.toArray,argTypes:=ab},s,o,r,.none⟩::e) f h k:=dw (DG hx hf hb hc) (λp _ w' ⟨m,K,W⟩=>by subst K;exact ad p m w' W) hd
def cY (W:V)(Hr:C V)(hf:g.funcs[R]? =some fn)(hH:h.Perm (W::Hr))(hc:∀k,cI c b h k->cI k W.fq [W] k->fz g R A k W.fq D)(ae:∀p m w',D p m->WL g j c b a i e ((q,p)::f) (m++Hr) w')(hx:mB f B=some A:=by exact rfl)(hb:(fn.body.isNone,fn.name== "runtime.NumGoroutine")=(false,false):=by kernel_rfl)(hd:Nat.blt q j=true:=by exact rfl):WL g j c b a i (⟨some q,.call {callee:=.value (.func R),args:=B.toArray,argTypes:=ab},s,o,r,.none⟩::e) f h k:=dw (nu W Hr hx hf hb hH hc) (λp _ w' ⟨m,K,ad⟩=>by subst K;exact ae p m w' ad) hd
end
def vC (ad:C Nat):C (Nat×Bool):=ad.map λW=>bif Nat.ble 1000 W then(W-1000,false)else(W,true)
def eO (ad:Nat)(es:C Nat)(ae Hm:C V)(hH:h.Perm (ae++Hm))(af:∀w',WD g j c b a i ae (uy 0 ad es) f Hm w')(hm:g.follows .mixedOrders=true:=by kernel_rfl)(ah:Region.noSelect a=true:=by kernel_rfl)(ai:ou a (Array.replicate a.size false) (uy 0 ad es)=true:=by kernel_rfl)(ag:Nat.ble (uy 0 ad es).length a.size=true:=by exact rfl):W g j c b (.region id a true) i E G f h k:=Iy _ ae Hm hm ah ai ag hH af
def kB (ad:Nat)(es:C Nat)(ae:∀w',WD g j c b a i h (uy 0 ad es) f [] w')(hm:g.follows .mixedOrders=true:=by kernel_rfl)(ag:Region.noSelect a=true:=by kernel_rfl)(ah:ou a (Array.replicate a.size false) (uy 0 ad es)=true:=by kernel_rfl)(af:Nat.ble (uy 0 ad es).length a.size=true:=by exact rfl):W g j c b (.region id a true) i E G f h k:=Iy _ h [] hm ag ah af (ik _) ae
def mm (ad:Nat)(es:C Nat)(ae:C iR)(Hm:C V)(hH:h.Perm (j3 ae++Hm))(af:∀w',WK g j c b a i ae (uy 0 ad es) f Hm w')(hm:g.follows .mixedOrders=true:=by kernel_rfl)(ai:Region.noSelect a=true:=by kernel_rfl)(aj:ou a (Array.replicate a.size false) (uy 0 ad es)=true:=by kernel_rfl)(ag:Nat.ble (uy 0 ad es).length a.size=true:=by exact rfl)(ah:FU (uy 0 ad es) ae=true:=by exact rfl):W g j c b (.region id a true) i E G f h k:=U7 _ ae Hm hm ai aj ag ah hH af
def oW (ad:C Nat)(ae Hm:C V)(hH:h.Perm (ae++Hm))(af:∀w',WD g j c b a i ae (vC ad) f Hm w')(hm:g.follows .mixedOrders=true:=by kernel_rfl)(ah:Region.noSelect a=true:=by kernel_rfl)(ai:ou a (Array.replicate a.size false) (vC ad)=true:=by kernel_rfl)(ag:Nat.ble (vC ad).length a.size=true:=by exact rfl):W g j c b (.region id a true) i E G f h k:=Iy _ ae Hm hm ah ai ag hH af
def Nc (ad:C Nat)(ae:∀w',WD g j c b a i h (vC ad) f [] w')(hm:g.follows .mixedOrders=true:=by kernel_rfl)(ag:Region.noSelect a=true:=by kernel_rfl)(ah:ou a (Array.replicate a.size false) (vC ad)=true:=by kernel_rfl)(af:Nat.ble (vC ad).length a.size=true:=by exact rfl):W g j c b (.region id a true) i E G f h k:=Iy _ h [] hm ag ah af (ik _) ae
def CM (ad:C Nat)(ae:C iR)(Hm:C V)(hH:h.Perm (j3 ae++Hm))(af:∀w',WK g j c b a i ae (vC ad) f Hm w')(hm:g.follows .mixedOrders=true:=by kernel_rfl)(ai:Region.noSelect a=true:=by kernel_rfl)(aj:ou a (Array.replicate a.size false) (vC ad)=true:=by kernel_rfl)(ag:Nat.ble (vC ad).length a.size=true:=by exact rfl)(ah:FU (vC ad) ae=true:=by exact rfl):W g j c b (.region id a true) i E G f h k:=U7 _ ae Hm hm ai aj ag ah hH af
def cH {d:dD}(W:C Nat)(hn:i d h k)(ad:keep f W=some d:=by exact rfl):WL g j c b a i [] f h k:=kp W ad hn
def iK {d:dD}{ae:C V}(W:C Nat)(hn:i d (ae++h) k)(ad:keep f W=some d:=by exact rfl):WD g j c b a i ae [] f h k:=kd W ad hn
def Ax {d:dD}{ae:C V}(W is:C Nat)(hn:i d v k)(ad:keep f W=some d:=by exact rfl)(hp:pick is (ae++h)=some (v,Q):=by exact rfl):WD g j c b a i ae [] f h k:=sK W is ad hp hn
def VB {d:dD}{ae:C iR}(ad is:C Nat)(hn:i d v k)(W:keep f ad=some d:=by exact rfl)(hp:pick is (j3 ae++h)=some (v,Q):=by exact rfl):WX g j c b a i .done ae f h k:=atE d is (ti W) hp hn
def sQ {d:dD}{ae:C iR}(ad is:C Nat)(hn:i d v k)(W:keep f ad=some d:=by exact rfl)(hp:pick is (j3 ae++h)=some (v,Q):=by exact rfl):WK g j c b a i ae [] f h k:=ate d is (ti W) hp hn
def oy {d:dD}{ae:C V}(ad is:C Nat)(hn:i d v k)(W:keep f ad=some d:=by exact rfl)(hp:pick is (ae++h)=some (v,Q):=by exact rfl):WT g j c b a i ae .done f h k:=atA d is (ti W) hp hn
def IM {d:dD}{ae:C V}(ad:C Nat)(hn:i d (ae++h) k)(W:keep f ad=some d:=by exact rfl):WT g j c b a i ae .done f h k:=atz d (ti W) hn
def cK {ad:Code}(is:C Nat)(ae:W g j c b ad i E G f v k)(hp:pick is h=some (v,Q):=by exact rfl):W g j c b ad i E G f h k:=ET is hp ae
def fu {W:C Oper}(is:C Nat)(ad:WL g j c b a i W f v k)(hp:pick is h=some (v,Q):=by exact rfl):WL g j c b a i W f h k:=M7 is hp ad
def iy {ad j':Nat}{n W:Bool}{m0:dD}{H0:C V}(h1:lk f j'=some (.bool W):=by exact rfl)(ht:lk f ad=some (.bool n):=by exact rfl)(h2:kf m0 f:=by repeat(first|exact trivial|refine⟨rfl,?_⟩))(h3:H0.Sublist h:=by exact gq _):WL g j c b a (λd H' _=>lk d j'=some (.bool W)/\lk d ad=some (.bool n)/\kf m0 d/\H0.Sublist H') [] f h k:=atm h1 ht h2 h3
end
def Kq (a:Prop):Prop:=a
section
variable{i:dX}{k:Nat}{b:O}{a:Nat->Prop}{g n:fJ}{m:Nat->fJ}{c j:dD}{d o:C V}{f:O}{l:Array Oper}{h e:Prop}
def eJ {p:Code}(q:C Nat)(s:W i k b a p g n m j d f)(r:keep c q=some j:=by exact rfl):W i k b a p g n m c d f:=kw q r s
def Ny:St (WL i k b a l g [] c d f) (g c d f):=λq p s t _ r=>wpList_nil (r p f ⟨c,d,s,t,q⟩)
def Nw {q:C V}(p:keep c (c.map Prod.fst)=some j):St (WD i k b a l g q [] c d f) (g j (q++d) f):=λr=>kd _ p r
def Nz {q:C iR}(p:keep c (c.map Prod.fst)=some j):St (WK i k b a l g q [] c d f) (g j (j3 q++d) f):=λr=>ui _ p r
def Ic (q:e)(p:St h e:=by first|exact uB|exact Ny|exact Nw rfl|exact Nz rfl):h:=p q
def uE (q:e)(p:St h e:=by first|exact Ny|exact Nw rfl|exact Nz rfl):h:=p q
def ir (r:C Nat)(p:e)(q:Kp r e->h:=by
 intro p
 repeat first|refine Y ?_|(refine uE ?_;refine Y ?_)
 first|exact Tv p rfl|exact Tt p rfl|exact Tu p rfl):h:=q p
def cB (p:e)(q:Kq e->h:=by
 intro p
 repeat refine Ic ?_
 exact p):h:=q p
def cZ {p:fj}{w x:Code}{s:Prop}[Decidable s](v:s->W i k b a w g n m c d f)(u:¬s->W i k b a x g n m c d f)(q:Kq (W i k b a (.cond p w x) g n m c d f)->h:=by
 intro r
 repeat refine Ic ?_
 exact r) (t:ev c p=some (.bool (decide s)):=by exact rfl):h:=q (jc t v u)
def fP {q:fj}{w x:Code}{p:Bool}(v:p=true->W i k b a w g n m c d f)(u:¬p=true->W i k b a x g n m c d f)(r:Kq (W i k b a (.cond q w x) g n m c d f)->h:=by
 intro s
 repeat refine Ic ?_
 exact s) (t:ev c q=some (.bool p):=by exact rfl):h:=r (kL t v u)
def db {t:M->C V->Prop}{fn:Func}{p:C ResultVar}{s:C M}(v:fn.results=p.toArray)(q:t (l8 s) d)(u:Kq (W i k b a .ret g (Jx i k b a fn t) m c d f)->h:=by
 intro r
 repeat refine Ic ?_
 exact r) (w:xh c p=some s:=by exact rfl):h:=u (dP v q w)
end
def fa {a b:Prop}(c:a)(d:a->b):b:=d c
def oX {a:Sort _}{c:Prop}(d:a)(e:let b:=d;b=b->c):c:=e rfl
def xi (o:M)(k j:Nat)(c:C M):V where
 fq:=λr=>o.ownBlock=some r
 ok:=λp=>c.length=j*k/\∃b d a l fr,o=.slice (some ⟨b,0,.none⟩) j d/\j<=d/\p.heap[b]? =some (.cells a l fr)/\∀(m:Nat)(n:M),c[m]? =some n->a[m]? =some n
 loc:=λp s q i=>by obtain⟨e,b,d,a,l,fr,rfl,f,g,h⟩:=i;exact⟨e,b,d,a,l,fr,rfl,f,(q b rfl).trans g,h⟩
def cI.more {j o d:O}{g:Nat->Prop}{p:C V}{m:V}(h:cI j g p o)(e:lR (λ_=>False) o d)(k:m.ok d)(a:∀c,m.fq c->o.heap.size<=c/\c<d.heap.size):cI j g (m::p) d:=by
 refine⟨h.1.trans e (λ_ l=>l.elim),⟨k,?_,?_⟩,?_⟩
 .intro c b;exact⟨(a c b).2,.inl (gF h.1.size (a c b).1)⟩
 .intro n f c b i;have:=((h.2.mem n f).2 c i).1;have:=(a c b).1;omega
 .exact h.2.keep (λn f c b=>e.block c ((h.2.mem n f).2 c b).1 id) e.size
section
variable{d:dX}{i:Nat}{c:O}{b:Nat->Prop}{e:dD}{f:C V}{a:O}{h:dk}{g:fj}
def aal {src dst j:dk}{k:U}{H:TypeDesc}(D:ev e g=some (.string k))(B:d.underlying src=some H)(y:d.underlying dst=some (.slice j))(z:d.underlying j=some (.int .u8)):eG d i c b (.convert src dst g) h e f a (λK v=>(∃o n,K=.slice (some ⟨o,0,.none⟩) k.size n)/\v=xi K 1 k.size ((k.data.toList.map UInt8.toNat).map λm:Nat=>Value.int .u8 (m:Int))::f):=λQ l R S w L x A s=>by
 unfold Oper.wp;have:(execOp l.eval Q).run d a=.ok (.value (.slice (some ⟨a.heap.size,0,none⟩) k.size (grownCap a k.size 0 j))) (Lib.bytesWorld a j k):=by simp only[execOp,w,x.eval D,ke,Lib.run_convert_string_bytes a src dst j k B y z,j8,ku]
 rw[this,kt];have q:k.size<=grownCap a k.size 0 j:=grownCap_ge a _ _ _;refine s _ _ _ ⟨⟨_,_,rfl⟩,rfl⟩ (A.more ⟨rfl,rfl,rfl,by rw[Lib.bytesWorld_size];omega,λG s _=>Lib.bytesWorld_at_old a j k G s⟩ ?_ ?_)
 .refine⟨by simp,_,_,_,_,_,rfl,q,Lib.bytesWorld_at_new a j k,λE H t=>?_⟩;have r:E<k.data.size:=by have:=(da.1 t).1;simpa using this
  simp only[jj,eK,vU,yR r,tK,ln,Function.comp_apply]at t;subst t;have u:E<k.size:=r;simp[Lib.bytesCells,Array.getElem?_append,u,yR r]
 .intro G p;simp only[xi,Value.ownBlock,ln]at p;subst p;rw[Lib.bytesWorld_size];omega
def wy (d:dX)(c:O)(b:Nat->Prop)(e:dD)(f:C V):C ResultVar->C M->Prop
 |[],[]=>True
 |.tmp m::l,n::k=>lk e m=some n/\wy d c b e f l k
 |.cell o m::l,n::k=>(∃j,lk e o=some (.pointer (some ⟨j,0,.none⟩))/\∀a,cI c b f a->(loadVar m ⟨j,0,.none⟩).run d a=.ok n a)/\wy d c b e f l k
 |_,_=>False
def eY:wy d c b e f [] []:=trivial
def gg {n:Nat}{o:M}{m:C ResultVar}{k:C M}(j:lk e n=some o)(l:wy d c b e f m k):wy d c b e f (.tmp n::m) (o::k):=⟨j,l⟩
def eX {o p:Nat}{q:M}{n:C ResultVar}{l:C M}(k:∃j,lk e o=some (.pointer (some ⟨j,0,.none⟩))/\∀a,cI c b f a->(loadVar p ⟨j,0,.none⟩).run d a=.ok q a)(m:wy d c b e f n l):wy d c b e f (.cell o p::n) (q::l):=⟨k,m⟩
def e4 {B j n t:Nat}{l:C M}{k:TypeDesc}(m:Nat)(A:lk e B=some (.pointer (some ⟨j,0,.none⟩)))(v:d.underlying t=some k)(u:(match k with|.struct _|.array _ _=>true|_=>false)=true)(s:(d.info? t).map (·.size)=some l.length)(x:f[m]? =some (cF j l n)):∃j,lk e B=some (.pointer (some ⟨j,0,.none⟩))/\∀a,cI c b f a->(loadVar t ⟨j,0,.none⟩).run d a=.ok (.agg l.toArray) a:=by
 refine⟨j,A,λa w=>?_⟩;obtain⟨D,y,p⟩:=nq.1 s;have o:(isAgg t).run d a=.ok true a:=by cases k<;>simp_all[isAgg,gG v]
 have r:a.heap[j]? =some (.cells l.toArray n (0,0)):=w.ok x;have q:=Ex (c:=d) a j l 0 0 #[] (λD E z=>by rw[tL a j _ l.toArray n (0,0) r];simpa using z);simp[loadVar,o,sizeOf,typeInfo,y,p,loadCells,q]
def eW {fn:Func}{p:C ResultVar}{k:C M}(G:fn.results=p.toArray)(H:wy d c b e f p k)(l:Act)(u:Fr i e l)(a:O)(E:cI c b f a):(results fn l.tmps).run d a=.ok (l8 k) a:=by
 have y:∀(m:ResultVar->Sem M),(∀o,m (.tmp o)=pure (l.tmps.getD o undef))->(∀t o,m (.cell t o)=(do let g<-asAddr (l.tmps.getD t undef);loadVar o g))->
  ∀(p:C ResultVar)(k:C M),wy d c b e f p k->(p.mapM m).run d a=.ok k a:=by
  intro m D B p
  induction p with
  |nil=>
   intro k j;cases k with
   |nil=>rfl
   |cons L k=>cases j
  |cons g p x=>
   intro k j;cases k with
   |nil=>cases g<;>cases j
   |cons L k=>
    cases g with
    |tmp o=>have s:=u.get o L j.1;have r:=x k j.2;simp only[List.mapM_cons,ke,D,ku,j8,r];simp[s]
    |cell t o=>
     obtain⟨⟨q,A,v⟩,z⟩:=j;have s:=u.get t _ A;have r:=x k z;have K:l.tmps.getD t undef=.pointer (some ⟨q,0,.none⟩):=by simp[s]
     simp only[List.mapM_cons,ke,B,K,asAddr,ku,j8,v a E,r]
 have w:∀(n:C M),(if j:n.toArray.size=1 then n.toArray[0]else Value.tuple n.toArray)=l8 n:=by
  intro n;cases n with
  |nil=>rfl
  |cons Q n=>cases n with
   |nil=>rfl
   |cons L n=>simp[l8]
 unfold results;rw[G];simp only[List.mapM_toArray,ke,Sem.run_map];rw[y _ (λo=>rfl) (λt o=>rfl) p k H];simp only[j8,ku];rw[w]
end
end Go.Proofs.YtdlpoonfcdoiiaaGreat
