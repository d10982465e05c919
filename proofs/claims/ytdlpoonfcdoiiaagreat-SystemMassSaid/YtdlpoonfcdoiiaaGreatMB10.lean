/- What the code does, step by step, and plain facts: part 10. They have no conditions. -/
import Derived.Test.YtdlpoonfcdoiiaaGreatMB9
namespace Go.Proofs.YtdlpoonfcdoiiaaGreat
open Go.RowKit Go.Proofs.Tryz
set_option maxHeartbeats 40000000
set_option linter.all false
def cP (a:PC)(b c:M):C M:=[F a.length,F a.late,F a.ga,F a.dm,F a.spread,F a.queue,F a.mode,F a.et,F a.exact,J a.rK,F a.depth,F a.width,F a.top,F a.key,b,c,J a.rM]
def gV (c:PC)(a b:M):M:=.agg (cP c a b).toArray
def ec (a:C Nat):C M:=a.map λb:Nat=>Value.int .i64 (b:Int)
section
variable{a:PC}
def Oi (b:a.Ok)(d e:M)(l:O):Sn 66 [gV a d e] l λk g=>k=F 0/\g=[]:=by have h:=b.length;have i:=b.late;have j:=b.ga;refine dS func66 hS ?_;refine Mf λc f=>?_;refine N [1] ?_;refine N [30] ?_;refine N [2] ?_;refine gT results66 ?_;exact⟨rfl,rfl⟩
def JW (o:a.Ok)(d e:M)(b:C Nat)(m:cG Addr)(g:Nat)(l:O)(p:∀f∈b,f<=1099511627776)(A:b.length<=2)(q:Rd l cW 1 (PA m b.length g) b.length (ec b)):Sn 37 [gV a d e,PA m b.length g] l λE n=>E=.bool true/\n=[]:=by
 refine dR func37 hS ?_;refine Mf λc s=>?_;refine K4 [2,7,8,9] ?_;refine dB (λr B n G=>∃i:Nat,B=[(2,Z c),(7,PA m b.length g),(8,F b.length),(9,F i)]/\n=[cF c (cP a d e) 27]/\r+i=b.length) b.length ⟨0,rfl,rfl,rfl⟩ ?_;rintro r _ _ H ⟨i,rfl,rfl,z⟩;refine cZ (λj=>?_) λj=>?_
 .have h:i<b.length:=by omega
  obtain⟨f,k⟩:∃f,b[i]? =some f:=⟨_,dr h⟩;have w:=p f (eH k);refine df ?_;obtain⟨x,D,rfl,u,d1⟩:=q.at_ h;refine I (cR (ab:=i) (ad:=h)) ?_;refine I (jd (n:=F f) (hc:=d1 _ _ (yn (λf:Nat=>Value.int .i64 (f:Int)) k))) ?_;refine ir [2,7,8,9] ?_;exact⟨r-1,by omega,i+1,rfl,rfl,by omega⟩
 .refine dI ?_;refine K3 0 (f:=cP a d e) ?_;refine dd func66 (λl y=>Oi o d e l) ?_;rintro _ _ t ⟨rfl,rfl⟩;refine N [4] ?_;refine gT results37 ?_;exact⟨rfl,rfl⟩
def Dv (d:a.Ok)(b c:M)(e:Nat)(k:O)(j:e<=1099511627776):Sn 20 [gV a b c,F e] k λq o=>q=F (a.gx e:Int)/\o=[]:=by have p:=d.length;refine dR func20 hS ?_;refine Mf λf l=>?_;refine K3 0 (f:=cP a b c) ?_;refine Y ?_;refine gZ mj λg m=>?_;refine dd func37 (λk h=>JW d b c [e] _ 1 k (by simpa using j) (by simp) (Rd.dM h (l:=0) rfl)) ?_;rintro _ _ n ⟨rfl,rfl⟩;refine I (wD rfl) ?_;refine cH [1,2,9] ?_;refine fw ?_;refine I (cU (z:=F (a.gx e:Int)) (Gw rfl rfl (by omega)) (by unfold PC.gx;rw[Fb])) ?_;refine N [4] ?_;refine gT results20 ?_;exact⟨rfl,rfl⟩
def Oj (c:a.Ok)(b d:M)(e:Nat)(k:O)(j:e<=1099511627776):Sn 56 [gV a b d,F e] k λr p=>r=F (a.low e:Int)/\p=[]:=by have q:=c.length;have o:=c.late;refine dR func56 hS ?_;refine Mf λf l=>?_;refine K3 0 (f:=cP a b d) ?_;refine Y ?_;refine gZ mj λg m=>?_;refine dd func37 (λk h=>JW c b d [e] _ 1 k (by simpa using j) (by simp) (Rd.dM h (l:=0) rfl)) ?_;rintro _ _ n ⟨rfl,rfl⟩;refine I (wD rfl) ?_;refine cH [1,2,9] ?_;refine iq ?_;refine I (wR (r:=((e-a.late:Nat):Int)) rfl rfl (by split<;>omega)) ?_;refine cC ?_;refine I (cU (z:=F (a.low e:Int)) (Gw rfl rfl (by omega)) (by unfold PC.low;rw[Fb])) ?_;refine N [4] ?_;refine gT results56 ?_;exact⟨rfl,rfl⟩
def adi (b d:Int)(c:O):(Instr.buildSlice 22 2 [(0,F b),(1,F d)].toArray).run prog c=.ok (vS c.heap.size 2 2) (c.alloc (.cells [F b,F d].toArray 3)):=by kernel_rfl
def YI (f:a.Ok)(b c:M)(d k:Nat)(g:O)(h:d<=1099511627776)(n:k<=1099511627776):Sn 81 [gV a b c,F d,F k] g λA w=>A=F (a.verdict d k:Int)/\w=[]:=by
 have z:=f.ga;have x:a.low d<=d:=gF (C9 ..) (Nat.sub_le ..);have y:a.gx k<=k:=C9 ..;refine hJ func81 hS ?_;refine Mf λo q=>?_;refine K3 0 (f:=cP a b c) ?_;refine cC ?_;refine dw (vg (g:=3) (b:=1) rfl (λg=>adi _ _ g) rfl (by decide)) ?_;rintro _ _ r ⟨p,rfl,rfl⟩;refine dd func37 (λg j=>JW f b c [d,k] _ 2 g (by simp;exact⟨h,n⟩) (by simp) (Rd.dM j (l:=0) rfl)) ?_;rintro _ _ s ⟨rfl,rfl⟩;refine I (wD rfl) ?_;refine cH [1,2,3,14] ?_;refine cQ ?_;refine oW [0,1,3,4,1002,1005,6,7] [_,_] [] (ik _) λv=>?_;refine cN rfl (di 1 (b:=cP a b c)) ?_;refine Y ?_;refine cN rfl (di 1 (b:=cP a b c)) ?_;refine Y ?_;refine eh rfl (eB func56 (λg j=>Oj f b c d g h)) ?_;rintro _ _ t ⟨_,rfl,rfl,rfl⟩;refine⟨_,jQ _ _ _,?_⟩;refine eh rfl (eB func20 (λg j=>Dv f b c k g n)) ?_;rintro _ _ u ⟨_,rfl,rfl,rfl⟩;refine⟨_,jQ _ _ _,?_⟩;refine cZ (λl=>?_) λl=>?_
 .refine N [6] ?_;refine gT results81 ?_;exact⟨by unfold PC.verdict;rw[cM (by omega)];rfl,rfl⟩
 .refine cZ (λm=>?_) λm=>?_
  .refine N [6] ?_;refine gT results81 ?_;exact⟨by unfold PC.verdict;rw[cJ (by omega),cM (by omega)];rfl,rfl⟩
  .refine N [6] ?_;refine gT results81 ?_;exact⟨by unfold PC.verdict;rw[cJ (by omega),cJ (by omega)];rfl,rfl⟩
end
section
variable{a:PC}
def QL (d:C Nat)(c:M)(b k:Nat)(e:U)(f:O)(g:d.length=16)(j:Rd f cW 1 c 16 (dF d))(i:e.size<=140737488355328)(n:k<=64):Sn 260 [c,J b,F k,.string e] f λo m=>o=J (ry d (S0 b k) e)/\m=[]:=by refine sP func260 hS ?_;refine cB ?_;refine I (KC rfl rfl) ?_;refine I (BM rfl rfl) ?_;refine Ku func202 (λf h=>K6 d c _ e f g (j.dx h) i) ?_;rintro _ _ l ⟨rfl,rfl⟩;refine N [8] ?_;refine gT results260 ?_;exact⟨rfl,rfl⟩
def HS (c:a.Ok)(f:M)(i:cG Addr)(b:Nat)(g:O):Sn 115 [gV a f (PA i 16 b)] g λn j=>n=F 0/\j=[]:=by have k:=c.dm;have l:=c.spread;refine dS func115 hS ?_;refine Mf λe h=>?_;refine cB ?_;refine nh rfl rfl (eB func154 (λg m=>Du i b g)) ?_;rintro _ _ d ⟨_,rfl,rfl,rfl⟩;refine N [28] ?_;refine N [2] ?_;refine gT results115 ?_;exact⟨rfl,rfl⟩
def aiP (d:a.Ok)(c g:M)(h:U)(b:O)(f:Rd b cW 1 g 16 (dF a.table))(k:h.size<=140737488355328):Sn 156 [gV a c g,.string h] b λt r=>t=F (a.home h:Int)/\r=[]:=by have s:=d.dm;obtain⟨q,j,rfl,-⟩:=id f;refine dR func156 hS ?_;refine Mf λi l=>?_;refine K3 0 (f:=cP a c _) ?_;refine dd func115 (λb e=>HS d c q j b) ?_;rintro _ _ m ⟨rfl,rfl⟩;refine N [1,2,7] ?_;refine cQ ?_;refine oW [0,1,2,3,4,6,7,1005,1008,9] [_] [] (ik _) λp=>?_;refine fw ?_;refine eh rfl (eB func202 (λb e=>K6 a.table _ _ h b d.table.1 (f.dx e) k)) ?_;rintro _ _ n ⟨_,rfl,rfl,rfl⟩;refine⟨_,jQ _ _ _,?_⟩;refine eh rfl (eB func201 (λb e=>H4 _ a.dm b (GQ _ _ _) (by omega))) ?_;rintro _ _ o ⟨_,rfl,rfl,rfl⟩;refine⟨_,jQ _ _ _,?_⟩;refine N [4] ?_;refine gT results156 ?_;exact⟨rfl,rfl⟩
def S2 (k:a.Ok)(d q:M)(j:U)(m:O)(p:Rd m cW 1 q 16 (dF a.table))(y:j.size<=140737488355328):Sn 122 [gV a d q,.string j] m λr s=>
 ∃(L:Nat)(b:C M),r=vS L a.spread a.spread/\s=[cF L b 166]/\∀(f:Nat)(B:M),(ec (a.set j))[f]? =some B->b[f]? =some B:=by
 have u:=k.dm
 have T:=k.spread
 have R:a.home j<a.dm:=zH _ _ u.1 j
 obtain⟨S,t,rfl,-⟩:=id p
 refine dR func122 hS ?_
 refine Mf λg D=>?_
 refine K3 0 (f:=cP a d _) ?_
 refine dd func115 (λm o=>HS k d S t m) ?_
 rintro _ _ E ⟨rfl,rfl⟩
 refine NV [F 0,F 0,F 0,F 0,F 0,F 0,F 0,F 0] λh G=>?_
 refine K3 1 (f:=cP a d _) ?_
 refine Ku func156 (λm o=>aiP k d _ j m (p.dx o) y) ?_
 rintro _ _ H ⟨rfl,rfl⟩
 refine K4 [2,5,6,15,16] ?_
 refine dB (λA P s w'=>∃(e:Nat)(b:C M),P=[(2,Z g),(5,Z h),(6,F (a.home j:Int)),(15,F a.spread),(16,F e)]/\s=[cF h b 166,cF g (cP a d _) 27]/\A+e=a.spread/\b.length=8/\∀f,f<e->b[f]? =some (F (((a.home j+f) % a.dm:Nat):Int))) a.spread ⟨0,_,rfl,rfl,rfl,rfl,λf l=>absurd l (by omega)⟩ ?_
 rintro A _ _ w1 ⟨e,b,rfl,rfl,X,x,i⟩
 refine cZ (λn=>?_) λn=>?_
 .have W:e<a.spread:=by omega
  refine N [2,5,6,7,15,16] ?_;refine fw ?_;refine I (cU (z:=F (((a.home j+e) % a.dm:Nat):Int)) (te rfl rfl) (by rw[AO];rfl)) ?_;refine I (PO 1 (m:=e) rfl rfl underlying166 (by kernel_rfl) rfl (by omega)) ?_;refine cO 0 (H:=b.set e (F (((a.home j+e) % a.dm:Nat):Int))) (hl:=Bb (by show 0+e*1+1<=_;omega)) (af:=by rw[dU,fT];exact H7 (by omega)) λK=>?_;refine ir [2,5,6,15,16] ?_;refine⟨A-1,by omega,e+1,_,rfl,rfl,by omega,by rw[fy];exact x,λf l=>?_⟩;by_cases Q:e=f
  .subst Q;exact gm (by omega)
  .rw[fE Q];exact i f (by omega)
 .obtain rfl:e=a.spread:=by omega
  refine dI ?_;refine eL ?_;refine I (KF (D:=a.spread) (k:=a.spread) rfl underlying166 (by kernel_rfl) ⟨_,rfl⟩ ⟨_,rfl⟩ (dT _) (by omega)) ?_;refine N [4] ?_;refine cK [0] ?_;refine dP results122 ?_;refine⟨_,b,rfl,rfl,λf B z=>?_⟩;obtain⟨v,w⟩:=da.1 z;have l:f<a.spread:=by simpa[ec,PC.set]using v
  rw[i f l,<-w];simp[ec,PC.set]
def aiQ (e:a.Ok)(c h:M)(g:U)(d:Nat)(j:O)(n:Rd j cW 1 h 16 (dF a.table))(m:g.size<=140737488355328)(s:d<=4611686018427387904):Sn 83 [gV a c h,.string g,F d] j λt p=>
 t=F (a.oU g d:Int)/\p=[]:=by
 have r:=e.spread
 have b:d % a.spread<a.spread:=uQ _ (by omega)
 refine hJ func83 hS ?_
 refine Mf λk o=>?_
 refine K3 0 (f:=cP a c _) ?_
 refine Ku func122 (λj l=>S2 e c _ g j (n.dx l) m) ?_
 rintro _ _ u ⟨w,q,rfl,rfl,f⟩
 refine N [2,7] ?_
 refine N [2,7,11] ?_
 refine N [2,7,15] ?_
 refine iq ?_
 refine I (cU (z:=F ((d % a.spread:Nat):Int)) (te rfl rfl) (by rw[AO])) ?_
 refine I (cR (ab:=d % a.spread) (ad:=b)) ?_
 refine I (dH 0 (n:=F (a.oU g d:Int)) (hv:=by rw[dU,fT];exact f _ _ (by simp[ec,PC.set,PC.oU,b]))) ?_
 refine N [6] ?_
 refine gT results83 ?_
 exact⟨rfl,rfl⟩
end
def Ii:fB prog 24 68 2 16 (.agg #[F 0,F 0]):=.mk' underlying24 (by kernel_rfl) rfl (by decide)
def yF:fB prog 43 48 3 32 (.agg #[vE,J 0,J 0]):=.mk' underlying43 (by kernel_rfl) rfl (by decide)
def YU (c:Nat)(d:O):Sn 72 [PA .none 0 c] d λa b=>a=vN/\b=[row a 23 1 0 []]:=by refine dS func72 hS ?_;refine N [0] ?_;refine cL ?_;refine I (cU (vh rfl rfl underlying25) (z:=.bool true) rfl) ?_;refine cH [0,4] ?_;refine N [2] ?_;refine gh 23 1 ?_;refine dP results72 ?_;exact⟨rfl,rfl⟩
def YV (m:Addr)(c b:Nat)(a:C M)(k:O)(j:Rd k cW 1 (PA (some m) b c) b a)(h:∀d∈a,d.oneCell'=true)(p:b<=1000000):Sn 72 [PA (some m) b c] k λd o=>∃n c,d=PA n b c/\o=[row d 23 1 b a]:=by refine dS func72 hS ?_;refine N [0] ?_;refine cL ?_;refine I (cU (vh rfl rfl underlying25) (z:=.bool false) rfl) ?_;refine cB ?_;refine dw (tX qe) ?_;rintro _ _ l ⟨f,rfl,rfl⟩;refine Y ?_;refine dw (BG qe rfl rfl (λk i=>j.dx i) h (by omega) (by omega)) ?_;rintro _ _ q ⟨⟨e,g,rfl⟩,rfl⟩;refine db results72 ?_;exact⟨e,g,by simp[l8],by simp[l8]⟩
def Dw (o:M)(c:Nat)(a:C M)(g:O)(d:Rd g cW 1 o c a)(b:∀e∈a,e.oneCell'=true)(m:c<=1000000):
 Sn 72 [o] g λe n=>∃h f,e=PA h c f/\n=[row e 23 1 c a]:=by
 obtain⟨h,f,rfl,l,k,j⟩:=id d
 cases h with
 |none=>obtain rfl:c=0:=j.elim id (λ⟨_,_,q,_⟩=>by cases q);obtain rfl:a=[]:=ll (by omega);exact(YU f g).mono λe n ⟨b,i⟩=>⟨_,_,b,i⟩
 |some p=>exact YV p f c a g d b m
def YM (c:Nat)(d:O):Sn 71 [PA .none 0 c] d λa b=>a=vN/\b=[row a 68 2 0 []]:=by refine dS func71 hS ?_;refine N [0] ?_;refine cL ?_;refine I (cU (vh rfl rfl underlying24) (z:=.bool true) rfl) ?_;refine cH [0,4] ?_;refine N [2] ?_;refine gh 68 2 ?_;refine dP results71 ?_;exact⟨rfl,rfl⟩
def YN (m:Addr)(c b:Nat)(a:C M)(k:O)(j:Rd k cW 2 (PA (some m) b c) b a)(h:∀d∈a,d.oneCell'=true)(p:b<=1000000):Sn 71 [PA (some m) b c] k λd o=>∃n c,d=PA n b c/\o=[row d 68 2 b a]:=by refine dS func71 hS ?_;refine N [0] ?_;refine cL ?_;refine I (cU (vh rfl rfl underlying24) (z:=.bool false) rfl) ?_;refine cB ?_;refine dw (tX Ii) ?_;rintro _ _ l ⟨f,rfl,rfl⟩;refine Y ?_;refine dw (BG Ii rfl rfl (λk i=>j.dx i) h (by omega) (by omega)) ?_;rintro _ _ q ⟨⟨e,g,rfl⟩,rfl⟩;refine db results71 ?_;exact⟨e,g,by simp[l8],by simp[l8]⟩
def YO (o:M)(c:Nat)(a:C M)(g:O)(d:Rd g cW 2 o c a)(b:∀e∈a,e.oneCell'=true)(m:c<=1000000):
 Sn 71 [o] g λe n=>∃h f,e=PA h c f/\n=[row e 68 2 c a]:=by
 obtain⟨h,f,rfl,l,k,j⟩:=id d
 cases h with
 |none=>obtain rfl:c=0:=j.elim id (λ⟨_,_,q,_⟩=>by cases q);obtain rfl:a=[]:=ll (by omega);exact(YM f g).mono λe n ⟨b,i⟩=>⟨_,_,b,i⟩
 |some p=>exact YN p f c a g d b m
def YP (c:Nat)(d:O):Sn 270 [PA .none 0 c] d λa b=>a=vN/\b=[row a 302 3 0 []]:=by refine dS func270 hS ?_;refine N [0] ?_;refine cL ?_;refine I (cU (vh rfl rfl underlying203) (z:=.bool true) rfl) ?_;refine cH [0,4] ?_;refine N [2] ?_;refine gh 302 3 ?_;refine dP results270 ?_;exact⟨rfl,rfl⟩
def YQ (m:Addr)(c b:Nat)(a:C M)(k:O)(j:Rd k cW 3 (PA (some m) b c) b a)(h:∀d∈a,d.oneCell'=true)(p:b<=1000000):Sn 270 [PA (some m) b c] k λd o=>∃n c,d=PA n b c/\o=[row d 302 3 b a]:=by refine dS func270 hS ?_;refine N [0] ?_;refine cL ?_;refine I (cU (vh rfl rfl underlying203) (z:=.bool false) rfl) ?_;refine cB ?_;refine dw (tX sH) ?_;rintro _ _ l ⟨f,rfl,rfl⟩;refine Y ?_;refine dw (BG sH rfl rfl (λk i=>j.dx i) h (by omega) (by omega)) ?_;rintro _ _ q ⟨⟨e,g,rfl⟩,rfl⟩;refine db results270 ?_;exact⟨e,g,by simp[l8],by simp[l8]⟩
def YR (o:M)(c:Nat)(a:C M)(g:O)(d:Rd g cW 3 o c a)(b:∀e∈a,e.oneCell'=true)(m:c<=1000000):
 Sn 270 [o] g λe n=>∃h f,e=PA h c f/\n=[row e 302 3 c a]:=by
 obtain⟨h,f,rfl,l,k,j⟩:=id d
 cases h with
 |none=>obtain rfl:c=0:=j.elim id (λ⟨_,_,q,_⟩=>by cases q);obtain rfl:a=[]:=ll (by omega);exact(YP f g).mono λe n ⟨b,i⟩=>⟨_,_,b,i⟩
 |some p=>exact YQ p f c a g d b m
def YS (c:Nat)(d:O):Sn 237 [PA .none 0 c] d λa b=>a=vN/\b=[row a 48 3 0 []]:=by refine dS func237 hS ?_;refine N [0] ?_;refine cL ?_;refine I (cU (vh rfl rfl underlying43) (z:=.bool true) rfl) ?_;refine cH [0,4] ?_;refine N [2] ?_;refine gh 48 3 ?_;refine dP results237 ?_;exact⟨rfl,rfl⟩
def YT (m:Addr)(c b:Nat)(a:C M)(k:O)(j:Rd k cW 3 (PA (some m) b c) b a)(h:∀d∈a,d.oneCell'=true)(p:b<=1000000):Sn 237 [PA (some m) b c] k λd o=>∃n c,d=PA n b c/\o=[row d 48 3 b a]:=by refine dS func237 hS ?_;refine N [0] ?_;refine cL ?_;refine I (cU (vh rfl rfl underlying43) (z:=.bool false) rfl) ?_;refine cB ?_;refine dw (tX yF) ?_;rintro _ _ l ⟨f,rfl,rfl⟩;refine Y ?_;refine dw (BG yF rfl rfl (λk i=>j.dx i) h (by omega) (by omega)) ?_;rintro _ _ q ⟨⟨e,g,rfl⟩,rfl⟩;refine db results237 ?_;exact⟨e,g,by simp[l8],by simp[l8]⟩
def Oq (o:M)(c:Nat)(a:C M)(g:O)(d:Rd g cW 3 o c a)(b:∀e∈a,e.oneCell'=true)(m:c<=1000000):
 Sn 237 [o] g λe n=>∃h f,e=PA h c f/\n=[row e 48 3 c a]:=by
 obtain⟨h,f,rfl,l,k,j⟩:=id d
 cases h with
 |none=>obtain rfl:c=0:=j.elim id (λ⟨_,_,q,_⟩=>by cases q);obtain rfl:a=[]:=ll (by omega);exact(YS f g).mono λe n ⟨b,i⟩=>⟨_,_,b,i⟩
 |some p=>exact YT p f c a g d b m
def Ci (a:Nat):M:=J a
def rC (e d:Nat)(c:C (Int×Nat))(a:Nat)(b:C Nat):C V:=[cF e (.map (some d)::F a::dF b) 164,mp (.int .i64) (Value.int .i64) Ci d c]
def sS (e:Nat)(c:C (Int×Nat))(a:Nat)(b:C Nat)(f:V):Prop:=∃d,f=cz (rC e d c a b)
def Ei:sT prog 161 3 23 (.int .i64) (J 0):=⟨underlying161,underlying3,λa=>by kernel_rfl⟩
def Ya (a:Nat)(b:O):(Instr.build 164 [(0,.map (some a))].toArray).run prog b=.ok (PE [.map (some a),F 0,J 0,J 0,J 0,J 0,J 0,J 0,J 0]) b:=by kernel_rfl
def ada (i:O):Sn 43 [] i λh g=>∃e f,h=Z e/\g=[f]/\sS e [] 0 (List.replicate 7 0) f:=by refine Vz func43 hS ?_;refine cB ?_;refine dw (DJ (g:=.int .i64) (a:=Value.int .i64) (d:=Ci)) ?_;rintro _ _ j ⟨c,rfl,rfl⟩;refine I (ee (Ya c)) ?_;refine dK λa b=>?_;refine N [0] ?_;refine dG (d:=[]) [_,_] ?_;refine dP results43 ?_;exact⟨_,_,rfl,rfl,c,rfl⟩
def Rt {a:C (Int×Nat)}{b:Int}:((ed a b).map Ci).getD (J 0)=J (((ed a b).getD 0:Nat):Int):=by cases ed a b<;>rfl
section
variable{d:Nat}{c:C (Int×Nat)}{b:Nat}{a:C Nat}{e:V}{f:O}
def Ru (n:Nat)(h:Nat)(j:sS d c b a e)(k:Hl f e)(l:(ed c (n:Int)).getD 0<18446744073709551616)(m:h<18446744073709551616):Sr 82 [Z d,F n,J h] f e λq o=>q=.bool (decide ((ed c (n:Int)).getD 0+h<=9223372036854775808))/\o=[e]:=by obtain⟨g,rfl⟩:=j;refine hJ func82 k ?_;refine eu (rC d g c b a) ?_;refine N [0,1,2] ?_;refine fh ?_;refine Y ?_;refine dZ rfl rfl (cU (DX 1 Ei wU rfl rfl rfl) Rt) ?_;refine Y ?_;refine nh rfl rfl (eB func121 (λf p=>zV _ h f l m)) ?_;rintro _ _ i ⟨_,rfl,rfl,rfl⟩;refine N [6] ?_;refine dG (d:=[]) (rC d g c b a) ?_;refine dP results82 ?_;exact⟨rfl,rfl⟩
def ac7 (h:sS d c b a e)(i:Hl f e):Sr 84 [Z d] f e λk j=>k=F b/\j=[e]:=by obtain⟨g,rfl⟩:=h;refine dS func84 i ?_;refine eu (rC d g c b a) ?_;refine N [0] ?_;refine N [0,4] ?_;refine N [2] ?_;refine dG (d:=[]) (rC d g c b a) ?_;refine dP results84 ?_;exact⟨rfl,rfl⟩
def ac8 (h:Nat)(m:Nat)(i:sS d c b a e)(n:Hl f e)(o:(ed c (h:Int)).getD 0+m<=9223372036854775808)(r:b<=4611686018427387904):Sr 87 [Z d,F h,J m] f e λt q=>∃l,t=.bool true/\q=[l]/\sS d (nM c (h:Int) ((ed c (h:Int)).getD 0+m)) (b+1) a l:=by have j:=i;refine hJ func87 n ?_;refine cB ?_;refine dw (ft (e) [] func82 (cD _) (λf s k=>Ru h m j k (by omega) (by omega))) ?_;rw[gb o];rintro _ _ u ⟨_,rfl,rfl,rfl⟩;refine I (wD rfl) ?_;refine cH [0,1,2,11] ?_;refine cQ ?_;obtain⟨g,rfl⟩:=i;refine eu (rC d g c b a) ?_;refine eL ?_;refine I (cU (DX 1 Ei wU rfl rfl rfl) Rt) ?_;refine Y ?_;refine I (cU (z:=Ci ((ed c (h:Int)).getD 0+m)) (og rfl rfl) (by unfold Ci;rw[gR])) ?_;refine iQ (DI 1 Ei wU rfl rfl rfl rfl) ?_;rintro _ _ v rfl;refine cH [0] ?_;refine eL ?_;refine I (cU (z:=F ((b+1:Nat):Int)) (kH rfl rfl) (by rw[gR];rfl)) ?_;refine KW 0 λp=>?_;refine cH [] ?_;refine N [6] ?_;refine dG (d:=[]) (rC d g _ (b+1) a) ?_;refine dP results87 ?_;exact⟨_,rfl,rfl,g,rfl⟩
def ac9 (k:Nat)(i:sS d c b a e)(j:Hl f e):Sr 98 [Z d,F k] f e λ_ l=>∃h,l=[h]/\sS d (ig c (k:Int)) b a h:=by obtain⟨g,rfl⟩:=i;refine dR func98 j ?_;refine eu (rC d g c b a) ?_;refine cB ?_;refine I (KB 1 Ei wU rfl rfl rfl) ?_;refine cB ?_;refine iQ (Gi 1 Ei wU rfl rfl rfl) ?_;rintro _ _ m rfl;refine cH [6,7] ?_;refine N [4,5] ?_;refine dG (d:=[]) (rC d g _ b a) ?_;refine dP results98 ?_;exact⟨_,rfl,g,rfl⟩
def Rv (l:sS d c b a e)(m:Hl f e)(j:a.length=7):Sr 96 [Z d] f e λo q=>∃p h,o=PA p 7 h/\q=[row o 23 1 7 (dF a),e]:=by obtain⟨g,rfl⟩:=l;refine dS func96 m ?_;refine eu (rC d g c b a) ?_;refine cB ?_;refine I (KF (D:=7) (k:=7) rfl underlying162 (by kernel_rfl) ⟨rfl,rfl⟩ rfl (dT _) (dT _)) ?_;refine dd func72 (λf k=>Dw _ 7 (dF a) f (Rd.N5 2 k (o:=0) rfl (λs o n=>by rw[wi];exact n) (by rw[yK,j]) (dT _)) (Is _) (by omega)) ?_;rintro _ _ r ⟨p,h,rfl,rfl⟩;refine N [2] ?_;refine cK [1,1,0] ?_;refine dG (d:=[_]) (rC d g c b a) ?_;refine cK [1,0] ?_;refine dP results96 ?_;exact⟨_,_,rfl,rfl⟩
def adb (j:Nat)(n:sS d c b a e)(o:Hl f e)(v:a.length=7)(x:1<=j/\j<=6)(p:∀k∈a,k<18446744073709551616):Sr 53 [Z d,F j] f e λ_ u=>∃m,u=[m]/\sS d c b (a.modify j λr=>min (r+1) 18446744073709551615) m:=by
 obtain⟨g,rfl⟩:=n;obtain⟨k,i⟩:∃k,a[j]? =some k:=⟨_,dr (by omega)⟩;have l:=p k (eH i);refine dR func53 o ?_;refine eu (rC d g c b a) ?_;refine N [0,1] ?_;refine N [0,1,6] ?_;refine N [0,1,12] ?_;refine cQ ?_;refine CM [0,1,2,3,4,5,6,7,12,13,1008,9,10,11,14,1015] [(_,some 15),(_,none)] [] (cD _) λt=>?_;refine fw ?_;refine ew rfl (dH 0 (n:=J k) (hv:=by rw[dU,wi,fT];exact Af i)) ?_;refine cC ?_;refine gY rfl (eB func88 (λf w=>qL k 1 f l)) ?_;rintro _ _ s ⟨_,rfl,rfl,rfl⟩;refine⟨_,jQ _ _ _,?_⟩;refine cL ?_;refine jC rfl (gD 0 (y:=.map (some g)::F b::dF (a.modify j λr=>min (r+1) 18446744073709551615)) (hl:=Bb (by simp[yK];omega)) (ae:=?_)) ?_
 .refine(H7 (by simp[yK];omega)).trans ?_;rw[dU,wi,fT,Fu,Fu];congr 2;refine qo λq=>?_;unfold dF;rw[oD,eK,eK,y9];by_cases h:j=q
  .subst h;rw[cM rfl,cM (by simp;omega),i];show some _=some (Value.int .u64 (((if j=j then _ else _:Nat)):Int));rw[cM rfl];congr 2;split<;>omega
  .rw[cJ h];cases a[q]?with
   |none=>rfl
   |some z=>show some _=some (Value.int .u64 (((if j=q then _ else _:Nat)):Int));rw[cJ h]
 rintro _ _ y rfl;refine⟨_,de [1] _ rfl,?_⟩;refine ui [] rfl ?_;refine N [4] ?_;refine cK [1,0] ?_;refine dG (d:=[]) (rC d g c b _) ?_;refine dP results53 ?_;exact⟨_,rfl,g,rfl⟩
end
def zr (a b:U):decide (DF.xX a b<0)=eI a b:=DF.zr a b
def Oz:∀(c e:C UInt8),Lib.compareBytes c e=0↔c=e
 |[],[]=>by simp[Lib.compareBytes]
 |[],_::_=>by simp[Lib.compareBytes]
 |_::_,[]=>by simp[Lib.compareBytes]
 |c::f,e::g=>by
  unfold Lib.compareBytes;split
  .rename_i b;constructor
   .intro b;cases b
   .intro d;injection d with a _;subst a;exact absurd b (UInt8.lt_irrefl c)
  .split
   .rename_i b;constructor
    .intro b;cases b
    .intro d;injection d with a _;subst a;exact absurd b (UInt8.lt_irrefl c)
   .rename_i h i;have d:c=e:=FC (xK.1 i) (xK.1 h);rw[Oz f g,d];simp
def Y4 (a b:U):DF.xX a b=0↔a=b:=by
 unfold DF.xX;rw[Oz];constructor
 .intro c;cases a;cases b;simp only[ByteArray.mk.injEq];exact lS c
 .rintro rfl;rfl
def Vu (b:En)(e:U)(h:Nat)(a:O)(d:a.cell? ⟨h,0,.none⟩=some (.string e)):Sn 262 [.agg (dy (some b)).toArray,Z h] a λk i=>k=F (DF.xX b.1 e)/\i=[]:=by refine enter (g:=8) func262 rfl rfl [(0,.agg (dy (some b)).toArray),(1,_)] rfl ⟨rfl,rfl,trivial⟩ hS ?_;refine Mf λc f=>?_;refine cB ?_;refine I (jd (hc:=d)) ?_;refine dd func112 (λa j=>DF.Gc b.1 e a) ?_;rintro _ _ g ⟨rfl,rfl⟩;refine N [3] ?_;refine gT results262 ?_;exact⟨rfl,rfl⟩
structure AD (c:C En)(e:U)(d:Nat)(is:Bool):Prop where
 le:d<=c.length
 lo:∀(b:Nat)(a:En),b<d->c[b]? =some a->eI a.1 e=true
 hi:∀(b:Nat)(a:En),d<=b->c[b]? =some a->eI a.1 e=false
 is:is=decide (∃a,c[d]? =some a/\a.1=e)
def Xw (P:cG Addr)(s:Nat)(e:C En)(k:U)(B:Nat)(A:O)(G:A.cell? ⟨B,0,.none⟩=some (.string k))(R:Rd A cW 3 (PA P e.length s) e.length (dn e))(hX:gd (cE e))(hn:e.length<=1000000):Sn 261 [PA P e.length s,.func (.func 262) #[] #[Z B]] A λr ab=>ab=[]/\∃(z:Nat)(T:Bool),r=PF [F z,.bool T]/\AD e k z T:=by
 have j:∀(z h:Nat)(b q:En),z<=h->e[z]? =some b->e[h]? =some q->eI q.1 k=true->eI b.1 k=true:=λz h b q L d g t=>by
  rcases o4 L with o|rfl
  .have x:=r3.1 hX z h (by rw[cE,dL];exact(da.1 d).1) (by rw[cE,dL];exact(da.1 g).1) o;simp only[cE,wb]at x;rw[(da.1 d).2,(da.1 g).2]at x;exact sC x t
  .rw[d]at g;injection g with g;rw[g];exact t
 refine dR func261 hS ?_;refine K4 [0,1,6,7] ?_;refine dB (λW m ab w'=>∃a f:Nat,m=[(0,PA P e.length s),(1,.func (.func 262) #[] #[Z B]),(6,F a),(7,F f)]/\ab=[]/\W+a=f/\f<=e.length/\(∀(h:Nat)(b:En),h<a->e[h]? =some b->eI b.1 k=true)/\(∀(h:Nat)(b:En),f<=h->e[h]? =some b->eI b.1 k=false)) e.length ⟨0,e.length,rfl,rfl,rfl,dT _,λh b t=>absurd t (by omega),λh b t d=>absurd (da.1 d).1 (by omega)⟩ ?_;rintro W _ _ w1 ⟨a,f,rfl,rfl,hq,K,o,D⟩;refine cZ (λH=>?_) λH=>?_
 .have ae:a<f:=by omega
  obtain⟨mid,w⟩:∃mid,(a+f)/2=mid:=⟨_,rfl⟩;have af:a<=mid:=by omega
  have ag:mid<f:=by omega
  obtain⟨b,d⟩:∃b,e[mid]? =some b:=⟨_,dr (by omega)⟩;obtain⟨ad,o1,rfl,E,d1⟩:=R.at_ (show mid<e.length by omega);refine fw ?_;refine I (cU (z:=F mid) (Gw rfl rfl (by omega)) (by rw[<-w,Fb,gR];rfl)) ?_;refine cB ?_;refine I (kY (b:=dy (some b)) (hc:=λh u y=>Pk d1 d h u y)) ?_;refine dw (q7 [] _ rfl rfl func262 (by kernel_rfl) (cD _) (λA v S=>by rw[so];exact Vu b k B A (v.rJ G id))) ?_;rintro _ _ w4 ⟨_,rfl,rfl,rfl⟩;refine I (gN rfl rfl) ?_;refine cZ (λl=>?_) λl=>?_
  .have i:eI b.1 k=true:=by rw[<-zr];exact gb l
   refine N [0,1,6,7] ?_;exact⟨W-(mid+1-a),by omega,mid+1,f,by rw[gR];rfl,rfl,by omega,K,λh q Q g=>j h mid q b (by omega) g d i,D⟩
  .have i:eI b.1 k=false:=by rw[<-zr];exact fL l
   refine N [0,1,6,7] ?_;refine⟨W-(f-mid),by omega,a,mid,rfl,rfl,by omega,by omega,o,λh q Q g=>?_⟩;cases hc:eI q.1 k with
   |false=>rfl
   |true=>rw[j mid h b q Q d g hc]at i;cases i
 .obtain rfl:a=f:=by omega
  refine dI ?_;refine iq ?_;refine oV (H:=5) (A:=decide (∃b,e[a]? =some b/\b.1=k)) 7 [(28,_)] ⟨rfl,trivial⟩ rfl rfl rfl rfl rfl (λn=>?_) (λX=>?_)
  .refine cQ ?_;have p:a<e.length:=by have:(a:Int)<(e.length:Int):=nr n;omega
   obtain⟨b,d⟩:∃b,e[a]? =some b:=⟨_,dr p⟩;obtain⟨ad,o1,rfl,E,d1⟩:=R.at_ p;refine Y ?_;refine dZ rfl rfl (kY (b:=dy (some b)) (hc:=λh u y=>Pk d1 d h u y)) ?_;refine nh rfl rfl (q7 [] _ rfl rfl func262 (by kernel_rfl) (cD _) (λA v S=>by rw[so];exact Vu b k B A (v.rJ G id))) ?_;rintro _ _ w7 ⟨_,rfl,rfl,rfl⟩;refine dZ rfl rfl (cU (z:=.bool (decide (∃b,e[a]? =some b/\b.1=k))) (e9 rfl rfl) (dq Value.bool (uU.2 (by rw[Y4,d];simp)))) ?_;exact iy
  refine N [4,5] ?_;refine gT results261 ?_;refine⟨rfl,a,_,rfl,by omega,o,D,?_⟩;by_cases t:a<e.length
  .simp[t]
  .have:e[a]? =none:=nZ (by omega);rw[this];simp
def ub (c d:Nat)(b:M)(a:C En):C V:=[cF c [F d,b] 360,row b 302 3 a.length (dn a)]
def pG (b c:Nat)(a:C En)(d:V):Prop:=∃e,d=cz (ub b c e a)
section
variable{a:C En}{c:U}{b:Nat}
def AD.yes (g:AD a c b true)(h:gd (cE a)):∃f,a[b]? =some f/\f.1=c/\kh a c=some f:=by obtain⟨f,d,e⟩:=nr g.is.symm;refine⟨f,d,e,?_⟩;rw[<-e];exact GA (h.imp λg=>pj g) (eH d)
def AD.no (j:AD a c b false)(l:gd (cE a)):c∉cE a:=λm=>by
 obtain⟨p,n,i⟩:=dz.1 m;obtain⟨o,e⟩:=ka.1 n;have h:=FD j.is.symm;rcases xI o b with d|d|d
 .have:=j.lo o p d e;rw[i,yr]at this;cases this
 .subst d;exact h ⟨p,e,i⟩
 .have g:b<a.length:=by have:=(da.1 e).1;omega
  have k:=j.hi b a[b] (dT _) (dr g);have f:=r3.1 l b o (by rw[cE,dL];exact g) (by rw[cE,dL];exact(da.1 e).1) d;simp only[cE,wb]at f;rw[(da.1 e).2,i,k]at f;cases f
end
def XY (a:Int)(b:O):(Instr.build 360 [(0,F a)].toArray).run prog b=.ok (PE [F a,vN]) b:=by kernel_rfl
def atO (b:Nat)(g:b<=32)(i:O):Sn 163 [F b] i λh f=>∃d e,h=PF [Z d,F 0]/\f=[e]/\pG d b [] e:=by refine dS func163 hS ?_;refine cB ?_;refine I (ee (XY _)) ?_;refine dK λa c=>?_;refine N [2,3] ?_;refine gh 302 3 ?_;refine cK [1,0] ?_;refine dG (d:=[]) [_,_] ?_;refine dP results163 ?_;exact⟨_,_,rfl,rfl,_,rfl⟩
def Vv (b c d:Nat)(f:O)(g:b<18446744073709551616)(h:c<18446744073709551616)(i:d<18446744073709551616):Sn 213 [J b,J c,J d] f λp o=>p=.bool (decide (b+c+d<=9223372036854775808))/\o=[]:=by
 refine hJ func213 hS ?_;refine Ku func88 (λf k=>qL b c f g h) ?_;rintro _ _ l ⟨rfl,rfl⟩;refine cB ?_;refine oV (H:=1) (A:=decide (b+c+d<=9223372036854775808)) 3 [] trivial rfl rfl rfl rfl rfl (λa=>?_) (λn=>?_)
 .have e:b+c<18446744073709551616:=nr a;rw[cM e];refine cC ?_;refine nh rfl rfl (eB func121 (λf k=>zV (b+c) d f e i)) ?_;rintro _ _ m ⟨_,rfl,rfl,rfl⟩;exact iy
 refine db results213 ?_;refine⟨?_,rfl⟩;show Value.bool _=_;congr 1;by_cases e:b+c<18446744073709551616
 .rw[gb e,Bool.true_and]
 .rw[fL e,Bool.false_and,fL (by omega)]
section
variable{c f:Nat}{a:C En}{d:V}{b:O}{e:U}
def IK (q:M)(n:gd (cE a))(p:a.length<=1000000)(k:Hl b (cz (ub c f q a))):Sr 212 [Z c,.string e] b (cz (ub c f q a)) λd u=>u=[cz (ub c f q a)]/\∃(l:Nat)(h:Bool),d=PF [F l,.bool h]/\AD a e l h:=by obtain⟨t,m,rfl⟩:=HQ k (r:=0) (s:=1) rfl rfl;refine dR func212 k ?_;refine Mf λg s=>?_;refine NX 1 0 ?_;refine I (wQ rfl rfl) ?_;refine dd func261 (λb i=>Xw t m a e g b (by have:=i.ok (i:=0) (r:=cF g [.string e] 9) rfl;exact tL b g 0 _ _ (0,0) this) (Rd.qD i (n:=1) (o:=1) rfl rfl) n p) ?_;rintro _ _ v ⟨rfl,l,h,rfl,o⟩;refine N [4,5] ?_;refine cK [1] ?_;refine dP results212 ?_;exact⟨rfl,l,h,rfl,o⟩
def atK (k:gd (cE a))(v:a.length<=1000000)(w:pG c f a d)(x:Hl b d):Sr 169 [Z c,.string e] b d λD E=>E=[d]/\((∃m,kh a e=some m/\D=PF [gf m.1 m.2.1 m.2.2,.bool true])\/(e∉cE a/\D=PF [gf ByteArray.empty 0 0,.bool false])):=by
 obtain⟨K,rfl⟩:=w;refine dR func169 x ?_;refine NV [vE,J 0,J 0] λt y=>?_;refine Pw 1 func212 (λb h q=>IK K k v q) ?_;rintro _ _ L ⟨rfl,H,s,rfl,n⟩;refine fP (λi=>?_) λi=>?_
 .obtain rfl:s=false:=by simpa using i
  have p:=n.no k;refine cC ?_;refine I (ee nt) ?_;refine cO 1 (u:=[_,_,_]) λz=>?_;refine N [4,5] ?_;refine eM ?_;refine⟨_,_,λg l h=>eW results169 (eX (e4 1 rfl underlying302 rfl (by kernel_rfl) rfl) (gg rfl eY)) g l _ h,(iw _).cons_cons _,?_⟩;exact⟨rfl,.inr ⟨p,rfl⟩⟩
 .obtain rfl:s=true:=by simpa using i
  obtain⟨m,r,B,o⟩:=n.yes k;have G:H<a.length:=(da.1 r).1;refine eQ λh=>?_;obtain⟨Q,cap,u⟩:=nB h (s:=0) (t:=1) rfl rfl;subst u;clear h;refine NX 0 0 ?_;refine cC ?_;refine I (qN 0 1 (b:=dy (some m)) (hv:=tZ r)) ?_;refine cO 1 (u:=[_,_,_]) λA=>?_;refine N [4,5] ?_;refine eM ?_;refine⟨_,_,λg l h=>eW results169 (eX (e4 1 rfl underlying302 rfl (by kernel_rfl) rfl) (gg rfl eY)) g l _ h,(iw _).cons_cons _,?_⟩;exact⟨rfl,.inl ⟨m,o,rfl⟩⟩
def aau {a:C En}{m:Nat}{h:En}(p:a[m]? =some h)(o:Nat):(dn a).take (0+m*3+1)++[J o]++(dn a).drop (0+m*3+1+[Value.int .u64 (o:Int)].length)=dn (a.set m (h.1,o,h.2.2)):=by have i:=DZ (b:=dy) (a:=3) (λg=>by cases g<;>rfl) (h:=a.map some) (e:=m) (i:=1) (d:=some h) (k:=some (h.1,o,h.2.2)) (n:=J o) (by rw[eK,p];rfl) (by omega) rfl;rw[dU];rw[<-xB]at i;exact i
def ai8 {a:C En}{j:Nat}{g:En}{b:Nat}(l:gd (cE a))(i:a[j]? =some g):a.set j (g.1,g.2.1+b,g.2.2)=a.map λh=>if h.1=g.1 then(g.1,h.2.1+b,h.2.2)else h:=by
 have m:(cE a).Nodup:=l.imp λi=>pj i;have c:=KN i;have k:(a.map λh=>if h.1=g.1 then(g.1,h.2.1+b,h.2.2)else h)=a.take j++(g.1,g.2.1+b,g.2.2)::a.drop (j+1):=by
  conv=>lhs;rw[c]
  exact RF (by rw[<-c];exact m)
 rw[k,qU,cM (da.1 i).1]
def atG (wt:Nat)(g:En)(l:gd (cE a))(y:a.length<=1000000)(z:pG c f a d)(A:Hl b d)(q:kh a e=some g)(p:g.2.1+g.2.2+wt<=9223372036854775808):Sr 170 [Z c,.string e,J wt] b d λH D=>∃t,H=F 0/\D=[t]/\pG c f (a.map λw=>if w.1=e then(e,w.2.1+wt,w.2.2)else w) t:=by
 obtain⟨K,rfl⟩:=z;refine hJ func170 A ?_;refine Pw 0 func212 (λb m r=>IK K l y r) ?_;rintro _ _ L ⟨rfl,u,s,rfl,n⟩;refine fP (λk=>?_) λk=>?_
 .obtain rfl:s=false:=by simpa using k
  exact absurd q (by rw[rq.2 (n.no l)];simp)
 .obtain rfl:s=true:=by simpa using k
  obtain⟨R,i,rfl,h⟩:=n.yes l;rw[q]at h;injection h with h;subst h;have G:u<a.length:=(da.1 i).1;refine eQ λm=>?_;obtain⟨E,cap,x⟩:=nB m (s:=0) (t:=1) rfl rfl;subst x;clear m;refine eu (ub c f _ a) ?_;refine cQ ?_;refine eO 19 [17] [_,_] [] (ik _) λB=>?_;refine fw ?_;refine cN rfl (gj 1 (n:=J g.2.1) (hv:=Gk (h:=some g) (by rw[eK,i];rfl) 1 rfl (by omega))) ?_;refine fw ?_;refine cN rfl (gj 1 (n:=J g.2.2) (hv:=Gk (h:=some g) (by rw[eK,i];rfl) 2 rfl (by omega))) ?_;refine Y ?_;refine eh rfl (eB func213 (λb m=>Vv g.2.1 g.2.2 wt b (by omega) (by omega) (by omega))) ?_;rw[gb p];rintro _ _ Q ⟨_,rfl,rfl,rfl⟩;refine⟨_,jQ _ _ _,?_⟩;refine cB ?_;refine I (gj 1 (n:=J g.2.1) (hv:=Gk (h:=some g) (by rw[eK,i];rfl) 1 rfl (by omega))) ?_;refine Y ?_;refine I (cU (z:=J ((g.2.1+wt:Nat):Int)) (og rfl rfl) (by rw[gR])) ?_;refine cC ?_;refine iQ (fK 1 (y:=dn (a.set u (g.1,g.2.1+wt,g.2.2))) (hl:=by rw[pX];show 0+u*3+1+1<=_;omega) (ae:=aau i (g.2.1+wt))) ?_;rintro _ _ v rfl;refine cH [] ?_;refine N [6] ?_;refine dG (d:=[]) [_,_] ?_;refine dP results170 ?_;refine⟨_,rfl,rfl,vS E a.length cap,?_⟩;rw[<-ai8 l i];show cz [_,row _ _ _ a.length _]=cz [_,row _ _ _ (a.set u _).length _];rw[fy]
def atN (h:pG c f a d)(g:Hl b d):Sr 218 [Z c] b d λm k=>m=F a.length/\k=[d]:=by obtain⟨o,rfl⟩:=h;obtain⟨n,l,rfl⟩:=HQ g (r:=0) (s:=1) rfl rfl;refine dS func218 g ?_;refine NX 0 0 ?_;refine db results218 ?_;exact⟨rfl,rfl⟩
def atI (k:a.length<=1000000)(l:pG c f a d)(m:Hl b d):Sr 234 [Z c] b d λo p=>p=[row o 302 3 a.length (dn a),d]/\∃n g,o=PA n a.length g:=by obtain⟨q,rfl⟩:=l;refine dS func234 m ?_;refine NX 0 0 ?_;refine dd func270 (λb h=>YR q a.length (dn a) b (Rd.qD h (n:=0) (o:=1) rfl rfl) (ya a) k) ?_;rintro _ _ r ⟨n,g,rfl,rfl⟩;refine db results234 ?_;exact⟨rfl,_,_,rfl⟩
end
def atQ:(Builtin.zeroCells (Value.agg #[vE,J 0,J 0]).cells 1).toList=[vE,J 0,J 0]:=by simp only[Builtin.zeroCells,AK,AL];rfl
def atT:(Builtin.zeroCells (Value.int .i64 0).cells 1).toList=[F 0]:=by simp only[Builtin.zeroCells,AK,AL];rfl
def rz {m:dX}{j e:O}{f:Nat->Prop}{k:C V}{d b:Nat}{a:C M}{l:Nat}(g:cI j f k e)(h:k[l]? =some (cF d a b))(i:Nat):e.cell? ⟨d,i,.none⟩=a[i]? :=by have c:e.heap[d]? =some (.cells a.toArray b (0,0)):=g.ok h;rw[tL e d i a.toArray b (0,0) c];simp
def OG {b:C M}{e cap d a:Nat}(n:e<=cap)(g:b.length=cap*a)(m:d<e){c f:C M}(h:c=((b.take (e*a)).drop ((d+1)*a)))(t:f.length=a):c.length=(e-(d+1))*a/\d*a+c.length<=b.length/\(e-1)*a+f.length<=(b.take (d*a)++c++b.drop (d*a+c.length)).length/\((b.take (d*a)++c++b.drop (d*a+c.length)).take ((e-1)*a)++f++(b.take (d*a)++c++b.drop (d*a+c.length)).drop ((e-1)*a+f.length)).length=cap*a/\((b.take (d*a)++c++b.drop (d*a+c.length)).take ((e-1)*a)++f++(b.take (d*a)++c++b.drop (d*a+c.length)).drop ((e-1)*a+f.length)).take ((e-1)*a)=(b.take (e*a)).take (d*a)++(b.take (e*a)).drop ((d+1)*a):=by
 have o:e*a<=cap*a:=j7 a n;have p:(d+1)*a<=e*a:=j7 a m;have q:(d+1)*a=d*a+a:=lT ..;have r:(e-1)*a+a=e*a:=by rw[<-lT];congr 1;omega
 have s:(e-(d+1))*a+(d+1)*a=e*a:=by rw[<-mu];congr 1;omega
 have j:c.length=(e-(d+1))*a:=by rw[h,iz,eD,g];omega
 have i:(b.take (d*a)++c++b.drop (d*a+c.length)).length=cap*a:=by simp only[cX,eD,iz,g];omega
 refine⟨j,by omega,by rw[i];omega,?_,?_⟩
 .simp only[cX,eD,iz,g];omega
 .have k:((b.take (d*a)++c++b.drop (d*a+c.length)).take ((e-1)*a)).length=(e-1)*a:=by rw[eD,i];omega
  rw[dJ,xE,k,nK,A8,eN,xF,Nat.min_self];have l:(b.take (d*a)++c).length=(e-1)*a:=by rw[cX,eD,g];omega
  rw[xE,l,nK,A8,eN,gS (by omega),h,xF,o5 (by omega)]
def Zk (m cap a d:Nat)(f:C M)(r:O)(u:d<a)(A:a<=1000000)(s:∀k∈f,k.oneCell'=true)
 (v:Hl r (row (vS m a cap) 302 3 a f)):
 Sr 264 [vS m a cap,F d,F ((d+1:Nat):Int)] r (row (vS m a cap) 302 3 a f) λk x=>
  k=vS m (a-1) cap/\x=[row k 302 3 (a-1) (f.take (d*3)++f.drop ((d+1)*3))]:=by
 refine hJ func264 v ?_
 refine EV λn g p o i=>?_
 obtain⟨l,h⟩:∃l,l=(n.take (a*3)).drop ((d+1)*3):=⟨_,rfl⟩
 obtain⟨d1,d2,d3,d4,d5⟩:=OG (a:=3) (f:=[vE,J 0,J 0]) g o u h rfl
 have j:cap≠a-1:=by omega
 refine cB ?_
 refine I (P3 3 (u:=d) (Q:=d+1) (v:=a) rfl underlying203 (by kernel_rfl) rfl rfl rfl (by omega) (by omega) g) ?_
 refine cH [0,1,2] ?_
 refine N [0,1,2,16] ?_
 refine N [0,1,2,7] ?_
 refine Y ?_
 refine eO 8 [6] [] [_] (cD _) λw=>?_
 refine cC ?_
 refine cN rfl (oP 3 (w:=0) (A:=d) rfl underlying203 (by kernel_rfl) rfl ⟨_,rfl⟩) ?_
 refine cC ?_
 refine cN rfl (oP 3 (w:=d+1) (A:=a) rfl underlying203 (by kernel_rfl) ⟨_,rfl⟩ rfl (by omega) g) ?_
 refine eh rfl (O2 0 (D:=l) sH (by simp only[qt,tJ,ite_self,Be];rfl) rfl rfl (λr t E k e=>?_) d1 (by omega) d2 (λk e=>s k (by rw[<-i];rw[h]at e;exact tG e))) ?_
 .have q:=(da.1 e).1;rw[d1]at q;have b:cap≠d+1\/a-(d+1)=0:=by omega
  rcases b with b|b
  .rw[cJ b,rz (m:=prog) t (l:=0) rfl,dU];rw[h,kQ]at e;rw[uL (by
    have:=j7 3 (show d+1<=a by omega);have y:(a-(d+1))*3+(d+1)*3=a*3:=by rw[<-mu];congr 1;omega
    omega)]at e
   exact e
  .rw[b,qt]at q;omega
 rintro _ _ B ⟨rfl,rfl⟩
 refine⟨_,cD _,?_⟩
 refine cN rfl (cU (z:=vS m (a-1) cap) (BN rfl) (by congr 1;omega)) ?_
 refine iK [0,7] ?_
 refine eL ?_
 refine I (cU (z:=PA (some ⟨m,(a-1)*3,.none⟩) 1 (cap-(a-1))) (oP 3 (w:=a-1) (A:=a) rfl underlying203 (by kernel_rfl) ⟨_,rfl⟩ ⟨_,rfl⟩ (by omega) g) (by rw[cJ j,dU];congr 1;omega)) ?_
 refine iQ (O5 (x:=Value.agg #[vE,J 0,J 0]) 0 (B:=[vE,J 0,J 0]) rfl underlying203 (λr=>by kernel_rfl) (by omega) rfl atQ d3 (by simp[Value.oneCell'])) ?_
 rintro _ _ D rfl
 refine cH [0] ?_
 refine N [6] ?_
 refine ER (j:=a-1) (cap:=cap) (b:=3) (k:=f.take (d*3)++f.drop ((d+1)*3)) (by omega) p d4 (by rw[d5,i]) ?_
 refine dP results264 ?_
 exact⟨rfl,rfl⟩
def Zl (m cap a d:Nat)(f:C M)(r:O)(u:d<a)(A:a<=1000000)(s:∀k∈f,k.oneCell'=true)
 (v:Hl r (row (vS m a cap) 3 1 a f)):
 Sr 279 [vS m a cap,F d,F ((d+1:Nat):Int)] r (row (vS m a cap) 3 1 a f) λk x=>
  k=vS m (a-1) cap/\x=[row k 3 1 (a-1) (f.take (d*1)++f.drop ((d+1)*1))]:=by
 refine hJ func279 v ?_
 refine EV λn g p o i=>?_
 obtain⟨l,h⟩:∃l,l=(n.take (a*1)).drop ((d+1)*1):=⟨_,rfl⟩
 obtain⟨d1,d2,d3,d4,d5⟩:=OG (a:=1) (f:=[F 0]) g o u h rfl
 have j:cap≠a-1:=by omega
 refine cB ?_
 refine I (P3 1 (u:=d) (Q:=d+1) (v:=a) rfl underlying22 (by kernel_rfl) rfl rfl rfl (by omega) (by omega) g) ?_
 refine cH [0,1,2] ?_
 refine N [0,1,2,16] ?_
 refine N [0,1,2,7] ?_
 refine Y ?_
 refine eO 8 [6] [] [_] (cD _) λw=>?_
 refine cC ?_
 refine cN rfl (oP 1 (w:=0) (A:=d) rfl underlying22 (by kernel_rfl) rfl ⟨_,rfl⟩) ?_
 refine cC ?_
 refine cN rfl (oP 1 (w:=d+1) (A:=a) rfl underlying22 (by kernel_rfl) ⟨_,rfl⟩ rfl (by omega) g) ?_
 refine eh rfl (O2 0 (D:=l) mj (by simp only[qt,tJ,ite_self,Be];rfl) rfl rfl (λr t E k e=>?_) d1 (by omega) d2 (λk e=>s k (by rw[<-i];rw[h]at e;exact tG e))) ?_
 .have q:=(da.1 e).1;rw[d1]at q;have b:cap≠d+1\/a-(d+1)=0:=by omega
  rcases b with b|b
  .rw[cJ b,rz (m:=prog) t (l:=0) rfl,dU];rw[h,kQ]at e;rw[uL (by
    have:=j7 1 (show d+1<=a by omega);have y:(a-(d+1))*1+(d+1)*1=a*1:=by rw[<-mu];congr 1;omega
    omega)]at e
   exact e
  .rw[b,qt]at q;omega
 rintro _ _ B ⟨rfl,rfl⟩
 refine⟨_,cD _,?_⟩
 refine cN rfl (cU (z:=vS m (a-1) cap) (BN rfl) (by congr 1;omega)) ?_
 refine iK [0,7] ?_
 refine eL ?_
 refine I (cU (z:=PA (some ⟨m,(a-1)*1,.none⟩) 1 (cap-(a-1))) (oP 1 (w:=a-1) (A:=a) rfl underlying22 (by kernel_rfl) ⟨_,rfl⟩ ⟨_,rfl⟩ (by omega) g) (by rw[cJ j,dU];congr 1;omega)) ?_
 refine iQ (O5 (x:=Value.int .i64 0) 0 (B:=[F 0]) rfl underlying22 (λr=>by kernel_rfl) (by omega) rfl atT d3 (by simp[Value.oneCell'])) ?_
 rintro _ _ D rfl
 refine cH [0] ?_
 refine N [6] ?_
 refine ER (j:=a-1) (cap:=cap) (b:=1) (k:=f.take (d*1)++f.drop ((d+1)*1)) (by omega) p d4 (by rw[d5,i]) ?_
 refine dP results279 ?_
 exact⟨rfl,rfl⟩
def acp {a b g:C M}{e cap c:Nat}(o:e+1<=cap)(d:a.length=cap*3)(n:c<e)(f:b=(a.take (e*3)).drop (c*3))(m:g.length=3):b.length=(e-c)*3/\(c+1)*3+b.length<=a.length/\c*3+g.length<=(a.take ((c+1)*3)++b++a.drop ((c+1)*3+b.length)).length/\((a.take ((c+1)*3)++b++a.drop ((c+1)*3+b.length)).take (c*3)++g++(a.take ((c+1)*3)++b++a.drop ((c+1)*3+b.length)).drop (c*3+g.length)).length=cap*3/\((a.take ((c+1)*3)++b++a.drop ((c+1)*3+b.length)).take (c*3)++g++(a.take ((c+1)*3)++b++a.drop ((c+1)*3+b.length)).drop (c*3+g.length)).take ((e+1)*3)=(a.take (e*3)).take (c*3)++g++(a.take (e*3)).drop (c*3):=by
 have j:b.length=(e-c)*3:=by rw[f,iz,eD,d];omega
 have k:(a.take ((c+1)*3)++b++a.drop ((c+1)*3+b.length)).length=cap*3:=by simp only[cX,eD,iz,d];omega
 refine⟨j,by omega,by rw[k];omega,by simp only[cX,eD,iz,d];omega,?_⟩;have h:(a.take ((c+1)*3)++b++a.drop ((c+1)*3+b.length)).take (c*3)=(a.take (e*3)).take (c*3):=by rw[dJ,uO (by rw[eD,d];omega),xF,xF];congr 1;omega
 have i:(a.take ((c+1)*3)++b++a.drop ((c+1)*3+b.length)).drop (c*3+g.length)=b++a.drop ((c+1)*3+b.length):=by rw[dJ,List.drop_append_of_le_length (by rw[eD,d];omega),AR (by rw[eD,d];omega)];rfl
 rw[h,i,dJ,dJ];have l:((a.take (e*3)).take (c*3)).length=c*3:=by rw[eD,eD,d];omega
 rw[xE,l,gS (by omega)];congr 1;rw[xE,m,gS (by omega)];congr 1;rw[uO (by omega),gS (by omega),f]
def acr {a c e d:C M}{i f b:Nat}(o:d.length=3)(h:a.length=i*3)(q:b<i)(p:i+1<=f)(k:(a.take (b*3)++c).length=f*3)(g:e=a.drop (b*3)):e.length=(i-b)*3/\b*3+d.length<=(a.take (b*3)++c).length/\(b+1)*3+e.length<=((a.take (b*3)++c).take (b*3)++d++(a.take (b*3)++c).drop (b*3+d.length)).length/\(((a.take (b*3)++c).take (b*3)++d++(a.take (b*3)++c).drop (b*3+d.length)).take ((b+1)*3)++e++((a.take (b*3)++c).take (b*3)++d++(a.take (b*3)++c).drop (b*3+d.length)).drop ((b+1)*3+e.length)).length=f*3/\(((a.take (b*3)++c).take (b*3)++d++(a.take (b*3)++c).drop (b*3+d.length)).take ((b+1)*3)++e++((a.take (b*3)++c).take (b*3)++d++(a.take (b*3)++c).drop (b*3+d.length)).drop ((b+1)*3+e.length)).take ((i+1)*3)=a.take (b*3)++d++a.drop (b*3):=by
 have n:e.length=(i-b)*3:=by rw[g,iz,h];omega
 have h0:(a.take (b*3)).length=b*3:=by rw[eD,h];omega
 have l:(a.take (b*3)++c).take (b*3)=a.take (b*3):=by rw[uO (by omega),gS (by omega)]
 have j:(a.take (b*3)++d++(a.take (b*3)++c).drop (b*3+d.length)).length=f*3:=by simp only[cX,iz,h0,o];rw[cX,h0]at k;omega
 rw[l];refine⟨n,by rw[k];omega,by rw[j];omega,by rw[cX,cX,eD,iz,j];omega,?_⟩;have m:(a.take (b*3)++d++(a.take (b*3)++c).drop (b*3+d.length)).take ((b+1)*3)=a.take (b*3)++d:=by rw[uO (by rw[cX];omega),gS (by rw[cX];omega)]
 rw[m,uO (by simp only[cX];omega),gS (by simp only[cX];omega),g]
def acv (v:M)(x d a:Nat)(g Q:C M)(p:O)(hi:a<=d)(hl:d<=1000000)(R:∀l∈g,l.oneCell'=true)(E:∀l∈Q,l.oneCell'=true)(u:Q.length=3)(B:g.length=d*3)
 (L:atV p [row v 302 3 d g,row (vS x 1 1) 302 3 1 Q]):
 aAg 263 [v,F a,vS x 1 1] p [row v 302 3 d g,row (vS x 1 1) 302 3 1 Q] λl H=>
  ∃ad c,l=PA ad (d+1) c/\H=[row l 302 3 (d+1) (g.take (a*3)++Q++g.drop (a*3))]:=by
 obtain⟨ad,cap,rfl⟩:=fS L (p:=0) rfl
 have A:d<=cap:=by
  have T:p.ownsRow 0 302 3 (PA ad d cap) d g:=L.ok (i:=0) rfl;rcases T.2 with⟨x,rfl⟩|⟨r,D,n,x,_,_,hn,_⟩
  .omega
  .injection x with _ _ h3;omega
 refine hJ func263 L ?_
 refine cB ?_
 refine I (qB 3 (w:=a) (x:=d) rfl underlying203 (by kernel_rfl) ⟨_,rfl⟩ rfl hi A) ?_
 refine cZ (λs=>?_) λs=>?_
 .obtain rfl:a=d:=by have:(a:Int)=d:=s;omega
  refine cL ?_;refine dw (BG sH rfl rfl (λp f=>Rd.dM f (l:=1) rfl) E (by omega) (by omega)) ?_;rintro _ _ w7 ⟨⟨A3,c3,rfl⟩,rfl⟩;refine N [6] ?_;refine cK [0] ?_;refine dP results263 ?_;refine⟨_,_,rfl,?_⟩;rw[gS (by omega),AR (by omega),eN];rfl
 .have z:a<d:=by have:¬(a:Int)=d:=s;omega
  refine eQ λf=>?_;obtain⟨r,D,e⟩:=fs f (q:=0) rfl;injection e with e1 _ e3;subst e1;subst e3;clear f;refine cK [1,0] ?_;refine EV λk _ _ ai W=>?_;obtain rfl:k=Q:=by rw[<-W];exact(gS (by omega)).symm
  refine cK [1,0] ?_;refine EV λn _ S y o=>?_;refine iq ?_;refine I (Ky rfl underlying203) ?_;refine cZ (λt=>?_) λt=>?_
  .have j:cap<d+1:=by have:(cap:Int)<(d:Int)+1:=t;omega
   refine cL ?_;refine I (oP 3 (w:=0) (A:=a) rfl underlying203 (by kernel_rfl) rfl ⟨_,rfl⟩) ?_;refine cL ?_;refine I (cU (z:=F ((d+1-a:Nat):Int)) (Px rfl rfl) (by congr 1;omega)) ?_;refine dw (aab (x:=g.take (a*3)) sH (by simp only[qt,tJ,ite_self,Be];rfl) rfl underlying3 (λp f ab l b=>?_) (by rw[eD,B];omega) (by omega) (by omega) (by omega) (by omega)) ?_
   .rw[rz (m:=prog) f (l:=0) rfl,dU];have K:=(da.1 b).1;rw[eD]at K;rw[uL (by omega),<-o,uL (by omega)]at b;exact b
   rintro _ _ w9 ⟨ae,q,zs,rfl,rfl,ah,G,X⟩;have i:d+1<=q:=by omega
   obtain⟨m,h⟩:∃m,m=g.drop (a*3):=⟨_,rfl⟩;obtain⟨d1,d2,d3,d4,d5⟩:=acr u B z i X h;refine I (cU (z:=vS ae (d+1) q) (BN rfl) (by congr 1;omega)) ?_;refine cH [0,1,2,7,9] ?_;refine cL ?_;refine I (cU (z:=PA (some ⟨ae,a*3,.none⟩) (d+1-a) (q-a)) (oP 3 (w:=a) (A:=d+1) rfl underlying203 (by kernel_rfl) ⟨_,rfl⟩ rfl (by omega) i) (by rw[cJ (by omega),dU])) ?_;refine Y ?_;refine dw (DH (b:=3) (B:=k) 0 rfl rfl underlying203 (by kernel_rfl) rfl (λp f ab l b=>by rw[rz (m:=prog) f (l:=2) rfl,dU];exact b) (by rw[u,o5 (by omega)]) d2 E) ?_;rintro _ _ aj rfl;refine cH [0,1,7,9] ?_;refine Y ?_;refine eO 9 [8] [_,_] [_] (de [1,1] _ rfl) λaf=>?_;refine cL ?_;refine cN rfl (cU (z:=PA (some ⟨ae,(a+1)*3,.none⟩) (d+1-(a+1)) (q-(a+1))) (oP 3 (w:=a+1) (A:=d+1) rfl underlying203 (by kernel_rfl) ⟨_,by show _=some (Value.int .i64 ((a:Int)+1));rfl⟩ rfl (by omega) i) (by rw[cJ (by omega),dU])) ?_;refine cC ?_;refine cN rfl (cU (z:=PA (some ⟨r,a*3,.none⟩) (d-a) (cap-a)) (oP 3 (w:=a) (A:=d) rfl underlying203 (by kernel_rfl) ⟨_,rfl⟩ rfl (by omega) A) (by rw[cJ (by omega),dU])) ?_;refine eh rfl (DH (b:=3) (B:=m) 2 rfl rfl underlying203 (by kernel_rfl) rfl (λp f ab l b=>?_) (by rw[d1];congr 1;omega) d3 (λl b=>R l (by rw[h]at b;exact tG b))) ?_
   .rw[rz (m:=prog) f (l:=0) rfl];have K:=(da.1 b).1;rw[h,kQ,<-o,uL (by omega)]at b;exact b
   rintro _ _ ak rfl;refine⟨_,cD _,?_⟩;refine iK [9] ?_;refine N [6] ?_;refine cK [2] ?_;refine ER (j:=d+1) (cap:=q) (b:=3) (k:=g.take (a*3)++k++g.drop (a*3)) i G d4 d5 ?_;refine dP results263 ?_;exact⟨_,_,rfl,rfl⟩
  .have j:d+1<=cap:=by have:¬(cap:Int)<(d:Int)+1:=t;omega
   obtain⟨m,h⟩:∃m,m=(n.take (d*3)).drop (a*3):=⟨_,rfl⟩;obtain⟨d1,d2,d3,d4,d5⟩:=acp j y z h u;refine fw ?_;refine I (oP 3 (w:=0) (A:=d+1) rfl underlying203 (by kernel_rfl) rfl ⟨_,by show _=some (Value.int .i64 ((d:Int)+1));rfl⟩ (by omega) j) ?_;refine I (cU (z:=vS r (d+1) cap) (BN rfl) (by simp)) ?_;refine cH [0,1,2,7,8] ?_;refine iq ?_;refine I (cU (z:=PA (some ⟨r,(a+1)*3,.none⟩) (d+1-(a+1)) (cap-(a+1))) (oP 3 (w:=a+1) (A:=d+1) rfl underlying203 (by kernel_rfl) ⟨_,by show _=some (Value.int .i64 ((a:Int)+1));rfl⟩ rfl (by omega) j) (by rw[cJ (by omega),dU])) ?_;refine I (aaS (b:=Extern.SlicesOverlaps.overlaps #[203,203] #[4]) (s:=.bool false) rfl func294 (by kernel_rfl) rfl (by kernel_rfl) (by kernel_rfl) (λp f=>?_)) ?_
   .have P:p.heap[r]? =some (.cells n.toArray 302 (0,0)):=f.ok (i:=0) rfl;have w:p.heap[x]? =some (.cells k.toArray 302 (0,0)):=f.ok (i:=1) rfl;exact Lib.run_overlaps_apart p 203 4 302 underlying203 3 (λp=>by kernel_rfl) ⟨x,0,.none⟩ ⟨r,(a+1)*3,.none⟩ 1 1 _ _ (λe:x=r=>f.2.1.2.2 (cF x k 302) (dQ ..) r rfl e.symm) 302 302 3 n.length (by simp[World.shape?,w,u]) (by simp[World.shape?,P]) (by rw[y];omega) (by simp[World.frozen?,w]) (by simp[World.frozen?,w])
   refine I (JM rfl) ?_;refine cH [0,1,2,7,8,68] ?_;refine cC ?_;refine eO 9 [8] [_] [_] (List.Perm.swap _ _ _) λag=>?_;refine cL ?_;refine cN rfl (cU (z:=PA (some ⟨r,(a+1)*3,.none⟩) (d+1-(a+1)) (cap-(a+1))) (oP 3 (w:=a+1) (A:=d+1) rfl underlying203 (by kernel_rfl) ⟨_,by show _=some (Value.int .i64 ((a:Int)+1));rfl⟩ rfl (by omega) j) (by rw[cJ (by omega),dU])) ?_;refine cC ?_;refine cN rfl (cU (z:=PA (some ⟨r,a*3,.none⟩) (d+1-a) (cap-a)) (oP 3 (w:=a) (A:=d+1) rfl underlying203 (by kernel_rfl) ⟨_,rfl⟩ rfl (by omega) j) (by rw[cJ (by omega),dU])) ?_;refine eh rfl (DH (b:=3) (B:=m) 1 rfl rfl underlying203 (by kernel_rfl) rfl (λp f ab l b=>?_) (by rw[d1,Fz (by omega)];congr 1;omega) d2 (λl b=>R l (by rw[h,o]at b;exact tG b))) ?_
   .rw[rz (m:=prog) f (l:=1) rfl];have K:=(da.1 b).1;rw[h,kQ,uL (by omega)]at b;exact b
   rintro _ _ al rfl;refine⟨_,cD _,?_⟩;refine iK [0,1,2] ?_;refine cL ?_;refine I (cU (z:=PA (some ⟨r,a*3,.none⟩) (d+1-a) (cap-a)) (oP 3 (w:=a) (A:=d+1) rfl underlying203 (by kernel_rfl) ⟨_,rfl⟩ rfl (by omega) j) (by rw[cJ (by omega),dU])) ?_;refine Y ?_;refine dw (DH (b:=3) (B:=k) 1 rfl rfl underlying203 (by kernel_rfl) rfl (λp f ab l b=>by rw[rz (m:=prog) f (l:=0) rfl,dU];exact b) (by rw[u,o5 (by omega)]) d3 E) ?_;rintro _ _ am rfl;refine cH [0] ?_;refine N [6] ?_;refine cK [1] ?_;refine ER (j:=d+1) (cap:=cap) (b:=3) (k:=g.take (a*3)++k++g.drop (a*3)) j S d4 (by rw[d5,o]) ?_;refine dP results263 ?_;exact⟨_,_,rfl,rfl⟩
def QV {h:En}:∀{f:C En}{c:Nat},c<=f.length->(∀(a:Nat)(b:En),a<c->f[a]? =some b->eI b.1 h.1=true)->(∀(a:Nat)(b:En),c<=a->f[a]? =some b->eI b.1 h.1=false)->lM h f=f.take c++h::f.drop c
 |[],0,_,_,_=>rfl
 |[],c+1,i,_,_=>absurd i (by simp)
 |b::l,0,_,_,d=>by rw[lM,d 0 b (dT _) rfl];rfl
 |b::l,c+1,i,g,d=>by rw[lM,g 0 b (by omega) rfl,cM rfl,QV (c:=c) (by simpa using i) (λa k j e=>g (a+1) k (by omega) e) (λa k j e=>d (a+1) k (by omega) e)];rfl
def Pm (b:En)(a:C En):dn (b::a)=dy (some b)++dn a:=by unfold dn fp;rw[dA,ji]
def tY (a:cG En):(dy a).length=3:=by cases a<;>rfl
def aiE {j:O}{h c b i cap:Nat}{d:C M}(a:(row (vS i b cap) h c b d).ok j):b<=cap:=by
 have a:j.ownsRow 0 h c (vS i b cap) b d:=a;rcases a.2 with⟨f,_⟩|⟨k,e,g,f,_,_,m,_⟩
 .cases f
 .injection f with _ _ l;omega
section
variable{b c:Nat}{a:C En}{e:V}{d:O}{f:U}
def Vw (g:En)(o:gd (cE a))(R:a.length<c)(K:c<=32)(A:pG b c a e)(h0:Hl d e)(q:g.1≠ByteArray.empty)(B:g.1∉cE a)(z:g.2.1+g.2.2<=9223372036854775808):Sr 220 [Z b,.agg (dy (some g)).toArray] d e λT Q=>∃s,T=F 0/\Q=[s]/\pG b c (lM g a) s:=by
 obtain⟨v,rfl⟩:=A;obtain⟨H,m,rfl⟩:=HQ h0 (r:=0) (s:=1) rfl rfl;refine enter (g:=50) func220 rfl rfl [(0,_),(1,.agg (dy (some g)).toArray)] rfl ⟨rfl,rfl,trivial⟩ h0 ?_;refine Mf (f:=dy (some g)) λw E=>?_;refine N [0,3] ?_;refine N [0,3,8] ?_;refine fw ?_;refine I (cU (oO rfl rfl) (z:=.bool false) (dq Value.bool (fL q))) ?_;refine cB ?_;refine cY (_) [_] func212 (c8 1 rfl) (λd p i=>IK _ o (by omega) i) ?_;rintro _ _ W ⟨rfl,S,r,rfl,h⟩;obtain rfl:r=false:=by
  cases r with
  |false=>rfl
  |true=>obtain⟨y,D,x,_⟩:=h.yes o;exact absurd (dz.2 ⟨y,eH D,x⟩) B
 refine N [0,3,5,6] ?_;refine N [0,3,5,19] ?_;refine cC ?_;refine eO 11 [] [_,_] [] (ik _) λL=>?_;refine cQ ?_;refine cN rfl (eZ 0 0 (n:=PA H a.length m)) ?_;refine cL ?_;refine cN rfl (eZ 0 0 (n:=F c)) ?_;refine cB ?_;refine dw (eB func213 (λd p=>Vv g.2.1 g.2.2 0 d (by omega) (by omega) (by omega))) ?_;rw[gb (by omega)];rintro _ _ X ⟨_,rfl,rfl,rfl⟩;refine N [0,3,5,32] ?_;refine cQ ?_;refine eu (ub b c _ a) ?_;refine mm 12 [7,8,11] [(_,some 11),(_,none)] [_] (de [0,1] _ rfl) λG=>?_;refine cL ?_;refine ew rfl (dH 0 (n:=PA H a.length m)) ?_;refine Y ?_;refine ew rfl (di 1 (b:=dy (some g))) ?_;refine gY rfl (qi sH (b:=dy (some g))) ?_;rintro _ _ u ⟨t,rfl,rfl⟩;refine⟨_,eg.symm,?_⟩;refine gY rfl (ox [_,_] [_,_] func263 (de [3,2] _ rfl) (λd p i=>acv _ _ a.length S (dn a) (dy (some g)) d h.le (by omega) (ya a) (by simp[dy,Value.oneCell']) rfl (pX a) i)) ?_;rintro _ _ P ⟨_,rfl,k,l,rfl,rfl⟩;refine⟨_,de [1,1] _ rfl,?_⟩;refine cC ?_;refine jC rfl (gD 0 (y:=[F c,PA k (a.length+1) l])) ?_;rintro _ _ ab rfl;refine⟨_,de [1] _ rfl,?_⟩;refine ui [] rfl ?_;refine N [4] ?_;refine cK [1,1] ?_;refine dG (d:=[]) [_,_] ?_;refine dP results220 ?_;refine⟨_,rfl,rfl,PA k (a.length+1) l,?_⟩;unfold ub;rw[QV h.le h.lo h.hi,x9,Pm,<-BJ,<-DP,dJ,cX,eE,<-ma,<-cX,gJ]
def SL {i:Nat}{j:En}(h:gd (cE a))(g:a[i]? =some j):iT a j.1=a.take i++a.drop (i+1):=by
 have b:=KN g
 conv=>lhs;rw[b]
 exact vB (by rw[<-b];exact h.imp λg=>pj g)
def atP (h:En)(i:gd (cE a))(T:a.length<=32)(B:pG b c a e)(h0:Hl d e)(o:h∈a):Sr 222 [Z b,.string h.1] d e λX Q=>∃t,X=PF [gf h.1 h.2.1 h.2.2,.bool true]/\Q=[t]/\pG b c (iT a h.1) t:=by
 obtain⟨v,rfl⟩:=B;obtain⟨W,r⟩:=ka.1 o;have L:=(da.1 r).1;obtain⟨u,cap,rfl⟩:=nB h0 (s:=0) (t:=1) rfl rfl;refine dR func222 h0 ?_;refine NV [vE,J 0,J 0] λy D=>?_;refine cB ?_;refine cY (_) [_] func212 (c8 1 rfl) (λd n k=>IK _ i (by omega) k) ?_;rintro _ _ P ⟨rfl,w,s,rfl,p⟩;obtain rfl:s=true:=by
  cases s with
  |true=>rfl
  |false=>exact absurd (gu o) (p.no i)
 obtain⟨x',l,R,g⟩:=p.yes i;rw[GA (i.imp λS=>pj S) o]at g;injection g with g;subst g;have q:=(da.1 l).1;refine NX 0 0 (v:=vS u a.length cap) ?_;refine cC ?_;refine I (qN 0 1 (b:=dy (some h)) (hv:=tZ l)) ?_;refine dj [vE,J 0,J 0] λz E=>?_;refine cO 0 (u:=dy (some h)) (H:=dy (some h)) (h1:=by simp[dy,Value.oneCell']) λG=>?_;refine cH [0,4,6,8] ?_;refine Y ?_;refine cK [1,0,0] ?_;refine eu (ub b c _ a) ?_;refine iq ?_;refine I (cU (z:=F ((w+1:Nat):Int)) (kH rfl rfl) (by rw[gR];rfl)) ?_;refine cY (_) [_,_,_] func264 (c8 1 rfl) (λd n k=>Zk u cap a.length w (dn a) d q (by omega) (ya a) k) ?_;rintro _ _ H ⟨rfl,rfl⟩;refine KW 1 (G:=[F c,vS u (a.length-1) cap]) λx=>?_;refine K3 2 (f:=dy (some h)) ?_;refine cO 3 (u:=dy (some h)) (H:=dy (some h)) (h1:=by simp[dy,Value.oneCell']) λK=>?_;refine N [4,5] ?_;refine cK [1,0,1] ?_;refine dG [_,_] ?_;refine eM ?_;refine⟨_,_,λm A n=>eW results222 (eX (e4 1 rfl underlying302 rfl (by kernel_rfl) rfl) (gg rfl eY)) m A _ n,(iw _).cons_cons _,?_⟩;refine⟨_,rfl,rfl,vS u (a.length-1) cap,?_⟩;unfold ub;rw[SL i l,x9,<-BJ,<-DP];rw[show(a.take w++a.drop (w+1)).length=a.length-1 by simp;omega]
def rD (g h:En):En:=if ep h<=ep g then h else g
def RD:∀(h:C En)(g:En),h.foldl rD g∈g::h
 |[],g=>dQ ..
 |j::h,g=>by
  rw[oZ];rcases dh.1 (RD h (rD g j))with i|i
  .rw[i];unfold rD;split
   .exact dN _ (dQ ..)
   .exact dQ ..
  .exact dN _ (dN _ i)
def atM (g:En)(i:C En)(hn:i.length<=32)(P:pG b c (g::i) e)(h0:Hl d e)(G:∀x∈g::i,x.2.1+x.2.2<=9223372036854775808):Sr 221 [Z b] d e λu D=>∃R,u=PF [gf R.1 R.2.1 R.2.2,.bool true]/\D=[e]/\Lv (g::i)=some R:=by
 obtain⟨v,rfl⟩:=P;obtain⟨w,cap,rfl⟩:=nB h0 (s:=0) (t:=1) rfl rfl (by show 0<i.length+1;omega);have A:i.length+1<=cap:=aiE (h0.okB (j:=0) (k:=1) rfl rfl);have al:(g::i).length=i.length+1:=rfl;obtain⟨s,r⟩:∃s,(if cap=1 then 0 else 0+1*3)=s:=⟨_,rfl⟩;refine dS func221 h0 ?_;refine NV [vE,J 0,J 0] λk ae=>?_;refine cB ?_;refine dZ rfl rfl (eZ 1 0 (n:=vS w (i.length+1) cap)) ?_;refine NX 1 0 (v:=vS w (i.length+1) cap) ?_;refine I (cR (ab:=0)) ?_;refine I (qN 1 1 (b:=dy (some g)) (hv:=tZ (a:=0) (b:=g::i) rfl)) ?_;refine dj [vE,J 0,J 0] λm af=>?_;refine cO 0 (u:=dy (some g)) (H:=dy (some g)) (h1:=by simp[dy,Value.oneCell']) λag=>?_;refine NX 2 0 (v:=vS w (i.length+1) cap) ?_;refine I (cU (z:=PA (some ⟨w,s,.none⟩) i.length (cap-1)) (oP 3 (w:=1) (A:=i.length+1) rfl underlying203 (by kernel_rfl) ⟨_,rfl⟩ rfl (by omega) A) (by rw[r,C8])) ?_;refine K4 [2,4,28,29,30] ?_;refine dB (λad ab D w'=>∃(n:Nat),ab=[(2,Z k),(4,Z m),(28,PA (some ⟨w,s,.none⟩) i.length (cap-1)),(29,F i.length),(30,F n)]/\D=[cF m (dy (some ((i.take n).foldl rD g))) 302,cF k [vE,J 0,J 0] 302,cz (ub b c (vS w (i.length+1) cap) (g::i))]/\ad+n=i.length) i.length ⟨0,rfl,rfl,rfl⟩ ?_;rintro ad _ _ w1 ⟨n,rfl,rfl,hq⟩;refine cZ (λH=>?_) λH=>?_
 .have X:n<i.length:=by omega
  obtain⟨o,B⟩:∃o,i[n]? =some o:=⟨_,dr X⟩;rw[cJ (by omega)]at r;subst r;obtain⟨h,z⟩:∃h,(i.take n).foldl rD g=h:=⟨_,rfl⟩;have y:=RD (i.take n) g;have ak:=G h (by
   rw[z]at y;rcases dh.1 y with S|S
   .rw[S];exact dQ ..
   .exact dN _ (qq S))
  have am:=G o (dN _ (eH B));have L:(i.take (n+1)).foldl rD g=rD h o:=by rw[ia,B,uK,z];rfl
  rw[z];refine cC ?_;refine eS (λab D w'=>∃E:Nat,ab=[(2,Z k),(4,Z m),(28,PA (some ⟨w,0+1*3,.none⟩) i.length (cap-1)),(29,F i.length),(30,F n)]/\D=[cF E (dy (some o)) 302,cF m (dy (some (rD h o))) 302,cF k [vE,J 0,J 0] 302,cz (ub b c (vS w (i.length+1) cap) (g::i))]) ?_ ?_
  .refine cL ?_;refine I (PW (r:=dy (some o)) 2 1 rfl rfl rfl underlying302 rfl (by kernel_rfl) (by have:=tZ (a:=n+1) (b:=g::i) (c:=o) B;rw[show 0+(n+1)*3=0+1*3+n*3 by omega]at this;exact this)) ?_;refine dj [vE,J 0,J 0] λp ah=>?_;refine cO 0 (u:=dy (some o)) (H:=dy (some o)) (h1:=by simp[dy,Value.oneCell']) λai=>?_;refine cZ (λK=>?_) λK=>?_
   .have q:ep o<=ep h:=by unfold ep;omega
    refine K3 0 (f:=dy (some o)) ?_;refine cO 1 (u:=dy (some o)) (H:=dy (some o)) (h1:=by simp[dy,Value.oneCell']) λaj=>?_;refine cH [2,4,28,29,30] ?_;exact⟨p,rfl,by unfold rD;rw[cM q];rfl⟩
   .have q:¬ep o<=ep h:=by unfold ep;omega
    refine kw [2,4,28,29,30] rfl (iY ?_);exact⟨p,rfl,by unfold rD;rw[cJ q];rfl⟩
  .rintro _ _ w8 ⟨E,rfl,rfl⟩;refine cK [1,1,1] ?_;refine N [2,4,28,29,30] ?_;exact⟨ad-1,by omega,n+1,rfl,by rw[L],by omega⟩
 .obtain rfl:n=i.length:=by omega
  rw[j6];refine dI ?_;refine K3 0 (f:=dy (some (i.foldl rD g))) ?_;refine cO 1 (u:=dy (some (i.foldl rD g))) (H:=dy (some (i.foldl rD g))) (h1:=by simp[dy,Value.oneCell']) λQ=>?_;refine N [2,3] ?_;refine cK [2,1] ?_;refine eM ?_;refine⟨_,_,λt T W=>eW results221 (eX (e4 1 rfl underlying302 rfl (by kernel_rfl) rfl) (gg rfl eY)) t T _ W,(iw _).cons_cons _,?_⟩;exact⟨i.foldl rD g,rfl,rfl,rfl⟩
end
section
variable{e d:Nat}{b f:Nat}{fn:Func}{a:V}{c:O}
def UJ {n:U->Nat->Nat->Bool->Prop}{A:U}(u:∀c,(method (prog.types.size+Made.depth) b (Z d) "Get").run prog c=.ok (f,Z d) c)(t:prog.funcs[f]? =some fn)(r:(fn.body.isNone,fn.name== "runtime.NumGoroutine")=(false,false))(s:∀c,Hl c a->Sr f [Z d,.string A] c a λx o=>∃h i j g,x=PF [gf h i j,.bool g]/\o=[a]/\n h i j g)(v:Hl c (cz [iU e b d,a])):Sr 216 [Z e,.string A] c (cz [iU e b d,a]) λx o=>∃h i j g,x=PF [gf h i j,.bool g]/\o=[cz [iU e b d,a]]/\n h i j g:=by refine dR func216 v ?_;refine eu (d:=[]) [iU e b d,a] ?_;refine NV [vE,J 0,J 0] λp y=>?_;refine cB ?_;refine dw (x5 a [_,_] rfl u rfl t r (c8 2 rfl) (λc l m=>s c m)) ?_;rintro _ _ B ⟨_,rfl,h,i,j,g,rfl,rfl,w⟩;refine KW 1 λz=>?_;refine N [4,5] ?_;refine cK [2,0,0] ?_;refine dG (d:=[_]) [iU e b d,a] ?_;refine cK [1,0] ?_;refine eM ?_;refine⟨_,_,λk q l=>eW results216 (eX (e4 0 rfl underlying302 rfl (by kernel_rfl) rfl) (gg rfl eY)) k q _ l,fO ..,?_⟩;exact⟨h,i,j,g,rfl,rfl,w⟩
end
section
variable{e d a:Nat}{f:iV}{b:V}{g:O}{c:U}
def ak3 {z:TS}(v:iN c)(w:mA e d z b)(x:Hl g b):
 Sr 216 [Z e,.string c] g b λE H=>∃j l m i,E=PF [gf j l m,.bool i]/\H=[b]/\qk c j l m i z:=by
 cases z with
 |sv G K n h=>obtain⟨k,t,rfl,p⟩:=w;refine UJ (n:=λj l m i=>qk c j l m i (.sv G K n h)) (f:=346) (λg=>by kernel_rfl) func346 (by kernel_rfl) (λg q=>(T6 k d G n h c t g v p q).mono ?_) x;rintro E _ ⟨A,rfl⟩;obtain⟨j,B,D,i,rfl,s,r⟩:=A.form;exact⟨j,B,D,i,rfl,rfl,s,r⟩
 |fr y o h=>obtain⟨k,t,rfl,p⟩:=w;refine UJ (n:=λj l m i=>qk c j l m i (.fr y o h)) (f:=391) (λg=>by kernel_rfl) func391 (by kernel_rfl) (λg q=>(GF k d y o h c t g v p q).mono ?_) x;rintro E _ ⟨rfl,rfl⟩;obtain⟨j,B,D,i,u,s,r⟩:=KI y o c;exact⟨j,B,D,i,u,rfl,s,r⟩
def oB (e d a:Nat)(f:iV)(b:V):Prop:=∃h,mA e d h b/\ns d a f h
def ED {c:U}(h:c.size<=255):iN c:=by unfold iN;omega
def ahN (h:a=1\/a=2)(i:1<=d)(k:d<=64):Sn 162 [F a,F d] g λo n=>∃e b,o=PF [Z e,F 0]/\n=[b]/\oB e d a ⟨[],0,0⟩ b:=(ak8 a d g h i k).mono λo n ⟨e,b,l,m,j⟩=>⟨e,b,l,m,_,j,ns.new h i j⟩
def ahL (n:Nat)(u:d<=12)(t:f.L.length<=d)(s:c≠ByteArray.empty)(m:c.size<=255)(x:n≠0)(w:f.dY+n<=9223372036854775808)(v:oB e d a f b)(h0:Hl g b):Sr 215 [Z e,.string c,J n] g b λz y=>∃i,z=F 0/\y=[i]/\oB e d a (f.add a d c n) i:=by obtain⟨A,hS,h⟩:=v;refine(akG c n u (ED m) (by omega) h.j hS h0).mono ?_;rintro z y ⟨o,p,i,rfl,rfl,k,q⟩;obtain⟨rfl,l⟩:=h.add (r:=b) k (by rw[<-h.rel.len h.uq];exact t) s x w q;exact⟨i,rfl,rfl,p,k,l⟩
def Sz (j:c.size<=255)(m:oB e d a f b)(h0:Hl g b):Sr 216 [Z e,.string c] g b λn o=>o=[b]/\((∃i,f.get a c=some i/\i.1=c/\n=PF [gf i.1 i.2.1 i.2.2,.bool true])\/(f.get a c=none/\n=PF [gf ByteArray.empty 0 0,.bool false])):=by
 obtain⟨r,hS,l⟩:=m;refine(ak3 (ED j) hS h0).mono ?_;rintro n o ⟨q,s,t,p,rfl,rfl,k⟩;rcases l.get k with⟨i,h,rfl,rfl,rfl⟩|⟨h,rfl,rfl,rfl,rfl⟩
 .exact⟨rfl,.inl ⟨_,h,rfl,rfl⟩⟩
 .exact⟨rfl,.inr ⟨h,rfl⟩⟩
def ahP (j:c.size<=255)(n:oB e d a f b)(h0:Hl g b):Sr 219 [Z e,.string c] g b λ_ o=>∃h,o=[h]/\oB e d a (f.take c) h:=by obtain⟨s,hS,m⟩:=n;refine(ali c (ED j) hS h0).mono ?_;rintro v o ⟨r,t,u,q,k,h,rfl,rfl,i,p,l⟩;exact⟨h,rfl,k,i,m.take i l⟩
def ahO {h p:En}(m:c.size<=255)(o:h.1.size<=255)(y:f.get a c=some p)(n:h.1≠ByteArray.empty)(A:h.1∉cE f.L)(s:h.2.1≠0)(t:h.2.1+h.2.2<=p.2.1)(u:h.2.2<=f.base)(E:p.2.1<18446744073709551616)(z:oB e d a f b)(h0:Hl g b):Sr 223 [Z e,.string c,.agg #[.string h.1,J h.2.1,J h.2.2]] g b λD B=>∃i,D=PF [gf c p.2.1 p.2.2,F 0]/\B=[i]/\oB e d a (f.swap a c h) i:=by obtain⟨H,hS,l⟩:=z;refine(alh c h.1 h.2.1 h.2.2 (ED m) (ED o) (by omega) (by omega) l.j hS h0).mono ?_;rintro D B ⟨G,K,Q,q,r,i,rfl,rfl,k,x⟩;obtain⟨v,w⟩:=l.swap k y n A s t u x;exact⟨i,v,rfl,r,k,w⟩
def Sx (i:d<=12)(j:oB e d a f b)(h0:Hl g b):Sr 214 [Z e] g b λl k=>k=[b,row l 302 3 (mh (f.L.map (iM a f.base))).length (dn (mh (f.L.map (iM a f.base))))]:=by obtain⟨m,hS,h⟩:=j;refine(ak2 i hS h0).mono ?_;rintro l k ⟨es,rfl,hE⟩;rw[h.eF hE]
def ahQ (i:oB e d a f b)(h0:Hl g b):Sr 176 [Z e] g b λk j=>k=J f.base/\j=[b]:=by obtain⟨l,hS,h⟩:=i;refine(alm hS h0).mono ?_;rintro k j ⟨rfl,rfl⟩;rw[h.base];exact⟨rfl,rfl⟩
end
abbrev oH:=C (M×C Nat)
def qI (a:oH):C M:=a.map Prod.fst++List.replicate (4-a.length) vN
def qa (a:M×C Nat):V:=row a.1 23 1 a.2.length (dF a.2)
def rO (d:PC)(b:oH)(c:M)(a:Nat):C M:=F d.depth::(qI b++[c,J d.rM,J a])
def ow (e:Nat)(d:PC)(a:oH)(c:M)(b:Nat):C V:=[cF e (rO d a c b) 363,row c 23 1 16 (dF d.table),cz (a.map qa)]
structure wz (c:PC)(a:oH):Prop where
 len:a.length=c.depth
 wid:∀b∈a,b.2.length=c.width
 lt:∀b∈a,∀d∈b.2,d<18446744073709551616
def zl (g:Nat)(d:PC)(e:C (C Nat))(b:Nat)(f:V):Prop:=∃a c,f=cz (ow g d a c b)/\e=a.map Prod.snd/\wz d a
def SX {a:oH}(b:a.length<=4):(qI a).length=4:=by simp[qI];omega
def Mo {h:PC}{a:oH}{e:M}{b c:Nat}{g:M×C Nat}(f:a[c]? =some g):(rO h a e b)[0+1+c*1]? =some g.1:=by have d:=(da.1 f).1;rw[show 0+1+c*1=c+1 by omega];unfold rO qI;rw[y0,dJ,nk (by rw[dL];exact d),eK,f];rfl
def zZ {d:PC}{a:oH}{b:M}{c:Nat}(f:a.length<=4):rO d a b c=[F d.depth,(qI a).getD 0 b,(qI a).getD 1 b,(qI a).getD 2 b,(qI a).getD 3 b,b,J d.rM,J c]:=by
 have e:=SX f;unfold rO
 match g:qI a,e with
 |[h,i,d,j],_=>rfl
section
variable{c:PC}{e a:Nat}{b:oH}{d:M}{f:O}{g:U}
def wz.at_ (k:wz c b){i:Nat}(l:i<c.depth):∃m,b[i]? =some m/\m.2.length=c.width/\(∀n∈m.2,n<18446744073709551616):=by
 have h:i<b.length:=by rw[k.len];exact l
 have j:b[i]∈b:=List.getElem_mem h;exact⟨_,dr h,k.wid _ j,k.lt _ j⟩
def Mp (k:c.Ok)(s:wz c b)(u:Hl f (cz (ow e c b d a)))(t:g.size<=140737488355328)(i:Nat)(A:i<c.depth){h j:Nat}{y:C Nat}(n:b[i]? =some (vS h c.width j,y)):Sr 211 [Z e,F i,.string g] f (cz (ow e c b d a)) λB x=>B=.pointer (some ⟨h,c.at g i,.none⟩)/\x=[cz (ow e c b d a)]:=by
 have z:=k.depth;have v:=k.width;have l:=c.Bv v.1 g i;have r:b.length<=4:=by rw[s.len];omega
 have m:=zZ (d:=c) (b:=d) (c:=a) r;refine hJ func211 u ?_;refine eu (ow e c b d a) ?_;refine N [0,1,2] ?_;refine Y ?_;refine oW [0,1,2,3,4,5,6,7,8,9,10,11,12,13,14,15,17,18,19,20,21,22,23,1016,1024,25,26] [_,_,_] [] (ik _) λw=>?_;refine df ?_;refine cN rfl (dH 0 (n:=vS h c.width j) (hv:=Mo n)) ?_;refine cQ ?_;refine cN rfl (dH 0 (n:=d) (hv:=by rw[m];rfl)) ?_;refine cQ ?_;refine cN rfl (dH 0 (n:=J c.rM) (hv:=by rw[m];rfl)) ?_;refine fw ?_;refine cN rfl (dH 0 (n:=vS h c.width j) (hv:=Mo n)) ?_;refine Y ?_;refine eh rfl (eB func260 (λf o=>QL c.table d c.rM i g f k.table.1 (Rd.dM o (l:=1) rfl) t (by omega))) ?_;rintro _ _ p ⟨_,rfl,rfl,rfl⟩;refine⟨_,jQ _ _ _,?_⟩;refine eh rfl (eB func201 (λf o=>H4 _ c.width f (GQ _ _ _) (by omega))) ?_;rintro _ _ q ⟨_,rfl,rfl,rfl⟩;refine⟨_,jQ _ _ _,?_⟩;refine cN rfl (cU (z:=.pointer (some ⟨h,c.at g i,.none⟩)) (cR (ab:=c.at g i) (ad:=l)) (by rw[dU,fT])) ?_;refine N [6] ?_;refine dG (d:=[]) (ow e c b d a) ?_;refine dP results211 ?_;exact⟨rfl,rfl⟩
def Tx {h:V}{p:C (C Nat)}(k:c.Ok)(m:zl e c p a h)(n:Hl f h):Sr 167 [Z e] f h λq o=>q=J a/\o=[h]:=by
 obtain⟨b,d,rfl,-,j⟩:=m;have i:b.length<=4:=by rw[j.len];have:=k.depth;omega
 have l:=zZ (d:=c) (b:=d) (c:=a) i;refine dS func167 n ?_;refine NX 0 0 (v:=J a) (hv:=by rw[l];rfl) ?_;refine db results167 ?_;exact⟨rfl,rfl⟩
end
def TB (d:Nat->Nat):∀(b c:C (C Nat))(a:Nat),qc d a (b++c)=qc d a b++qc d (a+b.length) c
 |[],c,a=>rfl
 |e::b,c,a=>by show _::qc d (a+1) (b++c)=_::(qc d (a+1) b++_);rw[TB d b c (a+1),eE];congr 3;omega
def Ty (d:Nat->Nat)(e:Nat):∀(b c:C (C Nat))(a:Nat),lZ d e a (b++c)=lZ d e a b++lZ d e (a+b.length) c
 |[],c,a=>rfl
 |f::b,c,a=>by show _::lZ d e (a+1) (b++c)=_::(lZ d e (a+1) b++_);rw[Ty d e b c (a+1),eE];congr 3;omega
def ado (a:C Nat)(b:Nat):uj (a++[b])=Nat.min (uj a) b:=by simp[uj]
def MK {a:Type}{b:C a}{c:Nat}{d:a}(e:b[c]? =some d):b.take (c+1)=b.take c++[d]:=by rw[ia,e];rfl
def Mq (c:Nat->Nat){b:C (C Nat)}{a:Nat}{e:C Nat}(d:b[a]? =some e):uj (qc c 0 (b.take (a+1)))=Nat.min (uj (qc c 0 (b.take a))) (e.getD (c a) 0):=by have f:=(da.1 d).1;rw[MK d,TB,eD,o5 (by omega),dU];exact ado _ _
def ajG (d:Nat->Nat)(g:Nat){b:C (C Nat)}{a:Nat}{f:C Nat}(c:b[a]? =some f):(lZ d g 0 (b.take a)++b.drop a).set a (f.set (d a) (max (f.getD (d a) 0) g))=lZ d g 0 (b.take (a+1))++b.drop (a+1):=by
 have e:=(da.1 c).1;have h:(lZ d g 0 (b.take a)).length=a:=by rw[H3,eD];omega
 have i:b.drop a=f::b.drop (a+1):=by rw[jP e];rw[dr e]at c;injection c with c;rw[c]
 rw[MK c,Ty,eD,o5 (by omega),dU,i];rw[C4 _ _ (by omega),h,nK];simp[lZ]
def ajF (d:Nat->Nat)(e:Nat){b:C (C Nat)}{a:Nat}(f:a<b.length):(lZ d e 0 (b.take a)++b.drop a)[a]? =b[a]? :=by
 have c:(lZ d e 0 (b.take a)).length=a:=by rw[H3,eD];omega
 rw[nm (by omega),c,nK,kQ,tJ]
section
variable{b:PC}{h c:Nat}{a:oH}{d:M}{j:O}{e:U}{i:O}{g:Nat->Prop}{f:C V}
def Tw {p:C V}{k o:Nat}{n:M×C Nat}(m:f[o]? =some (cz (ow h b a d c)))(l:a[k]? =some n):In i g f (qa n):=((In.here m).cz (j:=2) (L:=ow h b a d c) rfl).cz (j:=k) (L:=a.map qa) (by rw[eK,l];rfl)
def HZ {y:Nat}(w:f[y]? =some (cz (ow h b a d c)))(u:cI i g f j)(t:wz b a)(x:1<=b.width){m:Nat}(v:m<b.depth):∃k o p,a[m]? =some (vS k b.width o,p)/\p.length=b.width/\(∀A∈p,A<18446744073709551616)/\In i g f (row (vS k b.width o) 23 1 b.width (dF p)):=by obtain⟨⟨z,p⟩,r,q,s⟩:=t.at_ v;have l:In i g f (qa (z,p)):=Tw (p:=[]) w r;have n:=l j u;unfold qa at n l;dsimp only at q;rw[q]at n l;obtain⟨k,o,rfl⟩:=pD n;exact⟨k,o,p,r,q,s,l⟩
def GJ {m:C Nat}{k n:Nat}(l:m[k]? =some n):m.getD k 0=n:=by rw[jM,l];rfl
def ajB {K:V}{R:C (C Nat)}(o:b.Ok)(X:zl h b R c K)(E:Hl j K)(D:e.size<=140737488355328):Sr 210 [Z h,.string e] j K λv f=>v=J (qb (b.at e) R:Int)/\f=[K]:=by
 obtain⟨a,d,rfl,rfl,l⟩:=X;have hd:=o.depth;have q:=o.width;have T:a.length<=4:=by rw[l.len];omega
 have he:=zZ (d:=b) (b:=d) (c:=c) T;obtain⟨g0,af,R0,r,P,x0,-⟩:=HZ (m:=0) (y:=0) rfl E l q.1 (by omega);have W:=b.Bv q.1 e 0;obtain⟨w,u⟩:∃w,R0[b.at e 0]? =some w:=⟨_,dr (by omega)⟩;have ai:=x0 w (eH u);refine dR func210 E ?_;refine cB ?_;refine cY (_) [] func211 (cD _) (λj p n=>Mp o l n D 0 (by omega) r) ?_;rintro _ _ ad ⟨rfl,rfl⟩;refine Y ?_;refine I (td (d:=J w) (by have:=Tw (i:=j) (g:=(cz (ow h b a d c)).fq) (p:=[]) (o:=0) (f:=[cz (ow h b a d c)]) rfl r;unfold qa at this;rw[P]at this;exact this) rfl underlying23 rfl (Af u)) ?_;refine K4 [0,1,5,6] ?_;refine dB (λab m f w'=>∃k:Nat,m=[(0,Z h),(1,.string e),(5,J ((uj (qc (b.at e) 0 ((a.map Prod.snd).take k)):Nat):Int)),(6,F k)]/\f=[cz (ow h b a d c)]/\1<=k/\ab+k=b.depth) (b.depth-1) ⟨1,?_,rfl,by omega,by omega⟩ ?_
 .have s:(a.map Prod.snd)[0]? =some R0:=by rw[eK,r];rfl
  rw[Mq (b.at e) s,GJ u];have:Nat.min (uj (qc (b.at e) 0 ((a.map Prod.snd).take 0))) w=w:=Fz (by show w<=18446744073709551615;omega);rw[this];rfl
 rintro ab _ _ w1 ⟨k,rfl,rfl,ah,hq⟩;refine NX 0 0 (v:=F b.depth) ?_;refine cZ (λz=>?_) λz=>?_
 .have A:k<b.depth:=by omega
  refine eQ λp=>?_;obtain⟨S,cp,x,y,l1,x1,B⟩:=HZ (m:=k) (y:=0) rfl p l q.1 A;clear p;have ag:=b.Bv q.1 e k;obtain⟨Q,G⟩:∃Q,x[b.at e k]? =some Q:=⟨_,dr (by omega)⟩;refine Pw 0 func211 (λj p n=>Mp o l n D k A y) ?_;rintro _ _ ae ⟨rfl,rfl⟩;refine Y ?_;refine I (td (d:=J Q) B rfl underlying23 rfl (Af G)) ?_;refine I (BS (r:=((Nat.min (uj (qc (b.at e) 0 ((a.map Prod.snd).take k))) Q:Nat):Int)) rfl rfl (by show _=((min _ _:Nat):Int);split<;>omega)) ?_;refine ir [0,1,5,6] ?_;refine⟨ab-1,by omega,k+1,?_,rfl,by omega,by omega⟩;have s:(a.map Prod.snd)[k]? =some x:=by rw[eK,y];rfl
  rw[Mq (b.at e) s,GJ G];rfl
 .obtain rfl:k=b.depth:=by omega
  have t:(a.map Prod.snd).take b.depth=a.map Prod.snd:=gS (by rw[dL,l.len];exact dT _);rw[t];refine dI ?_;refine db results210 ?_;exact⟨rfl,rfl⟩
end
def wz.set {d:PC}{b:oH}(e:wz d b){i:Nat}{j:M}{c:C Nat}(f:c.length=d.width)(g:∀k∈c,k<18446744073709551616):wz d (b.set i (j,c)):=by
 refine⟨by rw[fy];exact e.len,λh a=>?_,λh a=>?_⟩
 .rcases AX a with a|rfl
  .exact e.wid h a
  .exact f
 .rcases AX a with a|rfl
  .exact e.lt h a
  .exact g
def aiI {a:oH}{c:Nat}{d:M×C Nat}{e:C Nat}(b:a[c]? =some d):qI (a.set c (d.1,e))=qI a:=by
 unfold qI;rw[fy,xB];congr 1;refine qo λg=>?_;rw[oD];split
 .rename_i f;subst f;rw[cM (by rw[dL];exact(da.1 b).1),eK,b];rfl
 .rfl
def ajA {d:PC}{b:oH}{c:M}{a e:Nat}{f:M×C Nat}{g:C Nat}(h:b[e]? =some f):rO d (b.set e (f.1,g)) c a=rO d b c a:=by unfold rO;rw[aiI h]
section
variable{b:PC}{e a:Nat}{f:O}{c:U}{d:Nat}
def ajz {r:V}{R:C (C Nat)}(B:b.Ok)(K:zl e b R a r)(hs:Hl f r)(af:c.size<=140737488355328)(ag:c≠ByteArray.empty)(hv:1<=d)(Q:a+d<=9223372036854775808)(am:qb (b.at c) R<=a):Sr 168 [Z e,.string c,J d] f r λu H=>∃ai,u=F 0/\H=[ai]/\zl e b (lZ (b.at c) (qb (b.at c) R+d) 0 R) (a+d) ai:=by
 obtain⟨h,k,rfl,rfl,A⟩:=K;have hd:=B.depth;have ah:=B.width;have P:h.length<=4:=by rw[A.len];omega
 have D:=zZ (d:=b) (b:=k) (c:=a) P;have ae:=zZ (d:=b) (b:=k) (c:=a+d) P;have s:(h.map Prod.snd).length=b.depth:=by rw[dL,A.len]
 obtain⟨p,ab⟩:∃p,qb (b.at c) (h.map Prod.snd)+d=p:=⟨_,rfl⟩;refine hJ func168 hs ?_;refine N [0,1,2] ?_;refine N [0,1,2,10] ?_;refine cL ?_;refine I (cU (oO rfl rfl) (z:=.bool false) (dq Value.bool (fL ag))) ?_;refine NX 0 0 (v:=J a) (hv:=by rw[D];rfl) ?_;refine Y ?_;refine dw (eB func121 (λf t=>zV a d f (by omega) (by omega))) ?_;rw[gb Q];rintro _ _ w7 ⟨_,rfl,rfl,rfl⟩;refine I (wD rfl) ?_;refine N [0,1,2,19] ?_;refine cQ ?_;refine eu (ow e b h k a) ?_;refine cL ?_;refine I (dH 0 (n:=J a) (hv:=by rw[D];rfl)) ?_;refine Y ?_;refine I (cU (z:=J ((a+d:Nat):Int)) (og rfl rfl) (by rw[gR])) ?_;refine KW 0 (G:=rO b h k (a+d)) (hl:=by rw[D];rfl) (ah:=by rw[D,ae];rfl) λan=>?_;refine cH [0,1,2] ?_;refine Y ?_;refine dG (d:=[]) (ow e b h k (a+d)) ?_;refine Pw 0 func210 (λf t w=>ajB B ⟨h,k,rfl,rfl,A⟩ w af) ?_;rintro _ _ aj ⟨rfl,rfl⟩;refine Y ?_;refine I (cU (z:=J p) (og rfl rfl) (by rw[<-ab,gR])) ?_;refine NX 0 0 (v:=F b.depth) ?_;refine K4 [0,1,7,43,44] ?_;refine dB (λq m H w'=>∃(i:Nat)(j:oH),m=[(0,Z e),(1,.string c),(7,J p),(43,F b.depth),(44,F i)]/\H=[cz (ow e b j k (a+d))]/\q+i=b.depth/\wz b j/\j.map Prod.snd=lZ (b.at c) p 0 ((h.map Prod.snd).take i)++(h.map Prod.snd).drop i) b.depth ⟨0,h,rfl,rfl,rfl,A,rfl⟩ ?_;rintro q _ _ w1 ⟨i,j,rfl,rfl,hq,o,y⟩;refine cZ (λad=>?_) λad=>?_
 .have E:i<b.depth:=by omega
  refine eQ λt=>?_;obtain⟨g,X,n,z,W,x1,ap⟩:=HZ (m:=i) (y:=0) rfl t o ah.1 E;clear t;have ao:=b.Bv ah.1 c i;obtain⟨G,T⟩:∃G,n[b.at c i]? =some G:=⟨_,dr (by omega)⟩;have aq:=x1 G (eH T);refine Pw 0 func211 (λf t w=>Mp B o w af i E z) ?_;rintro _ _ ak ⟨rfl,rfl⟩;refine N [0,1,7,9,43,44] ?_;refine eu (ow e b j k (a+d)) ?_;refine cK [2,0,0] ?_;refine Ai i (l:=row (vS g b.width X) 23 1 b.width (dF n)) (by rw[eK,z];show some (row _ _ _ n.length _)=_;rw[W]) ?_;refine cL ?_;refine I (gj 0 (n:=J G) (hv:=Af T)) ?_;refine Y ?_;refine I (wR (r:=((max G p:Nat):Int)) rfl rfl (by show _=((max _ _:Nat):Int);split<;>omega)) ?_;refine Y ?_;refine iQ (fK 0 (y:=dF (n.set (b.at c i) (max G p))) (hl:=by rw[yK];show b.at c i+1<=_;omega) (ae:=by have:=EL (max G p) (b:=b.at c i) (a:=n) (by omega);rw[dU,fT]at this;exact this)) ?_;rintro _ _ al rfl;refine cH [0,1,7,43,44] ?_;refine Vd (c:=j.map qa) (by rw[dL,o.len];exact E) ?_;refine cK [1,1,0] ?_;refine dG (d:=[]) [_,_,_] ?_;refine N [0,1,7,43,44] ?_;refine⟨q-1,by omega,i+1,j.set i (vS g b.width X,n.set (b.at c i) (max G p)),rfl,?_,by omega,o.set (by rw[fy];exact W) (λx S=>?_),?_⟩
  .unfold ow;rw[ajA z,xB];show _=[cz [_,_,cz ((j.map qa).set i (row _ _ _ (n.set (b.at c i) (max G p)).length _))]];rw[fy,W]
  .rcases AX S with S|rfl
   .exact x1 x S
   .omega
  .have K:(h.map Prod.snd)[i]? =some n:=by rw[<-ajF (b.at c) p (by rw[s];exact E),<-y,eK,z];rfl
   rw[xB,y,<-ajG (b.at c) p K,GJ T]
 .obtain rfl:i=b.depth:=by omega
  refine dI ?_;refine db results168 ?_;refine⟨_,rfl,rfl,j,k,rfl,?_,o⟩;rw[y,gS (by rw[s];exact dT _),qn (by rw[s];exact dT _),eN,ab]
end
def Ys (d a:Int)(c:cG Addr)(e b:Nat)(f:O):(Instr.build 363 [(0,F d),(2,PA c e b),(3,J a)].toArray).run prog f=.ok (PE [F d,vN,vN,vN,vN,PA c e b,J a,J 0]) f:=by kernel_rfl
def aiH {a:oH}(e:a.length<4)(c:M×C Nat):(qI a).set a.length c.1=qI (a++[c]):=by unfold qI;rw[C4 _ _ (by rw[dL];exact dT _),dL,nK,dE,dJ,cX];congr 1;obtain⟨d,b⟩:∃d,4-a.length=d+1:=⟨4-a.length-1,by omega⟩;rw[b,show 4-(a.length+[c].length)=d by simp;omega];rfl
def ajC {a:PC}(o:a.Ok)(t:M)(n:O)(r:Rd n cW 1 t 16 (dF a.table)):Sn 164 [F a.depth,F a.width,t,J a.rM] n λW v=>∃G E,W=PF [Z G,F 0]/\v=[E]/\zl G a (HY a) 0 E:=by
 have L:=o.depth;have S:=o.width;obtain⟨K,w,rfl,-⟩:=id r;refine sP func164 hS ?_;refine Ku func154 (λn q=>Du K w n) ?_;rintro _ _ B ⟨rfl,rfl⟩;refine cB ?_;refine dd func72 (λn q=>Dw _ 16 (dF a.table) n (r.dx q) (Is _) (by omega)) ?_;rintro _ _ w6 ⟨h,i,rfl,rfl⟩;refine Y ?_;refine I (ee (Ys _ _ _ _ _)) ?_;refine dK (l:=rO a [] (PA h 16 i) 0) λe D=>?_;refine N [0,1,11] ?_;refine N [1,11,38,39] ?_;refine Y ?_;refine sL ?_;refine cK [1,1,0] ?_;refine dB (λz T v X=>∃(j:Nat)(b:oH),T=[(1,F a.width),(11,Z e),(38,F a.depth),(39,F j)]/\v=[cF e (rO a b (PA h 16 i) 0) 363,row (PA h 16 i) 23 1 16 (dF a.table),cz (b.map qa)]/\z+j=a.depth/\b.length=j/\∀m∈b,m.2=List.replicate a.width 0) a.depth ⟨0,[],rfl,rfl,rfl,rfl,λm c=>nomatch c⟩ ?_;rintro z _ _ P ⟨j,b,rfl,rfl,R,k,f⟩;refine cZ (λp=>?_) λp=>?_
 .have Q:j<a.depth:=by omega
  refine N [1,11,12,38,39] ?_;refine oW [0,1,2,4,5,1003,6,1007] [_,_] [_] (de [1,1] _ rfl) λA=>?_;refine df ?_;refine eh rfl (qy (y:=a.width) (B:=dF (List.replicate a.width 0)) rfl rfl qe (by omega) (by omega) (zM a.width).symm) ?_;rintro _ _ u ⟨d,rfl,rfl⟩;refine⟨_,eg.symm,?_⟩;refine Y ?_;refine jW rfl (gD 3 (y:=rO a (b++[(vS d a.width a.width,List.replicate a.width 0)]) (PA h 16 i) 0) (hl:=Bb ?_) (ae:=?_)) ?_
  .rw[zZ (by omega)];show 0+1+j*1+1<=8;omega
  .have y:(rO a b (PA h 16 i) 0).length=8:=by rw[zZ (by omega)];rfl
   refine(H7 (by omega)).trans ?_;rw[show 0+1+j*1=j+1 by omega];unfold rO;rw[Fu,List.set_append_left _ _ (by rw[SX (by omega)];omega),<-k,aiH (by omega) (vS d a.width a.width,List.replicate a.width 0)]
  rintro _ _ H rfl;refine⟨_,cD _,?_⟩;refine iK [1,11,38,39] ?_;refine cK [1,1,1,0] ?_;refine Al ?_;refine cK [1,1,0] ?_;refine N [1,11,38,39] ?_;refine⟨z-1,by omega,j+1,b++[(vS d a.width a.width,List.replicate a.width 0)],rfl,?_,by omega,by rw[cX,k];rfl,λm c=>?_⟩
  .rw[dE,dA,kD];show _=[_,_,cz (b.map qa++[row _ _ _ (List.replicate a.width 0).length _])];rw[o3]
  .rcases dV.1 c with c|c
   .exact f m c
   .rw[fI.1 c]
 .obtain rfl:j=a.depth:=by omega
  refine dI ?_;refine N [8,9] ?_;refine dG (d:=[]) (ow e a b (PA h 16 i) 0) ?_;refine dP results164 ?_;refine⟨e,_,rfl,rfl,b,_,rfl,?_,⟨k,λm c=>by rw[f m c,o3],λm c x s=>by rw[f m c]at s;rw[uJ s];omega⟩⟩;rw[k5 (g:=λ_=>List.replicate a.width 0) f,HY,<-k];exact(List.map_const' ..).symm
def Ey (b:M)(a:oH):C V:=[row b 25 1 a.length (a.map Prod.fst),cz (a.map qa)]
def Dg (d:M)(b:C (C Nat))(c:V):Prop:=∃a,c=cz (Ey d a)/\b=a.map Prod.snd
def o7 (f:O)(d:Nat->Prop)(h:M)(b:C (C Nat)):Prop:=∃a:C M,a.length=b.length/\Rd f d 1 h b.length a/\∀(e:Nat)(g:M)(c:C Nat),a[e]? =some g->b[e]? =some c->Rd f d 1 g c.length (dF c)
def Uj:fB prog 204 25 1 24 vN:=.mk' underlying204 (by kernel_rfl) rfl (by decide)
section
variable{a:PC}{e d:Nat}{b:O}{c:U}
def ajE {y:V}{T:C (C Nat)}(t:a.Ok)(G:zl e a T d y)(H:Hl b y):Sr 177 [Z e] b y λq z=>∃x,z=[x,y]/\Dg q T x/\∃r n h,q=PA r n h:=by
 obtain⟨p,R,rfl,rfl,l⟩:=G;have hd:=t.depth;have K:=t.width;have h4:p.length<=4:=by rw[l.len];omega
 refine dS func177 H ?_;refine N [0] ?_;refine N [0,7] ?_;refine N [0,3] ?_;refine cC ?_;refine eO 10 [] [_] [] (ik _) λX=>?_;refine eL ?_;refine cN rfl (eZ 0 0 (n:=F a.depth)) ?_;refine cN rfl (KF (D:=a.depth) (k:=4) rfl underlying361 (by kernel_rfl) ⟨_,rfl⟩ rfl (by omega) (dT _)) ?_;refine N [3,15,16,17] ?_;refine Y ?_;refine sL ?_;refine gh 25 1 ?_;refine dB (λQ m z w'=>∃(j:Nat)(q:M)(f:oH),m=[(3,q),(15,PA (some ⟨e,1,.none⟩) a.depth 4),(16,F a.depth),(17,F j)]/\z=[row q 25 1 j (f.map Prod.fst),cz (f.map qa),cz (ow e a p R d)]/\Q+j=a.depth/\f.map Prod.snd=(p.map Prod.snd).take j/\∃r h,q=PA r j h) a.depth ⟨0,_,[],rfl,rfl,rfl,rfl,_,_,rfl⟩ ?_;rintro Q _ _ w1 ⟨j,q,f,rfl,rfl,hq,i,P,W,rfl⟩;refine cZ (λv=>?_) λv=>?_
 .have D:j<a.depth:=by omega
  refine eQ λo=>?_;obtain⟨g,h,k,s,L,x1,w⟩:=HZ (m:=j) (y:=2) rfl o l K.1 D;clear o;refine NX 2 0 (v:=vS g a.width h) (hv:=Mo s) ?_;refine cB ?_;refine dd func72 (λb o=>Dw _ a.width (dF k) b (w.rd o) (Is _) (by omega)) ?_;rintro _ _ w7 ⟨r,B,rfl,rfl⟩;refine gZ Uj λA S=>?_;refine dw (jo 2 Uj) ?_;rintro _ _ w8 ⟨⟨ab,ad,rfl⟩,rfl⟩;refine N [3,15,16,17] ?_;refine cK [3,1,1,1] ?_;refine Al ?_;refine cK [1,0,0] ?_;refine N [3,15,16,17] ?_;refine⟨Q-1,by omega,j+1,_,f++[(PA r a.width B,k)],rfl,?_,by omega,?_,_,_,rfl⟩
  .rw[dE,dE];show[_,cz (f.map qa++[row _ _ _ a.width _]),_]=[_,cz (f.map qa++[row _ _ _ k.length _]),_];rw[L];rfl
  .rw[dE,i,MK (d:=k) (by rw[eK,s];rfl)];rfl
 .obtain rfl:j=a.depth:=by omega
  refine dI ?_;refine N [2] ?_;refine dG (d:=[_]) [_,_] ?_;refine dP results177 ?_;have E:f.length=a.depth:=by have:=dq List.length i;rw[dL,eD,dL,l.len]at this;omega
  refine⟨_,rfl,⟨f,?_,?_⟩,_,_,_,rfl⟩
  .rw[Ey,E];rfl
  .rw[i,gS (by rw[dL,l.len];exact dT _)]
def ajD {g:C (C Nat)}(n:a.Ok)(D E:M)(R:o7 b cW D g)(hl:g.length=a.depth)(u:∀P∈g,P.length=a.width)(t:Rd b cW 1 E 16 (dF a.table))(S:c.size<=140737488355328):Sn 307 [D,E,J a.rM,.string c] b λv H=>v=J (qb (a.at c) g:Int)/\H=[]:=by
 have hd:=n.depth;have T:=n.width;obtain⟨A,p,rfl,-⟩:=id t;obtain⟨ab,ai,k,s⟩:=R;obtain⟨B,L,rfl,-⟩:=id k;refine sP func307 hS ?_;refine cB ?_;refine nh rfl rfl (eB func154 (λb o=>Du A p b)) ?_;rintro _ _ ad ⟨_,rfl,rfl,rfl⟩;refine K4 [1,2,3,9,21,22,23] ?_;refine dB (λX m H w'=>∃f:Nat,m=[(1,PA A 16 p),(2,J a.rM),(3,.string c),(9,J ((uj (qc (a.at c) 0 (g.take f)):Nat):Int)),(21,PA B g.length L),(22,F g.length),(23,F f)]/\H=[]/\X+f=g.length) g.length ⟨0,rfl,rfl,rfl⟩ ?_;rintro X _ _ w1 ⟨f,rfl,rfl,hq⟩;refine cZ (λq=>?_) λq=>?_
 .have r:f<g.length:=by omega
  obtain⟨b1,o1,rfl,ag,d1⟩:=k.at_ r;obtain⟨l,h⟩:∃P,g[f]? =some P:=⟨_,dr r⟩;obtain⟨x,y⟩:∃x,ab[f]? =some x:=⟨_,dr (by omega)⟩;have w:=u l (eH h);have i:=s f x l y h;rw[w]at i;obtain⟨aj,Q,rfl,-⟩:=id i;have j:=a.Bv T.1 c f;obtain⟨K,W,rfl,ah,d2⟩:=i.at_ j;obtain⟨G,z⟩:∃G,l[a.at c f]? =some G:=⟨_,dr (by omega)⟩;refine fw ?_;refine I (jd (n:=PA (some ⟨K,W,.none⟩) a.width Q) (hc:=d1 _ _ (by rw[fT];exact y))) ?_;refine cB ?_;refine dd func260 (λb o=>QL a.table _ a.rM f c b n.table.1 (t.dx o) S (by omega)) ?_;rintro _ _ ae ⟨rfl,rfl⟩;refine cC ?_;refine dd func201 (λb o=>H4 _ a.width b (GQ _ _ _) (by omega)) ?_;rintro _ _ af ⟨rfl,rfl⟩;refine I (cR (ab:=a.at c f) (ad:=j)) ?_;refine I (jd (n:=J G) (hc:=d2 _ _ (by rw[fT];exact Af z))) ?_;refine N [1,2,3,9,12,21,22,23] ?_;refine cQ ?_;refine I (BS (r:=((Nat.min (uj (qc (a.at c) 0 (g.take f))) G:Nat):Int)) rfl rfl (by show _=((min _ _:Nat):Int);split<;>omega)) ?_;refine ir [1,2,3,9,21,22,23] ?_;refine⟨X-1,by omega,f+1,?_,rfl,by omega⟩;rw[Mq (a.at c) h,GJ z];rfl
 .obtain rfl:f=g.length:=by omega
  rw[j6];refine dI ?_;refine N [8] ?_;refine gT results307 ?_;exact⟨rfl,rfl⟩
end
abbrev Hd:=Nat×Nat×Int
structure Sl where
 kg:Int
 used:Bool
 next:Int
 dv:M
 data:C Nat
structure Cl where
 size:Nat
 count:Nat
 sl:C Sl
 sv:M
 live:Nat
def kV (a:C Cl)(c d:Nat):cG Sl:=(a[c]?).bind λb=>b.sl[d]?
def tz (e:C Sl):Int->C Nat->Prop
 |a,[]=>a= -1
 |a,c::d=>a=(c:Int)/\c∉d/\∃b,e[c]? =some b/\b.used=false/\tz e b.next d
def tz.set {l:C Sl}{k:Nat}{o:Sl}:∀{c:C Nat}{d:Int},tz l d c->k∉c->tz (l.set k o) d c
 |[],_,n,_=>n
 |q::c,d,⟨e,f,p,g,h,i⟩,a=>by have b:k≠q:=λm=>a (by rw[m];exact dQ ..);exact⟨e,f,p,by rw[fE b];exact g,h,i.set λj=>a (dN _ j)⟩
def tz.app {i:C Sl}{k:Sl}:∀{b:C Nat}{c:Int},tz i c b->tz (i++[k]) c b
 |[],_,j=>j
 |m::b,c,⟨d,e,l,a,f,g⟩=>by have h:m<i.length:=(da.1 a).1;exact⟨d,e,l,by rw[nk h];exact a,f,g.app⟩
def tz.free {h:C Sl}:∀{b:C Nat}{g:Int}{f:Nat},tz h g b->f∈b->∃i,h[f]? =some i/\i.used=false
 |[],_,_,_,a=>by cases a
 |m::b,g,f,⟨j,k,l,c,d,e⟩,a=>by
  rcases dh.1 a with rfl|a
  .exact⟨l,c,d⟩
  .exact e.free a
structure IQ (a:Cl)(e:Int):Prop where
 len:a.sl.length<=a.count
 live:a.live=a.sl.countP (λb=>b.used)
 chain:∃c,tz a.sl e c/\∀(d:Nat)(b:Sl),a.sl[d]? =some b->b.used=false->d∈c
abbrev mZ:=C (Hd×C Nat)
structure UI (h:C Cl)(c:mZ):Prop where
 nd:(c.map λf=>(f.1.1,f.1.2.1)).Nodup
 mem:∀e g d a,((e,g,d),a)∈c↔∃b,kV h e g=some b/\b.used=true/\b.kg=d/\b.data=a
def UI.perm {d:C Cl}{e a:mZ}(f:UI d e)(b:e.Perm a):UI d a:=⟨((b.map _).nodup_iff).1 f.nd,λh i g c=>(b.mem_iff).symm.trans (f.mem h i g c)⟩
def UI.not {i:C Cl}{j:mZ}(p:UI i j){k m:Nat}(g:∀b,kV i k m=some b->b.used=false):(k,m)∉j.map λl=>(l.1.1,l.1.2.1):=λf=>by obtain⟨⟨⟨r,s,q⟩,n⟩,h,o⟩:=dz.1 f;injection o with c d;subst c;subst d;obtain⟨b,e,a,_⟩:=(p.mem _ _ _ _).1 h;rw[g b e]at a;cases a
def UI.take {n c:C Cl}{w:mZ}{l m:Nat}{s':Sl}(q:UI n w)(t:∀v,kV n l m=some v->v.used=false)(r:kV c l m=some s')(s:∀h i,(h,i)≠(l,m)->kV c h i=kV n h i)(u:s'.used=true):UI c (((l,m,s'.kg),s'.data)::w):=by
 have b:=q.not t;refine⟨iB.2 ⟨b,q.nd⟩,λh i y x=>?_⟩;by_cases j:(h,i)=(l,m)
 .injection j with a o;subst a;subst o;rw[r,dh];constructor
  .rintro(j|g)
   .injection j with d k;injection d with _ e;injection e with _ f;exact⟨s',rfl,u,f.symm,k.symm⟩
   .exact absurd (dz.2 ⟨_,g,rfl⟩) b
  .rintro⟨v,a,_,rfl,rfl⟩;injection a with a;subst a;exact .inl rfl
 .rw[s h i j,dh,<-q.mem];constructor
  .rintro(a|g)
   .injection a with d k;injection d with e f;injection f with p _;exact absurd (by rw[e,p]) j
   .exact g
  .exact .inr
def UI.drop {t c:C Cl}{u:mZ}{g h:Nat}{w:Int}{i:C Nat}{s':Sl}(v:UI t (((g,h,w),i)::u))(q:kV c g h=some s')(r:∀e f,(e,f)≠(g,h)->kV c e f=kV t e f)(s:s'.used=false):UI c u:=by
 obtain⟨o,p⟩:=iB.1 v.nd;refine⟨p,λe f z x=>?_⟩;by_cases j:(e,f)=(g,h)
 .injection j with a b;subst a;subst b;rw[q];constructor
  .exact λd=>absurd (dz.2 ⟨_,d,rfl⟩) o
  .rintro⟨A,a,b,_⟩;injection a with a;subst a;rw[s]at b;cases b
 .rw[r e f j,<-v.mem,dh];constructor
  .exact .inr
  .rintro(a|d)
   .injection a with k y;injection k with l m;injection m with n _;exact absurd (by rw[l,n]) j
   .exact d
def UI.write {z d:C Cl}{A:mZ}{k l:Nat}{r:Int}{s:C Nat}{s':Sl}(B:UI z (((k,l,r),s)::A))(w:kV d k l=some s')(x:∀i j,(i,j)≠(k,l)->kV d i j=kV z i j)(y:s'.used=true)(p:s'.kg=r):UI d (((k,l,r),s'.data)::A):=by
 obtain⟨o,v⟩:=iB.1 B.nd;refine⟨iB.2 ⟨o,v⟩,λi j D t=>?_⟩;by_cases m:(i,j)=(k,l)
 .injection m with a e;subst a;subst e;rw[w,dh];constructor
  .rintro(m|b)
   .injection m with f n;injection f with _ g;injection g with _ h;exact⟨s',rfl,y,p.trans h.symm,n.symm⟩
   .exact absurd (dz.2 ⟨_,b,rfl⟩) o
  .rintro⟨E,a,_,e,rfl⟩;injection a with a;subst a;exact .inl (by rw[<-e,p])
 .rw[x i j m,<-B.mem,dh,dh];have c:∀q,((i,j,D),t)≠((k,l,r),q):=λq a=>by injection a with f n;injection f with g h;injection h with u _;exact m (by rw[g,u])
  constructor
  .rintro(a|b)
   .exact absurd a (c _)
   .exact .inr b
  .rintro(a|b)
   .exact absurd a (c _)
   .exact .inr b
def UI.get {m:C Cl}{n:mZ}{k l:Nat}{e:Int}{a:C Nat}(o:UI m (((k,l,e),a)::n)):∃d b,m[k]? =some d/\d.sl[l]? =some b/\b.used=true/\b.kg=e/\b.data=a:=by obtain⟨b,c,f,g,h⟩:=(o.mem k l e a).1 (dQ ..);unfold kV at c;obtain⟨d,i,j⟩:=Option.bind_eq_some_iff.1 c;exact⟨d,b,i,j,f,g,h⟩
def Ht {e:Type}[DecidableEq e]:∀{a b:C e},a.Nodup->(∀f∈a,f∈b)->a.length<=b.length
 |[],_,_,_=>gK _
 |f::a,b,i,j=>by obtain⟨g,h⟩:=iB.1 i;have c:=j f (dQ ..);have m:=Ht (a:=a) (b:=b.erase f) h λk d=>(List.mem_erase_of_ne (λl=>g (by rw[<-l];exact d))).2 (j k (dN _ d));have n:=List.length_erase_of_mem c;have o:0<b.length:=List.length_pos_of_mem c;rw[eE];omega
def lW (b:Nat)(a:mZ):Nat:=(a.filter λc=>decide (c.1.1=b)).length
def UI.full {o:C Cl}{j:mZ}(r:UI o j){h:Nat}{b:Cl}(l:o[h]? =some b)(c:∀(a:Nat)(p:Sl),b.sl[a]? =some p->p.used=true):b.sl.length<=lW h j:=by
 have k:((List.range b.sl.length).map λa=>(h,a)).Nodup:=oE.2 (zb.imp λf q=>f (by injection q));have e:=Ht k (b:=(j.filter λi=>decide (i.1.1=h)).map λi=>(i.1.1,i.1.2.1)) λs n=>by obtain⟨a,d,rfl⟩:=dz.1 n;have d:=lE.1 d;have g:b.sl[a]? =some b.sl[a]:=dr d;have m:=(r.mem h a b.sl[a].kg b.sl[a].data).2 ⟨_,by rw[kV,l];exact g,c _ _ g,rfl,rfl⟩;exact dz.2 ⟨_,kE.2 ⟨m,by simp⟩,rfl⟩
 rw[dL,sZ,dL]at e;exact e
def yD {c:C Cl}{b:Nat}{i a:Cl}(f:c[b]? =some i)(d h:Nat):kV (c.set b a) d h=if d=b then a.sl[h]?else kV c d h:=by
 have g:b<c.length:=(da.1 f).1;unfold kV;by_cases e:d=b
 .subst e;rw[cM rfl,gm g];rfl
 .rw[cJ e,fE (λj=>e j.symm)]
structure AI (c:C (Nat×Nat))(b:C Cl)(d:C Int)(g:mZ):Prop where
 k:b.map (λa=>(a.size,a.count))=c
 kl:c.length<=8
 fl:d.length=8
 ep:∀h∈c,h.2<=1000000
 cl:∀(f:Nat)(a:Cl)(e:Int),b[f]? =some a->d[f]? =some e->IQ a e
 u:UI b g
section
variable{f:C (Nat×Nat)}{c:C Cl}{d:C Int}{g:mZ}{b e:Nat}{a:Cl}
def AI.perm {i:mZ}(h:AI f c d g)(j:g.Perm i):AI f c d i:=⟨h.k,h.kl,h.fl,h.ep,h.cl,h.u.perm j⟩
def AI.dl (h:AI f c d g):c.length=f.length:=by rw[<-h.k,dL]
def AI.kc (i:AI f c d g)(h:c[b]? =some a):f[b]? =some (a.size,a.count):=by rw[<-i.k,eK,h];rfl
def AI.fi (j:AI f c d g)(i:c[b]? =some a):∃h,d[b]? =some h/\IQ a h:=by
 have k:b<c.length:=(da.1 i).1;have:b<d.length:=by rw[j.fl];have:=j.dl;have:=j.kl;omega
 exact⟨_,dr this,j.cl b a _ i (dr this)⟩
def AI.It {l:Cl}{q:Int}{p:mZ}(o:AI f c d g)(r:c[b]? =some a)(u:l.size=a.size)(v:l.count=a.count)(w:IQ l q)(x:UI (c.set b l) p):AI f (c.set b l) (d.set b q) p:=by
 have s:b<c.length:=(da.1 r).1;have y:b<d.length:=by rw[o.fl];have:=o.dl;have:=o.kl;omega
 refine⟨?_,o.kl,by rw[fy];exact o.fl,o.ep,λz m n i j=>?_,x⟩
 .rw[xB,u,v,<-o.k];have h:(c.map λa=>(a.size,a.count))[b]? =some (a.size,a.count):=by rw[eK,r];rfl
  refine qo λz=>?_;rw[oD];split
  .rename_i t;subst t;rw[cM (by rw[dL];exact s),h]
  .rfl
 .by_cases h:b=z
  .subst h;rw[gm s]at i;rw[gm y]at j;injection i with i;injection j with j;subst i;subst j;exact w
  .rw[fE h]at i j;exact o.cl z m n i j
def AI.room (r:AI f c d g)(k:c[b]? =some a)(o:d[b]? =some (-1))(t:lW b g<a.count):a.sl.length<a.count:=by
 have m:=r.cl b a _ k o;rcases np a.sl.length a.count with j|j
 .exact j
 .exfalso;obtain⟨l,n,i⟩:=m.chain;have h:l=[]:=by
   cases l with
   |nil=>rfl
   |cons v l=>exact absurd n.1 (by omega)
  subst h;have:=r.u.full k λe s p=>by
   cases q:s.used with
   |true=>rfl
   |false=>exact absurd (i e s p q) (by simp)
  omega
def AI.WW {r:Sl}{h:Nat}(E:AI f c d g)(m:c[b]? =some a)(L:d[b]? =some (h:Int))(o:a.sl[h]? =some r)(k:Int):AI f (c.set b {a with sl:=a.sl.set h ⟨k,true,r.next,.slice .none 0 0,[]⟩,live:=a.live+1}) (d.set b r.next) (((b,h,k),[])::g):=by
 have s:=E.cl b a _ m L;have l:h<a.sl.length:=(da.1 o).1;obtain⟨D,x,t⟩:=s.chain;obtain⟨n,rfl,q,R,y⟩:∃n,D=h::n/\r.used=false/\h∉n/\tz a.sl r.next n:=by
  cases D with
  |nil=>exact absurd (show(h:Int)= -1 from x) (by omega)
  |cons w D=>
   obtain⟨T,G,S,p,H,K⟩:=x;obtain rfl:h=w:=by omega
   rw[o]at p;injection p with p;subst p;exact⟨D,rfl,H,G,K⟩
 have A:a.sl[h]=r:=by rw[dr l]at o;injection o
 have v:kV c b h=some r:=by rw[kV,m];exact o
 refine E.It m rfl rfl ⟨by dsimp only;rw[fy];exact s.len,?_,n,y.set R,λw S j B=>?_⟩ ?_
 .dsimp only;rw[I8 l,A,q,<-s.live];simp
 .dsimp only at j;by_cases i:h=w
  .subst i;rw[gm l]at j;injection j with j;subst j;cases B
  .rw[fE i]at j;rcases dh.1 (t w S j B)with rfl|Q
   .exact absurd rfl i
   .exact Q
 .refine E.u.take (s':=⟨k,true,r.next,.slice .none 0 0,[]⟩) (λS j=>by rw[v]at j;injection j with j;rw[<-j];exact q) ?_ (λW w z=>?_) rfl
  .rw[yD m,cM rfl];exact gm l
  .rw[yD m];split
   .rename_i i;subst i;have:h≠w:=λi=>z (by rw[i]);dsimp only;rw[fE this,kV,m];rfl
   .rfl
def AI.WY (s:AI f c d g)(k:c[b]? =some a)(v:d[b]? =some (-1))(y:a.sl.length<a.count)(j q:Int):AI f (c.set b {a with sl:=a.sl++[⟨j,true,q,.slice .none 0 0,[]⟩],live:=a.live+1}) (d.set b (-1)) (((b,a.sl.length,j),[])::g):=by
 have n:=s.cl b a _ k v;obtain⟨x,t,l⟩:=n.chain;have m:kV c b a.sl.length=none:=by rw[kV,k];exact nZ (dT _)
 refine s.It k rfl rfl ⟨by dsimp only;rw[cX,lD];omega,?_,x,t.app,λr w i p=>?_⟩ ?_
 .dsimp only;rw[List.countP_append,<-n.live];simp
 .dsimp only at i;rcases xI r a.sl.length with h|h|h
  .rw[nk h]at i;exact l r w i p
  .rw[h,nm (dT _),nK]at i;injection i with i;subst i;cases p
  .rw[nZ (by rw[cX,lD];omega)]at i;cases i
 .refine s.u.take (s':=⟨j,true,q,.slice .none 0 0,[]⟩) (λw i=>by rw[m]at i;cases i) ?_ (λA r o=>?_) rfl
  .rw[yD k,cM rfl];dsimp only;rw[nm (dT _),nK];rfl
  .rw[yD k];split
   .rename_i h;subst h;have z:r≠a.sl.length:=λh=>o (by rw[h]);dsimp only;rcases np r a.sl.length with h|h
    .rw[nk h,kV,k];rfl
    .rw[nZ (by rw[cX,lD];omega),kV,k];exact(nZ h).symm
   .rfl
def AI.free {E:Sl}{i r:Int}{K:C Nat}(G:AI f c d (((b,e,r),K)::g))(n:c[b]? =some a)(L:d[b]? =some i)(o:a.sl[e]? =some E):AI f (c.set b {a with sl:=a.sl.set e ⟨E.kg,false,i,.slice .none 0 0,[]⟩,live:=a.live-1}) (d.set b (e:Int)) g/\1<=a.live:=by
 have q:=G.cl b a _ n L;have m:e<a.sl.length:=(da.1 o).1;obtain⟨T,P,k,l,x,W,X⟩:=G.u.get;rw[n]at k;injection k with k;subst k;rw[o]at l;injection l with l;subst l;obtain⟨R,z,t⟩:=q.chain;have B:a.sl[e]=E:=by rw[dr m]at o;injection o
 have s:e∉R:=λQ=>by obtain⟨S,p,y⟩:=z.free Q;rw[o]at p;injection p with p;subst p;rw[x]at y;cases y
 have v:1<=a.live:=by rw[q.live];exact Fc.2 ⟨E,eH o,x⟩
 refine⟨G.It n rfl rfl ⟨by dsimp only;rw[fy];exact q.len,?_,e::R,⟨rfl,s,_,gm m,rfl,z.set s⟩,λH S w D=>?_⟩ ?_,v⟩
 .dsimp only;rw[I8 m,B,x,<-q.live];simp
 .dsimp only at w;by_cases h:e=H
  .subst h;exact dQ ..
  .rw[fE h]at w;exact dN _ (t H S w D)
 .refine G.u.drop (s':=⟨E.kg,false,i,.slice .none 0 0,[]⟩) ?_ (λj H A=>?_) rfl
  .rw[yD n,cM rfl];exact gm m
  .rw[yD n];split
   .rename_i h;subst h;have:e≠H:=λh=>A (by rw[h]);dsimp only;rw[fE this,kV,n];rfl
   .rfl
def AI.write {r:Sl}{n:Int}{Q t:C Nat}(K:AI f c d (((b,e,n),Q)::g))(p:c[b]? =some a)(q:a.sl[e]? =some r)(T:M):AI f (c.set b {a with sl:=a.sl.set e ⟨r.kg,r.used,r.next,T,t⟩}) d (((b,e,n),t)::g):=by
 obtain⟨o,D,w⟩:=K.fi p;have m:e<a.sl.length:=(da.1 q).1;obtain⟨P,s',k,l,s,R,hb⟩:=K.u.get;rw[p]at k;injection k with k;subst k;rw[q]at l;injection l with l;subst l;obtain⟨W,B,y⟩:=w.chain;have G:a.sl[e]=r:=by rw[dr m]at q;injection q
 have H:e∉W:=λS=>by obtain⟨X,v,z⟩:=B.free S;rw[q]at v;injection v with v;subst v;rw[s]at z;cases z
 have A:d.set b o=d:=by
  refine qo λj=>?_;rw[oD];split
  .rename_i h;subst h;rw[cM (da.1 D).1,D]
  .rfl
 have:=K.It (l:={a with sl:=a.sl.set e ⟨r.kg,r.used,r.next,T,t⟩}) (q:=o) p rfl rfl ⟨by dsimp only;rw[fy];exact w.len,?_,W,B.set H,λL X i x=>?_⟩ (K.u.write (s':=⟨r.kg,r.used,r.next,T,t⟩) ?_ (λj L E=>?_) s R)
 .rw[A]at this;exact this
 .dsimp only;rw[I8 m,G,s,<-w.live];have:1<=a.live:=by rw[w.live];exact Fc.2 ⟨r,eH q,s⟩
  simp;omega
 .dsimp only at i;by_cases h:e=L
  .subst h;rw[gm m]at i;injection i with i;subst i;exact absurd x (by rw[s];simp)
  .rw[fE h]at i;exact y L X i x
 .rw[yD p,cM rfl];exact gm m
 .rw[yD p];split
  .rename_i h;subst h;have:e≠L:=λh=>E (by rw[h]);dsimp only;rw[fE this,kV,p];rfl
  .rfl
end
def ff (a:C (Nat×Nat))(size:Nat):Nat:=a.findIdx λb=>decide (size<=b.1)
abbrev pH:=C (U×Int)
abbrev jX:=C (Nat×U)
def mN (b:jX)(c:Nat)(a:U):Nat:=b.countP λd=>decide (d=(c,a))
structure mR (g:C (Hd×Nat))(b:pH)(ks:jX):Prop where
 e0:∃f,g[0]? =some (f,0)
 nd:(b.map Prod.fst).Nodup
 num:∀a e,ed b a=some e->∃(c:Nat)(f:Hd),e=(c:Int)/\1<=c/\g[c]? =some (f,mN ks c a)/\1<=mN ks c a
 ks:∀i∈ks,ed b i.2=some (i.1:Int)
 inj:∀h d e,ed b h=some e->ed b d=some e->h=d
def fV (a:C (Hd×Nat))(b:U×Int):Hd:=(a.getD b.2.toNat ((0,0,0),0)).1
def QI {c:C (Hd×Nat)}{a:U}{e:Nat}{d:Hd}{f:Nat}(b:c[e]? =some (d,f)):fV c (a,(e:Int))=d:=by unfold fV;rw[jM];simp[b]
def GP {c:C (Hd×Nat)}{b:U×Int}{d:Nat}{e:Hd×Nat}(a:b.2.toNat≠d):fV (c.set d e) b=fV c b:=by unfold fV;rw[jM,jM,fE (λf=>a f.symm)]
def QH {b:C (Hd×Nat)}{c:U×Int}{d:Hd×Nat}(a:c.2.toNat<b.length):fV (b++[d]) c=fV b c:=by unfold fV;rw[jM,jM,nk a]
def vb (a:U):C Nat:=a.data.toList.map UInt8.toNat
def F3 (a:U):(vb a).length=a.size:=by unfold vb;rw[dL,tF];rfl
def akb (a:U):str (vb a)=a:=by
 unfold str vb;rw[jj];have:(UInt8.ofNat∘UInt8.toNat)=id:=by funext b;simp
 rw[this,wc]
def uv (b:C (Hd×Nat))(c:pH):mZ:=c.map λa=>(fV b a,vb a.1)
def WS {f:pH}{b:U}{k:Int}(c:(f.map Prod.fst).Nodup)(m:ed f b=some k):∃d e,f=d++(b,k)::e/\ig f b=d++e:=by
 obtain⟨d,e,rfl⟩:=pJ (wC m);refine⟨d,e,rfl,?_⟩;rw[dE,dA,kR]at c;obtain⟨n,h,i⟩:=c;obtain⟨j,o⟩:=iB.1 h;unfold ig;rw[qT,nI (by simp)];congr 1
 .rw[sW];intro g a;have:g.1≠b:=i g.1 (gu a) b (dQ ..);simpa using this
 .rw[sW];intro g a;have:g.1≠b:=λl=>j (by show b∈_;rw[<-l];exact gu a);simpa using this
section
variable{e:C (Hd×Nat)}{d:pH}{c:jX}{b:Nat}{a:U}
def yM {h:Nat×U}{f:Nat}{g:U}:mN (h::c) f g=mN c f g+if h=(f,g)then 1 else 0:=by unfold mN;rw[List.countP_cons];simp
def mR.perm {f:jX}(h:mR e d c)(k:c.Perm f):mR e d f:=by have g:∀b a,mN c b a=mN f b a:=λb a=>k.countP_eq _;exact⟨h.e0,h.nd,λr t p=>by obtain⟨q,o,m,n,i,j⟩:=h.num r t p;rw[g]at i j;exact⟨q,o,m,n,i,j⟩,λs l=>h.ks s (k.mem_iff.2 l),h.inj⟩
def mR.of {j:Nat}{h0:Hd}(k:mR e d c)(i:ed d a=some (b:Int))(h:e[b]? =some (h0,j)):j=mN c b a/\1<=j/\1<=b:=by
 obtain⟨o,n,l,g,f,m⟩:=k.num a b i;obtain rfl:o=b:=by omega
 rw[h]at f;injection f with f;injection f with _ f;exact⟨f,by omega,g⟩
def mR.mem {f:Nat×U}(m:mR e d c)(k:f∈c):∃g l,e[f.1]? =some (g,l)/\l=mN c f.1 f.2/\1<=l/\1<=f.1/\ed d f.2=some (f.1:Int):=by
 have h0:=m.ks f k;obtain⟨o,g,n,h,i,j⟩:=m.num _ _ h0;obtain rfl:o=f.1:=by omega
 exact⟨g,_,i,rfl,j,h,h0⟩
def mR.more {h0:Hd}{x:Nat}(j:mR e d c)(l:ed d a=some (b:Int))(q:e[b]? =some (h0,x)):mR (e.set b (h0,x+1)) d ((b,a)::c):=by
 obtain⟨v,z,A⟩:=j.of l q;have w:b<e.length:=(da.1 q).1;refine⟨?_,j.nd,λo y r=>?_,λB m=>?_,j.inj⟩
 .obtain⟨k,s⟩:=j.e0;exact⟨k,by rw[fE (by omega)];exact s⟩
 .obtain⟨n,k,i,p,t,u⟩:=j.num o y r;by_cases f:n=b
  .subst f;have ek:o=a:=j.inj o a y r (by rw[l,i]);subst ek;have h:mN ((n,o)::c) n o=x+1:=by rw[yM,cM rfl,<-v]
   exact⟨n,h0,i,p,by rw[h];exact gm w,by omega⟩
  .have h:mN ((b,a)::c) n o=mN c n o:=by rw[yM,cJ (λg=>f (by injection g with g;exact g.symm))];rfl
   exact⟨n,k,i,p,by rw[h,fE (λg=>f g.symm)];exact t,by rw[h];exact u⟩
 .rcases dh.1 m with rfl|m
  .exact l
  .exact j.ks B m
def mR.add {h0:Hd}(v:mR e d c)(S:ed d a=none)(hj:1<=b)(w:∃h1,e[b]? =some (h1,0)):mR (e.set b (h0,1)) (d++[(a,(b:Int))]) ((b,a)::c)/\(∀E∈d,E.2.toNat≠b):=by
 obtain⟨P,w⟩:=w;have R:b<e.length:=(da.1 w).1;have D:=Br.1 S;have m:∀i j,ed d i=some j->j≠(b:Int):=λi j h g=>by
  obtain⟨K,t,p,s,n,G⟩:=v.num i j h;obtain rfl:K=b:=by omega
  rw[w]at n;injection n with n;injection n with _ n;omega
 have u:((d++[(a,(b:Int))]).map Prod.fst).Nodup:=by rw[dE];refine kR.2 ⟨v.nd,by simp,λA ha X Q g=>?_⟩;rw[dA,kD]at Q;have g:A=a:=g.trans (fI.1 Q);exact D (by rw[<-g];exact ha)
 have l:∀i j,ed (d++[(a,(b:Int))]) i=some j->(i=a/\j=(b:Int))\/(i≠a/\ed d i=some j):=λi j h=>by
  have q:=wC h;rcases dV.1 q with q|q
  .refine .inr ⟨λg=>D (by rw[<-g];exact gu (f:=Prod.fst) q),s5 v.nd q⟩
  .have:=fI.1 q;injection this with p s;exact .inl ⟨p,s⟩
 have x:∀i j,ed d i=some j->ed (d++[(a,(b:Int))]) i=some j:=λi j h=>s5 u (gI _ (wC h));have y:ed (d++[(a,(b:Int))]) a=some (b:Int):=s5 u (by simp);have W:mN c b a=0:=by
  unfold mN;rw[List.countP_eq_zero];intro E o g;have:=v.ks E o;have g:E=(b,a):=by simpa using g
  rw[g]at this;exact absurd this (by show ed d a≠_;rw[S];simp)
 refine⟨⟨?_,u,λi j h=>?_,λE o=>?_,λi L j h k=>?_⟩,λE o g=>?_⟩
 .obtain⟨t,e0⟩:=v.e0;exact⟨t,by rw[fE (by omega)];exact e0⟩
 .rcases l i j h with⟨rfl,rfl⟩|⟨T,h⟩
  .have z:mN ((b,i)::c) b i=1:=by rw[yM,cM rfl,W]
   exact⟨b,h0,rfl,hj,by rw[z];exact gm R,by omega⟩
  .obtain⟨K,t,p,s,n,G⟩:=v.num i j h;have B:K≠b:=λg=>m i j h (by rw[p,g]);have z:mN ((b,a)::c) K i=mN c K i:=by rw[yM,cJ (λr=>B (by injection r with r;exact r.symm))];rfl
   exact⟨K,t,p,s,by rw[z,fE (λr=>B r.symm)];exact n,by rw[z];exact G⟩
 .rcases dh.1 o with rfl|o
  .exact y
  .exact x _ _ (v.ks E o)
 .rcases l i j h with⟨rfl,rfl⟩|⟨T,h⟩
  .rcases l L _ k with⟨rfl,_⟩|⟨H,k⟩
   .rfl
   .exact absurd rfl (m _ _ k)
  .rcases l L _ k with⟨rfl,rfl⟩|⟨H,k⟩
   .exact absurd rfl (m _ _ (by assumption))
   .exact v.inj i L j h k
 .obtain⟨i,j⟩:=E;have h:=s5 v.nd o;obtain⟨K,t,p,s,n,G⟩:=v.num i j h;have g:j.toNat=b:=g;exact m i j h (by omega)
def mR.less {h0:Hd}{t:Nat}(h:mR e d ((b,a)::c))(o:e[b]? =some (h0,t))(B:t≠1):mR (e.set b (h0,t-1)) d c:=by
 have p:=h.ks (b,a) (dQ ..);obtain⟨j,z,A⟩:=h.of p o;have w:b<e.length:=(da.1 o).1;rw[yM,cM rfl]at j;refine⟨?_,h.nd,λs y q=>?_,λD x=>h.ks D (dN _ x),h.inj⟩
 .obtain⟨k,u⟩:=h.e0;exact⟨k,by rw[fE (by omega)];exact u⟩
 .obtain⟨r,k,i,l,m,n⟩:=h.num s y q;by_cases f:r=b
  .subst f;have ek:s=a:=h.inj s a y q (by rw[p,i]);subst ek;have v:mN c r s=t-1:=by have j:t=mN c r s+1:=j;omega
   exact⟨r,h0,i,l,by rw[v];exact gm w,by omega⟩
  .rw[yM,cJ (λg=>f (by injection g with g;exact g.symm))]at m n;exact⟨r,k,i,l,by rw[fE (λg=>f g.symm)];exact m,n⟩
def mR.last {h0:Hd}(r:mR e d ((b,a)::c))(A:e[b]? =some (h0,1)):mR (e.set b (h0,0)) (ig d a) c/\(∀n∈ig d a,n.2.toNat≠b):=by
 have q:=r.ks (b,a) (dQ ..);have q:ed d a=some (b:Int):=q;obtain⟨H,Q,R⟩:=r.of q A;have S:b<e.length:=(da.1 A).1;rw[yM,cM rfl]at H;have B:∀n∈c,n≠(b,a):=λn m f=>by have:0<mN c b a:=Fc.2 ⟨n,m,by simpa using f⟩;omega
 have u:((ig d a).map Prod.fst).Nodup:=r.nd.sublist (vZ.map _);have i:∀h j,ed (ig d a) h=some j->h≠a/\ed d h=some j:=λh j g=>by
  by_cases f:h=a
  .rw[f,NG]at g;cases g
  .rw[FQ f]at g;exact⟨f,g⟩
 have k:∀h j,h≠a->ed d h=some j->j≠(b:Int):=λh j k g f=>k (r.inj h a j g (by rw[q,f]));refine⟨⟨?_,u,λh j g=>?_,λn m=>?_,λh L j g D=>r.inj h L j (i _ _ g).2 (i _ _ D).2⟩,λn m f=>?_⟩
 .obtain⟨s,G⟩:=r.e0;exact⟨s,by rw[fE (by omega)];exact G⟩
 .obtain⟨y,p⟩:=i h j g;obtain⟨K,s,v,z,w,x⟩:=r.num h j p;have t:K≠b:=λf=>k h j y p (by rw[v,f]);rw[yM,cJ (λo=>t (by injection o with o;exact o.symm))]at w x;exact⟨K,s,v,z,by rw[fE (λo=>t o.symm)];exact w,x⟩
 .have l:=r.ks n (dN _ m);by_cases f:n.2=a
  .rw[f,q]at l;injection l with l;exact absurd (by
    obtain⟨E,T⟩:=n;have l:(b:Int)=(E:Int):=l;have:b=E:=by omega
    rw[this,<-f]) (B n m)
  .rw[FQ f];exact l
 .obtain⟨h,j⟩:=n;obtain⟨y,p⟩:=i h j (s5 u m);obtain⟨K,s,v,z,w,x⟩:=r.num h j p;have f:j.toNat=b:=f;exact k h j y p (by omega)
end
end Go.Proofs.YtdlpoonfcdoiiaaGreat
