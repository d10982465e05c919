/- The law SystemSchedules returns true whatever comes in, and leaves what came in as it was: the given statement SystemSchedulesSaid. It has no conditions. -/
import Derived.Test.YtdlpoonfcdoiiaaGreatMB17
import Derived.Test.YtdlpoonfcdoiiaaGreatMB18
import Derived.Test.YtdlpoonfcdoiiaaGreatRows
namespace Go.Proofs.YtdlpoonfcdoiiaaGreat
open Go.RowKit Go.Proofs.Tryz
set_option maxHeartbeats 40000000
set_option linter.all false
def kz (c:Nat)(a:M)(k:C Int)(b f:Nat)(h:O)(m:nj h c a k b)(p:Hl h (du c a b))(n:1<=f/\f<=4398046511104:=by omega):Sr 17 [Z c,F f] h (du c a b) λB v=>∃j g:Nat,B=F j/\j<f/\v=[du c a g]/\g<=k.length:=by
 obtain⟨e,y,o⟩:=m;obtain⟨E,G,rfl,-,s,x⟩:=e;refine dR func17 p ?_;refine N [0,1] ?_;refine cC ?_;refine kB 10 [] λt=>?_;refine fh ?_;refine cN rfl (m6 rfl rfl) ?_;refine cZ (λd=>?_) λd=>?_
 .refine db results17 ?_;exact⟨0,b,rfl,by omega,rfl,o⟩
 .obtain⟨w,A,rfl,l,-,d1⟩:=x.resolve_left (by omega);refine fh ?_;refine KW 0 λr=>?_;refine cH [0,1] ?_;refine Y ?_;refine kB 14 [12] λu=>?_;refine fh ?_;refine cN rfl (cR (ab:=b) (hi:=by omega)) ?_;refine cN rfl (jd (hc:=d1 (b*1) _ (G2 k b (by omega))) (hF:=l)) ?_;refine Y ?_;refine eh rfl (eB func35 (λh z=>IC _ f h n)) ?_;rintro _ _ D ⟨_,rfl,j,rfl,q,rfl⟩;refine⟨_,jQ _ _ _,?_⟩;refine db results17 ?_;exact⟨j,b+1,rfl,q,rfl,by omega⟩
def gU.refl (a:dg):gU a a:=⟨rfl,rfl,rfl,rfl,rfl⟩
def gU.symm {c b:dg}(a:gU c b):gU b c:=⟨a.all.symm,a.dY.symm,a.acc.symm,a.fN.symm,a.wm.symm⟩
def gU.trans {e c d:dg}(b:gU e c)(a:gU c d):gU e d:=⟨b.all.trans a.all,b.dY.trans a.dY,b.acc.trans a.acc,b.fN.trans a.fN,b.wm.trans a.wm⟩
def gU.total {b a:dg}(d:gU b a)(c:Nat):b.total c=a.total c:=by unfold dg.total;rw[d.dY]
def gU.jn {c:PC}{f a:dg}(g:gU f a)(d:gH)(b:f.jn c d≠6)(e:a.jn c d≠6):f.jn c d=a.jn c d:=by
 unfold dg.jn at b e|-;rw[g.wm,g.total]at b|-
 repeat' split
 all_goals first|rfl|(exfalso;simp_all)
def gU.take {c:PC}{d a:dg}(b:gU d a)(e:gH):gU (d.take c e) (a.take c e):=by
 refine⟨?_,?_,?_,b.fN,b.wm⟩
 .show(d.sh.modify _ _).map _=(a.sh.modify _ _).map _;rw[Ha e8.all _ (λf=>f++[e.ev c]) (λg=>by simp[e8.push,e8.all]),Ha e8.all _ (λf=>f++[e.ev c]) (λg=>by simp[e8.push,e8.all]),b.all,b.acc]
 .show nM _ _ _=nM _ _ _;rw[b.dY,b.total]
 .show d.acc+1=a.acc+1;rw[b.acc]
def gU.py {c b:dg}(a:gU c b)(d:Nat):gU (c.py d) (b.py d):=⟨a.all,a.dY,a.acc,by show List.modify _ _ _=List.modify _ _ _;rw[a.fN],a.wm⟩
def gU.jb {c:PC}{f a:dg}(g:gU f a)(b:kr)(d:f.jb c b≠6)(e:a.jb c b≠6):f.jb c b=a.jb c b:=by
 cases b with
 |inl h=>exact g.jn h d e
 |inr i=>rfl
def gU.k9 {b:PC}{e a:dg}(d:gU e a)(c:kr)(g:e.jb b c≠6)(h:a.jb b c≠6):gU (e.k9 b c) (a.k9 b c):=by
 cases c with
 |inl f=>
  have i:e.jn b f=a.jn b f:=d.jn f g h;unfold dg.k9;dsimp only;rw[i];split
  .exact d.take f
  .exact d.py _
 |inr j=>exact d.py j
def gU.feed {c:PC}:∀{l:C kr}{e a:dg},gU e a->(∀d∈(e.feed c l).2,d≠6)->(∀d∈(a.feed c l).2,d≠6)->gU (e.feed c l).1 (a.feed c l).1/\(e.feed c l).2=(a.feed c l).2
 |[],e,a,j,_,_=>⟨j,rfl⟩
 |n::l,e,a,j,h,i=>by have f:=h _ (dQ ..);have g:=i _ (dQ ..);obtain⟨k,m⟩:=gU.feed (c:=c) (l:=l) (j.k9 n f g) (λd b=>h d (dN _ b)) (λd b=>i d (dN _ b));refine⟨k,?_⟩;show _::_=_::_;rw[m,j.jb n f g]
def gU.close {c:PC}{f b:dg}(d:gU f b)(a:Nat):gU (f.close c a).1 (b.close c a).1/\(f.close c a).2=(b.close c a).2:=by
 refine⟨⟨?_,?_,d.acc,d.fN,d.wm⟩,?_⟩
 .show(f.sh.map _).map _=(b.sh.map _).map _;have e:∀g:C e8,(g.map λh=>(h.drain a).close a).map e8.all=(g.map e8.all).map λi=>i.filter λe=> !decide (e.1=a):=λg=>by rw[jj,jj];exact k5 λh _=>e8.OE h a
  rw[e,e,d.all]
 .show ig _ _=ig _ _;rw[d.dY]
 .show rF c _ a _=rF c _ a _;rw[d.fN];congr 1;funext j;rw[e8.J9,e8.J9,d.iI j]
def gU.jR {b:PC}:∀{l:C Nat}{c a:dg},gU c a->gU (c.jR b l).1 (a.jR b l).1/\(c.jR b l).2=(a.jR b l).2
 |[],c,a,d=>⟨d,rfl⟩
 |i::l,c,a,d=>by obtain⟨e,f⟩:=d.close (c:=b) i;obtain⟨g,h⟩:=gU.jR (l:=l) e;refine⟨g,?_⟩;show _::_=_::_;rw[f,h]
def gU.tick {c:PC}{e a:dg}(b:gU e a)(d:Nat):gU (e.tick c d).1 (a.tick c d).1/\(e.tick c d).2=(a.tick c d).2:=by
 have f:e.due c (max e.wm d)=a.due c (max a.wm d):=by unfold dg.due;rw[b.dY,b.wm]
 unfold dg.tick;rw[f];exact gU.jR ⟨b.all,b.dY,b.acc,b.fN,by show max _ _=max _ _;rw[b.wm]⟩
def YF (y:Nat)(l:M)(L:C Int)(ai:Nat)(T:O)(ad:nj T y l L ai)(hs:Hl T (du y l ai)):Sr 16 [Z y] T (du y l ai) λr H=>∃(j:PC)(b:C Nat)(u x:M)(p':Nat),r=gV j u x/\j.Ok/\lU b/\(∃Q ah f,u=.slice Q ah f)/\(∃Q f,x=.slice Q 16 f)/\H=vd j (fM j b) u x++[du y l p']/\p'<=L.length:=by
 refine dS func16 hs ?_;refine NV [F 0,F 0,F 0,F 0,F 0,F 0,F 0,F 0,F 0,J 0,F 0,F 0,F 0,F 0,vN,vN,J 0] λp ak=>?_;refine cB ?_;refine cY ((du y l ai)) [_] func9 (List.Perm.swap ..) (λT g af=>BB y l L ai T (ad.at g (.tail _ (.head _)) ad.2.2) af) ?_;rintro _ _ al ⟨j,b,u,x,p1,rfl,P,hS,⟨Q,ah,f,rfl⟩,⟨h,i,rfl⟩,rfl,ae,-⟩;unfold vd;refine dj [F 0,F 0,F 0,F 0,F 0,F 0,F 0,F 0,F 0,J 0,F 0,F 0,F 0,F 0,vN,vN,J 0] λs am=>?_;refine cO 0 (u:=cP j (.slice Q ah f) (.slice h 16 i)) (H:=cP j (.slice Q ah f) (.slice h 16 i)) (h1:=by simp[cP,Value.oneCell']) λan=>?_;refine KW 0 (G:=cP {j with queue:=64} (.slice Q ah f) (.slice h 16 i)) λao=>?_;refine cH [2,3] ?_;refine Y ?_;have t:PC.Ok {j with queue:=64}:=P.Th (c:=64) (by omega) (by omega);have X:j.table=({j with queue:=64}:PC).table:=rfl;obtain⟨c,D⟩:∃c:PC,c={j with queue:=64}:=⟨_,rfl⟩;rw[<-D]at t X|-;clear D;have fV:(jZ j b).length=b.length:=x3;have k:(jZ c b).length=b.length:=x3;have n:(b.zip (jZ j b)).length=b.length:=xW;have B:tC (b.zip (jZ j b)):=J0 P hS;have G:(b.zip (jZ j b)).map Prod.fst=b:=Gb (b:=j);have ag:=B.len;rw[n]at ag;unfold fM;rw[n];refine eQ λg=>?_;obtain⟨A,cg,e⟩:=fs g (q:=1) rfl;injection e with R e2 S;subst R;subst e2;subst S;clear g;refine K3 0 (f:=cP c (vS A b.length f) (.slice h 16 i)) ?_;refine dd func23 (λT g=>by have:=SI (c:=b.zip (jZ j b)) (cv:=vS A b.length f) (z:=.slice h 16 i) (d:=T) t ⟨B,by rw[G];exact hS,by rw[n];exact Rd.dM g (l:=1) rfl,_,_,rfl⟩;rw[G,n]at this;exact this) ?_;rintro _ _ aj ⟨W,z,rfl,rfl⟩;refine df ?_;refine fu [0,0,1,1,1,0] ?_;refine K4 [2,3,4,16,17] ?_;refine dB (λq m H w'=>∃o:Nat,m=[(2,Z p),(3,Z s),(4,.slice W b.length z),(16,F b.length),(17,F o)]/\H=[row (.slice W b.length z) 3 1 b.length (ec (jZ c b)),cF s (cP c (vS A b.length f) (.slice h 16 i)) 27,row (.slice h 16 i) 23 1 16 (dF c.table),du y l p1,cF p EZ 27,row (vS A b.length f) 68 2 b.length (lI (qG b (jZ c b) (jZ j b) o))]/\q+o=b.length) b.length ⟨0,rfl,by rw[X];rfl,rfl⟩ ?_;rintro q _ _ ar ⟨o,rfl,rfl,hq⟩;refine cZ (λab=>?_) λab=>?_
 .have w:o<b.length:=by omega
  obtain⟨d,E⟩:∃d,(jZ c b)[o]? =some d:=⟨_,dr (by omega)⟩;refine eQ λg=>?_;obtain⟨g2,c2,e⟩:=fs g (q:=0) rfl;injection e with R _ S;subst R;subst S;clear g;refine N [2,3,4,6,16,17] ?_;refine eO 10 [9] [_,_,_,_,_] [_] (cD _) λau=>?_;refine Y ?_;refine cN rfl (dH 1 (n:=vS A b.length f)) ?_;refine cQ ?_;refine cN rfl (cR (ab:=o) (ad:=w)) ?_;refine cN rfl (gj 0 (n:=F d) (hv:=by unfold ec;rw[dU,fT,eK,E];rfl)) ?_;refine cN rfl (cR (ab:=o) (ad:=w)) ?_;refine Y ?_;refine jW rfl (fK 5 (y:=lI (qG b (jZ c b) (jZ j b) (o+1))) (hl:=by show 0+o*2+1+1<=_;rw[Ow,LM k fV];omega) (ae:=RQ k fV E)) ?_;rintro _ _ ap rfl;refine⟨_,cD _,?_⟩;refine ir [2,3,4,16,17] ?_;exact⟨q-1,by omega,o+1,rfl,rfl,by omega⟩
 .refine dI ?_;refine K3 1 (f:=cP c (vS A b.length f) (.slice h 16 i)) ?_;refine cO 4 (u:=cP c (vS A b.length f) (.slice h 16 i)) (H:=cP c (vS A b.length f) (.slice h 16 i)) (h1:=by simp[cP,Value.oneCell']) λaq=>?_;refine cH [2] ?_;refine cK [4,4,2,2] ?_;refine eM ?_;refine⟨_,_,λa ha g=>eW results16 (eX (e4 0 rfl underlying27 rfl (by kernel_rfl) rfl) eY) a ha _ g,fO _ _,?_⟩;have w:o=b.length:=by omega
  subst w;rw[RP k fV];refine⟨c,b,_,_,p1,rfl,t,hS,⟨_,_,_,rfl⟩,⟨_,_,rfl⟩,?_,ae⟩;rw[show(b.zip (jZ c b)).length=b.length from xW];rfl
namespace DF
def Pz (b e:U)(c f d g:Int)(h:Nat)(s:9000<=h)(a:O):(Op.equalIn (h+1) 57 (PE [.string b,F c,J d]) (PE [.string e,F f,J g])).run prog a=.ok (decide (b=e/\c=f/\d=g)) a:=by
 obtain⟨h,rfl⟩:∃q,h=q+1:=⟨h-1,by omega⟩;have r:prog.underlying 57=some (.struct (prog.fieldsOf 57)):=by kernel_rfl
 rw[run_equalIn_struct a (h+1) 57 _ _ r (by kernel_rfl)];simp only[Program.fieldsOf,underlying57];have i:∀(b:U)(c d:Int),(part 9 #[.string b,F c,J d] 0).run prog a=.ok (.string b) a:=λb c d=>by kernel_rfl
 have j:∀(b:U)(c d:Int),(part 3 #[.string b,F c,J d] 1).run prog a=.ok (F c) a:=λb c d=>by kernel_rfl
 have k:∀(b:U)(c d:Int),(part 23 #[.string b,F c,J d] 2).run prog a=.ok (J d) a:=λb c d=>by kernel_rfl
 have l:(Op.equalIn (h+1) 9 (.string b) (.string e)).run prog a=.ok (b.toList==e.toList) a:=run_equalIn_string a h _ b e underlying9;have m:(Op.equalIn (h+1) 3 (F c) (F f)).run prog a=.ok (c==f) a:=wq a h 3 .i64 .i64 c f underlying3;have n:(Op.equalIn (h+1) 23 (J d) (J g)).run prog a=.ok (d==g) a:=wq a h 23 .u64 .u64 d g underlying23;by_cases h0:b=e
 .subst h0;by_cases o:c=f
  .subst o;by_cases p:d=g
   .subst p;simp[Op.eqFields,i,j,k,l,m,n]
   .simp[Op.eqFields,i,j,k,l,m,n,p]
  .simp[Op.eqFields,i,j,k,l,m,n,o]
 .have:¬b.toList=e.toList:=λq=>h0 (CF.1 q);simp[Op.eqFields,i,j,k,l,m,n,h0,this]
def adT (d a:U)(e b f c:Int)(g:O):(binOp .neq 57 (PE [.string d,F e,J f]) (PE [.string a,F b,J c])).run prog g=.ok (.bool (!decide (d=a/\e=b/\f=c))) g:=by rw[run_neq_struct,Pz _ _ _ _ _ _ 9999 (by omega)];rfl
end DF
namespace DF
def adU (a:U)(b c:Int)(d:O):(binOp .neq 57 (PE [.string a,F b,J c]) (PE [.string a,F b,J c])).run prog d=.ok (.bool false) d:=by rw[adT];simp
end DF
section
variable{a:PC}{b c:dg}
def Mz:∀(d:C Nat)(b:dg),gU (pE d b) b
 |[],b=>gU.refl b
 |e::d,b=>(Mz d (b.step e)).trans (gU.step b e)
def Ra:∀{g:C kr}{b c:dg},gU b c->(∀d∈(b.feed a g).2,d≠6)->(∀d∈(c.feed a g).2,d≠6)->b.kept a g=c.kept a g
 |[],_,_,_,_,_=>rfl
 |f::g,b,c,m,j,k=>by
  have h:b.jb a f≠6:=j _ (dQ ..);have i:c.jb a f≠6:=k _ (dQ ..);have l:∀b:dg,b.kept a (f::g)=b.qE a f++(b.k9 a f).kept a g:=λ_=>rfl;rw[l,l,Ra (m.k9 f h i) (λd e=>j d (dN _ e)) (λd e=>k d (dN _ e))];congr 1;cases f with
  |inr d=>rfl
  |inl n=>have:=m.jn n h i;unfold dg.qE;dsimp only;rw[this]
def l9.two:∀{z:C (C kr×cG Nat)}{d e:jf},l9 a z d->l9 a z e->(∀l∈d.vs,l≠6)->(∀l∈e.vs,l≠6)->gU d.k e.k/\d.rs=e.rs/\d.cS=e.cS/\d.vs=e.vs
 |[],d,e,q,i,_,_=>by have q:d=jf.new a:=q;have i:e=jf.new a:=i;subst q;subst i;exact⟨gU.refl _,rfl,rfl,rfl⟩
 |h::z,d,e,q,i,m,j=>by
  obtain⟨u,f,h0,rfl⟩:=q;obtain⟨v,r,y,rfl⟩:=i;have ev:∀(d:jf)(f:C Nat),(d.frame a h.1 f h.2).vs=d.vs++(d.k.feed a h.1).2:=λd f=>by unfold jf.frame;cases h.2<;>rfl
  have n:∀(d:jf)(f:C Nat),(d.frame a h.1 f h.2).cS=d.cS++d.k.kept a h.1:=λd f=>by unfold jf.frame;cases h.2<;>rfl
  rw[ev]at m j;obtain⟨o,p,w,x⟩:=l9.two h0 y (λl g=>m l (gI _ g)) (λl g=>j l (gI _ g));have s:=λl g=>m l (iA _ g);have t:=λl g=>j l (iA _ g);obtain⟨f1,f2⟩:=o.feed s t;have f3:=Ra o s t;have f4:gU (pE f (u.k.feed a h.1).1) (pE r (v.k.feed a h.1).1):=(Mz f _).trans (f1.trans (Mz r _).symm);rw[ev,ev,n,n,w,x,f2,f3];refine⟨?_,?_,rfl,rfl⟩
  .unfold jf.frame;cases h.2 with
   |none=>exact f4
   |some A=>exact(f4.tick A).1
  .unfold jf.frame;cases h.2 with
   |none=>exact p
   |some A=>show u.rs++_=v.rs++_;rw[p,(f4.tick A).2]
end
def aax (b:U)(c d:Int)(a:O):(Op.equalIn 10000 48 (PE [.string b,J c,J d]) (PE [.string b,J c,J d])).run prog a=.ok true a:=by
 have e:prog.underlying 48=some (.struct (prog.fieldsOf 48)):=by kernel_rfl
 rw[run_equalIn_struct a 9999 48 _ _ e (by kernel_rfl)];simp only[Program.fieldsOf,underlying48];have f:(part 9 #[.string b,J c,J d] 0).run prog a=.ok (.string b) a:=by kernel_rfl
 have g:(part 23 #[.string b,J c,J d] 1).run prog a=.ok (J c) a:=by kernel_rfl
 have h:(part 23 #[.string b,J c,J d] 2).run prog a=.ok (J d) a:=by kernel_rfl
 have i:(Op.equalIn 9999 9 (.string b) (.string b)).run prog a=.ok (b.toList==b.toList) a:=run_equalIn_string a 9998 _ b b underlying9;have j:(Op.equalIn 9999 23 (J c) (J c)).run prog a=.ok (c==c) a:=wq a 9998 23 .u64 .u64 c c underlying23;have k:(Op.equalIn 9999 23 (J d) (J d)).run prog a=.ok (d==d) a:=wq a 9998 23 .u64 .u64 d d underlying23;simp[Op.eqFields,f,g,h,i,j,k]
def adV (a:U)(b c:Int)(d:O):(binOp .neq 48 (PE [.string a,J b,J c]) (PE [.string a,J b,J c])).run prog d=.ok (.bool false) d:=by rw[run_neq_struct,aax];rfl
section
variable{a:O}
def S6 {i j:M}(b:C Nat)(u:b.length<=1000000)(e:Rd a cW 1 i b.length (dF b))(f:Rd a cW 1 j b.length (dF b)):Sn 18 [i,j] a λA k=>A=.bool true/\k=[]:=by
 obtain⟨l,ac,rfl,-⟩:=id e;obtain⟨m,n,rfl,-⟩:=id f;refine dR func18 hS ?_;refine K4 [0,1,12,13] ?_;refine dB (λo x k B=>∃c:Nat,x=[(0,.slice l b.length ac),(1,.slice m b.length n),(12,F b.length),(13,F c)]/\k=[]/\o+c=b.length) b.length ⟨0,rfl,rfl,rfl⟩ ?_;rintro o _ _ D ⟨c,rfl,rfl,w⟩;refine cZ (λg=>?_) λg=>?_
 .obtain⟨d,h⟩:∃d,b[c]? =some d:=⟨_,dr (by omega)⟩;obtain⟨s,y,rfl,p,d1⟩:=e.at_ (i:=c) (by omega);obtain⟨t,z,rfl,q,d2⟩:=f.at_ (i:=c) (by omega);refine N [0,1,5,12,13] ?_;refine Y ?_;refine eO 9 [] [] [] (ik _) λr=>?_;refine cC ?_;refine cN rfl (cR (ab:=c)) ?_;refine cN rfl (jd (n:=J d) (hc:=d1 _ _ (yn (λd:Nat=>Value.int .u64 (d:Int)) h))) ?_;refine cC ?_;refine cN rfl (cR (ab:=c)) ?_;refine cN rfl (jd (n:=J d) (hc:=d2 _ _ (yn (λd:Nat=>Value.int .u64 (d:Int)) h))) ?_;refine ir [0,1,12,13] ?_;exact⟨o-1,by omega,c+1,rfl,rfl,by omega⟩
 .refine dI ?_;refine N [4] ?_;refine gT results18 ?_;exact⟨rfl,rfl⟩
def zL (b:En):(gM b).length=3:=rfl
def BI (b:C En):dn b=b.flatMap gM:=by
 induction b with
 |nil=>rfl
 |cons d b c=>rw[ji,<-c];rfl
def aiZ {i j:M}(b:C En)(v:b.length<=1000000)(d:Rd a cW 3 i b.length (dn b))(e:Rd a cW 3 j b.length (dn b)):Sn 36 [i,j] a λB l=>B=.bool true/\l=[]:=by
 rw[BI]at d e;obtain⟨m,ac,rfl,-⟩:=id d;obtain⟨n,o,rfl,-⟩:=id e;refine dR func36 hS ?_;refine K4 [0,1,12,13] ?_;refine dB (λp y l E=>∃c:Nat,y=[(0,.slice m b.length ac),(1,.slice n b.length o),(12,F b.length),(13,F c)]/\l=[]/\p+c=b.length) b.length ⟨0,rfl,rfl,rfl⟩ ?_;rintro p _ _ G ⟨c,rfl,rfl,w⟩;refine cZ (λg=>?_) λg=>?_
 .obtain⟨k,h⟩:∃k,b[c]? =some k:=⟨_,dr (by omega)⟩;obtain⟨t,z,rfl,q,d1⟩:=d.at_ (i:=c) (by omega);obtain⟨u,A,rfl,r,d2⟩:=e.at_ (i:=c) (by omega);refine N [0,1,5,12,13] ?_;refine Y ?_;refine eO 9 [] [] [] (ik _) λs=>?_;refine cC ?_;refine cN rfl (cR (ab:=c)) ?_;refine cN rfl (kY (b:=gM k) (hc:=λx D f=>by rw[ma];exact d1 _ _ (qC zL h f))) ?_;refine cC ?_;refine cN rfl (cR (ab:=c)) ?_;refine cN rfl (kY (b:=gM k) (hc:=λx D f=>by rw[ma];exact d2 _ _ (qC zL h f))) ?_;refine cN rfl (oN rfl rfl (λa=>run_eqGuard_agg a _ _ _ _ _ _ (by kernel_rfl)) (λa=>adV _ _ _ a)) ?_;refine ir [0,1,12,13] ?_;exact⟨p-1,by omega,c+1,rfl,rfl,by omega⟩
 .refine dI ?_;refine N [4] ?_;refine gT results36 ?_;exact⟨rfl,rfl⟩
def ai0 {f d g e:M}(b:jg)(r:b.lines.length<=1000000)(q:b.pC.length<=1000000)(l:Rd a cW 3 f b.lines.length (dn b.lines))(m:Rd a cW 3 g b.lines.length (dn b.lines))(o:Rd a cW 1 d b.pC.length (dF b.pC))(p:Rd a cW 1 e b.pC.length (dF b.pC)):Sn 19 [.agg (iD b f d).toArray,.agg (iD b g e).toArray] a λv u=>v=.bool true/\u=[]:=by refine enter (g:=52) func19 rfl rfl [(0,.agg (iD b f d).toArray),(1,.agg (iD b g e).toArray)] rfl ⟨rfl,rfl,trivial⟩ hS ?_;refine Mf (f:=iD b f d) λj s=>?_;refine dK (l:=iD b g e) λk t=>?_;refine cB ?_;refine nh rfl rfl (eB func36 (λa c=>aiZ b.lines r (l.dx c) (m.dx c))) ?_;rintro _ _ h ⟨_,rfl,rfl,rfl⟩;refine fh ?_;refine fh ?_;refine fh ?_;refine nh rfl rfl (eB func18 (λa c=>S6 b.pC q (o.dx c) (p.dx c))) ?_;rintro _ _ i ⟨_,rfl,rfl,rfl⟩;refine N [4] ?_;refine gT results19 ?_;exact⟨rfl,rfl⟩
end
def zU {b:RV}:∀{a:C RV}{c:Nat},a[c]? =some b->(a.flatMap jw)[c*2]? =some (row (.slice b.La b.R.lines.length b.Lc) 48 3 b.R.lines.length (dn b.R.lines))/\(a.flatMap jw)[c*2+1]? =some (row (.slice b.Ja b.R.pC.length b.Jc) 23 1 b.R.pC.length (dF b.R.pC))
 |[],c,d=>by simp at d
 |g::a,0,d=>by simp only[Jg,ln]at d;subst d;exact⟨rfl,rfl⟩
 |g::a,c+1,d=>by
  simp only[y0]at d;have f:=zU (b:=b) (a:=a) (c:=c) d;have e:(c+1)*2=c*2+1+1:=by omega
  rw[e];exact f
def adk (b c d e:Int)(a:O):(Instr.buildSlice 22 4 [(0,F b),(1,F c),(2,F d),(3,F e)].toArray).run prog a=.ok (vS a.heap.size 4 4) (a.alloc (.cells [F b,F c,F d,F e].toArray 3)):=by kernel_rfl
set_option maxRecDepth 2000 in
def akz (z:O)(A1:cG Addr)(n1:Nat)(L1:C Int)(bg:Rd z cW 1 (.slice A1 L1.length n1) L1.length (iv L1))(bm:L1.length<=140737488355328)(A2:cG Addr)(n2:Nat)(L2:C Int)(bh:Rd z cW 1 (.slice A2 L2.length n2) L2.length (iv L2))(bn:L2.length<=140737488355328)(A3:cG Addr)(n3:Nat)(L3:C Int)(bi:Rd z cW 1 (.slice A3 L3.length n3) L3.length (iv L3))(bo:L3.length<=140737488355328)(A4:cG Addr)(n4:Nat)(L4:C Int)(bj:Rd z cW 1 (.slice A4 L4.length n4) L4.length (iv L4))(bp:L4.length<=140737488355328)(am:cG Addr)(an:Nat)(w:C Int)(au:Rd z cW 1 (.slice am w.length an) w.length (iv w))(av:w.length<=140737488355328):Sn 6 [.slice A1 L1.length n1,.slice A2 L2.length n2,.slice A3 L3.length n3,.slice A4 L4.length n4,.slice am w.length an] z λr _=>r=.bool true:=by
 refine Aq func6 hS ?_;refine Ku func8 (λz g=>xa A1 _ n1 z) ?_;rintro _ _ w1 ⟨b1,rfl,rfl⟩;refine cY ((du b1 (.slice A1 L1.length n1) 0)) [] func16 (cD _) (λz g ab=>YF b1 _ L1 0 z ⟨bg.fg g (b:=[]) (cD _),bm,gK _⟩ ab) ?_;rintro _ _ w2 ⟨c,S,ao,ar,p1,rfl,hc,aM,⟨A,n,cp,rfl⟩,⟨AT,cT,rfl⟩,rfl,-⟩;unfold vd;obtain⟨ao,aN⟩:∃ao:M,ao=.slice A n cp:=⟨_,rfl⟩;obtain⟨ar,aP⟩:∃ar:M,ar=.slice AT 16 cT:=⟨_,rfl⟩;have aT:∀u∈cP c ao ar,u.oneCell'=true:=by rw[aN,aP];simp[cP,Value.oneCell']
 rw[<-aN,<-aP];refine dj [F 0,F 0,F 0,F 0,F 0,F 0,F 0,F 0,F 0,J 0,F 0,F 0,F 0,F 0,vN,vN,J 0] λax bQ=>?_;refine cO 0 (u:=cP c ao ar) (H:=cP c ao ar) (h1:=aT) λbR=>?_;refine K3 0 (f:=cP c ao ar) ?_;refine Ku func11 (λz g=>xq A2 n2 L2 _ _ hc (bh.dx g) bn) ?_;rintro _ _ w3 ⟨fv,kv,pv,W,aj,ah,rfl,rfl,P⟩;unfold vH;refine kq λg=>?_;obtain⟨fA,fc,rfl⟩:=fS g (p:=0) rfl;obtain⟨kA,kc,rfl⟩:=fS g (p:=2) rfl;obtain⟨pA,pc,rfl⟩:=fS g (p:=3) rfl;clear g;refine dj [vN,vN,vN] λay bU=>?_;refine cO 0 (H:=[.slice fA W.length fc,.slice kA aj.length kc,.slice pA ah.length pc]) λbV=>?_;refine K3 0 (f:=[.slice fA W.length fc,.slice kA aj.length kc,.slice pA ah.length pc]) ?_;refine dj [vN,vN,vN] λaz bW=>?_;refine cO 0 (H:=[.slice fA W.length fc,.slice kA aj.length kc,.slice pA ah.length pc]) λbX=>?_;refine KW 0 (G:=[.slice fA W.length fc,.slice kA aj.length kc,vN]) λbY=>?_;refine Ku func8 (λz g=>xa am _ an z) ?_;rintro _ _ w5 ⟨X,rfl,rfl⟩;refine N [2,3,11,12,13,14] ?_;refine cL ?_;refine I (dH 2 (n:=.slice pA ah.length pc)) ?_;refine N [2,3,11,12,13,14,35,36] ?_;refine Y ?_;refine sL ?_;refine gh 22 1 ?_;refine cK [0,0,0,0,0,0,0,0,0,0,0,0,0] ?_;have ca:=P.p;have h8:=P.n;refine dB (λq m H w'=>∃(i:Nat)(ai:C (M×C Int))(pB:cG Addr)(pd p5:Nat),m=[(2,.slice A3 L3.length n3),(3,.slice A4 L4.length n4),(11,Z ax),(12,Z ay),(13,Z az),(14,Z X),(35,F ah.length),(36,F i)]/\H=[row (.slice pB ai.length pd) 22 1 ai.length (ai.map Prod.fst),cz (ai.map Er),du X (.slice am w.length an) p5,cF az [.slice fA W.length fc,.slice kA aj.length kc,.slice pB ai.length pd] 41,cF ay [.slice fA W.length fc,.slice kA aj.length kc,.slice pA ah.length pc] 41,row (.slice fA W.length fc) 73 1 W.length (W.map Prod.fst),cz (W.map GB),row (.slice kA aj.length kc) 3 1 aj.length (ec aj),row (.slice pA ah.length pc) 22 1 ah.length (ah.map Prod.fst),cz (ah.map Er),cF ax (cP c ao ar) 27,row ao 68 2 (fM c S).length (lI (fM c S)),row ar 23 1 16 (dF c.table)]/\q+i=ah.length/\ai.length=i/\(∀x∈ai,x.2.length<=8/\∀y∈x.2,0<=y/\y<=100)/\p5<=w.length) ah.length ⟨0,[],.none,0,0,rfl,rfl,rfl,rfl,λx hx=>(nomatch hx),gK _⟩ ?_;rintro q _ _ w6 ⟨i,ai,pB,pd,p5,rfl,rfl,hq,ba,aL,bq⟩;refine cZ (λbc=>?_) λbc=>?_
 .refine cQ ?_;refine CM [0,1,2,4,6,8,1003,1005,1007,1009,1010,1011,1012,13,1014] [(_,some 14)] [_,_,_,_,_,_,_,_,_,_,_,_] (de [3] _ rfl) λcw=>?_;refine Y ?_;refine ew rfl (dH 0 (n:=.slice pB ai.length pd)) ?_;refine cL ?_;refine gY rfl (ft ((du X (.slice am w.length an) p5)) [_,_,_,_,_,_,_,_,_,_,_,_] func17 ((c8 3 rfl)) (λz g ab=>kz X _ w p5 9 z ⟨au.fg (h:=du X (.slice am w.length an) p5) g (c8 3 rfl),av,bq⟩ ab)) ?_;rintro _ _ bZ ⟨_,rfl,y1,p6,rfl,cg,rfl,br⟩;refine⟨_,(show List.Perm _ ([_,_,_]++_)from de [1,1,1] _ rfl),?_⟩;refine gY rfl (ft ((du X (.slice am w.length an) p6)) [_,_,_,_,_,_,_,_,_,_,_,_] func17 ((c8 3 rfl)) (λz g ab=>kz X _ w p6 9 z ⟨au.fg (h:=du X (.slice am w.length an) p6) g (c8 3 rfl),av,br⟩ ab)) ?_;rintro _ _ b0 ⟨_,rfl,y2,p7,rfl,ch,rfl,bs⟩;refine⟨_,(show List.Perm _ ([_,_,_]++_)from de [1,1,1] _ rfl),?_⟩;refine gY rfl (ft ((du X (.slice am w.length an) p7)) [_,_,_,_,_,_,_,_,_,_,_,_] func17 ((c8 3 rfl)) (λz g ab=>kz X _ w p7 9 z ⟨au.fg (h:=du X (.slice am w.length an) p7) g (c8 3 rfl),av,bs⟩ ab)) ?_;rintro _ _ b2 ⟨_,rfl,y3,p8,rfl,ci,rfl,bt⟩;refine⟨_,(show List.Perm _ ([_,_,_]++_)from de [1,1,1] _ rfl),?_⟩;refine gY rfl (ft ((du X (.slice am w.length an) p8)) [_,_,_,_,_,_,_,_,_,_,_,_] func17 ((c8 3 rfl)) (λz g ab=>kz X _ w p8 9 z ⟨au.fg (h:=du X (.slice am w.length an) p8) g (c8 3 rfl),av,bt⟩ ab)) ?_;rintro _ _ b3 ⟨_,rfl,y4,p9,rfl,cj,rfl,bu⟩;refine⟨_,(show List.Perm _ ([_,_,_]++_)from de [1,1,1] _ rfl),?_⟩;refine gY rfl (vg (g:=3) (b:=1) rfl (λz=>adk _ _ _ _ z) rfl (by decide)) ?_;rintro _ _ bK ⟨aK,rfl,rfl⟩;refine⟨_,eg.symm,?_⟩;refine gY rfl (qi Ij) ?_;rintro _ _ bL ⟨bC,rfl,rfl⟩;refine⟨_,eg.symm,?_⟩;refine gY rfl (jo 3 Ij (hr:=λz g=>Rd.dM g (l:=1) rfl)) ?_;rintro _ _ cm ⟨⟨aR,aS,rfl⟩,rfl⟩;refine⟨_,cD _,?_⟩;refine Y ?_;refine jC rfl (gD 0 (y:=[.slice fA W.length fc,.slice kA aj.length kc,.slice aR (ai.length+1) aS])) ?_;rintro _ _ bM rfl;refine⟨_,cD _,?_⟩;refine ui [2,3,11,12,13,14,35,36] rfl ?_;refine cK [4,2,2,2,0,1,1,1,1,1,1,1,1,1] ?_;refine Al ?_;refine cK [1,0,0,0,0,0,0,0,0,0,0,0,0] ?_;refine N [2,3,11,12,13,14,35,36] ?_;refine⟨q-1,by omega,i+1,ai++[(vS aK 4 4,[(y1:Int),(y2:Int),(y3:Int),(y4:Int)])],aR,aS,p9,rfl,?_,by omega,by rw[cX,ba];rfl,λx hx=>?_,bu⟩
  .rw[cX,dE,dE];rfl
  .rcases dV.1 hx with hx|hx
   .exact aL x hx
   .rw[fI]at hx;subst hx;refine⟨by simp,λv hv=>?_⟩;simp only[dh,nn,o6]at hv;omega
 .have aD:wB W aj ai:=⟨P.t,by omega,P.n,P.f,P.tb,aL⟩;refine dI ?_;refine K3 10 (f:=cP c ao ar) ?_;refine I (di 4 (b:=[.slice fA W.length fc,.slice kA aj.length kc,.slice pA ah.length pc])) ?_;refine Ku func10 (λz g=>rH (r:=L3) hc aM (Rd.dM g (l:=11) rfl) (Rd.dM g (l:=12) rfl) (l0 g (E:=5) (G:=6) (H:=7) (K:=8) (L:=9) rfl rfl rfl rfl rfl P) P (bi.dx g) bo) ?_;rintro _ _ cn ⟨j,o,ad,G,af,L,bz,B,ck,rfl,rfl,aB,aO,bl,ce,bx⟩;unfold pk;refine NV [vN,vN,vN] λD bD=>?_;refine cO 0 (H:=[.slice ad j.cS.length G,.slice af o.length L,.slice bz 7 B]) λbE=>?_;refine K3 15 (f:=cP c ao ar) ?_;refine I (di 8 (b:=[.slice fA W.length fc,.slice kA aj.length kc,.slice pB ai.length pd])) ?_;refine Ku func10 (λz g=>rH (r:=L4) hc aM (Rd.dM g (l:=16) rfl) (Rd.dM g (l:=17) rfl) (l0 g (E:=10) (G:=11) (H:=12) (K:=5) (L:=6) rfl rfl rfl rfl rfl aD) aD (bj.dx g) bp) ?_;rintro _ _ cq ⟨T,s,ak,ae,al,ag,bA,K,cl,rfl,rfl,bb,bw,b9,cf,cd⟩;unfold pk;refine NV [vN,vN,vN] λE bF=>?_;refine cO 0 (H:=[.slice ak T.cS.length ae,.slice al s.length ag,.slice bA 7 K]) λbG=>?_;refine N [15,17,18,20] ?_;refine cC ?_;refine cK [0,0,0,0,0,0,0,0,0,0] ?_;obtain⟨b4,aA⟩:=sD hc P aB aO bl bx;have aE:=EK j.vs (e:=6) (by omega);have aU:=EK T.vs (e:=6) (by omega);have bO:=Fe (a:=6) (l:=j.vs);have bP:=Fe (a:=6) (l:=T.vs);refine N [15,18,74] ?_;refine cL ?_;refine eQ λg=>?_;obtain⟨g2,_,e⟩:=fs g (q:=4) rfl;injection e with ap _ aq;subst ap;subst aq;obtain⟨g1,_,e⟩:=fs g (q:=9) rfl;injection e with ap _ aq;subst ap;subst aq;clear g;refine eS (λm H w'=>m=[(15,Z D),(18,Z E),(86,.bool (decide (0<j.vs.count 6\/0<T.vs.count 6)))]/\H=[cF E [.slice ak T.cS.length ae,.slice al s.length ag,vS g2 7 K] 34,row (.slice ak T.cS.length ae) 57 3 T.cS.length (T.cS.flatMap fH),row (.slice al s.length ag) 45 7 s.length (s.flatMap fm),cz (s.flatMap jw),row (vS g2 7 K) 23 1 7 (dF (nE T.vs)),cF D [.slice ad j.cS.length G,.slice af o.length L,vS g1 7 B] 34,row (.slice ad j.cS.length G) 57 3 j.cS.length (j.cS.flatMap fH),row (.slice af o.length L) 45 7 o.length (o.flatMap fm),cz (o.flatMap jw),row (vS g1 7 B) 23 1 7 (dF (nE j.vs))]) ?_ (λ_ _ cr hM=>?_)
  .by_cases h1:0<j.vs.count 6
   .iterate 2 refine Y ?_
    refine I (dH 5 (n:=vS g1 7 B)) ?_;refine I (cR (ab:=6)) ?_;refine I (gj 9 (n:=J ((j.vs.count 6:Nat):Int)) (hv:=by unfold dF;rw[eK,dU,fT,aE];rfl)) ?_;refine I (cU (z:=.bool true) (gA rfl rfl) (dq Value.bool (gb (by omega)))) ?_;refine N [15,18,86] ?_;refine⟨?_,rfl⟩;rw[show decide (0<j.vs.count 6\/0<T.vs.count 6)=true from gb (.inl h1)]
   .iterate 2 refine Y ?_
    refine I (dH 5 (n:=vS g1 7 B)) ?_;refine I (cR (ab:=6)) ?_;refine I (gj 9 (n:=J ((j.vs.count 6:Nat):Int)) (hv:=by unfold dF;rw[eK,dU,fT,aE];rfl)) ?_;refine I (cU (z:=.bool false) (gA rfl rfl) (dq Value.bool (fL (by omega)))) ?_;refine cC ?_;refine dZ rfl rfl (dH 0 (n:=vS g2 7 K)) ?_;refine dZ rfl rfl (cR (ab:=6)) ?_;refine dZ rfl rfl (gj 4 (n:=J ((T.vs.count 6:Nat):Int)) (hv:=by unfold dF;rw[eK,dU,fT,aU];rfl)) ?_;refine dZ rfl rfl (cU (z:=.bool (decide (0<T.vs.count 6))) (gA rfl rfl) (dq Value.bool (uU.2 (by omega)))) ?_;refine N [15,18,86] ?_;refine⟨?_,rfl⟩;rw[show decide (0<j.vs.count 6\/0<T.vs.count 6)=decide (0<T.vs.count 6)from uU.2 ⟨λh=>h.resolve_left h1,.inr⟩]
  obtain⟨rfl,rfl⟩:=hM;refine jc rfl (λbd=>?_) (λbd=>?_)
  .refine Ku func14 (λz g=>Bw z) ?_;rintro _ _ bH ⟨rfl,rfl⟩;refine N [10] ?_;refine gT results6 ?_;rfl
  .have n1:∀v∈j.vs,v≠6:=λv hv e=>by subst e;have:=List.count_pos_iff.2 hv;omega
   have n2:∀v∈T.vs,v≠6:=λv hv e=>by subst e;have:=List.count_pos_iff.2 hv;omega
   obtain⟨-,a4,a3,mB⟩:=aO.two bw n1 n2;have aC:s.map RV.R=o.map RV.R:=by rw[aB,bb,a4]
   have bN:s.length=o.length:=by have:=dq List.length aC;simpa using this
   have b7:=aA.rl;have b6:=aA.il;rw[<-a3,<-mB];refine df ?_;refine I (dH 5 (n:=vS g1 7 B)) ?_;refine Y ?_;refine I (dH 0 (n:=vS g2 7 K)) ?_;refine dd func18 (λz g=>by have h:=S6 (a:=z) (i:=vS g1 7 B) (j:=vS g2 7 K) (nE j.vs) (by rw[yH];omega) (by rw[yH];exact Rd.dM g (l:=9) rfl) (by rw[yH];exact Rd.dM g (l:=4) rfl);exact h) ?_;rintro _ _ bI ⟨rfl,rfl⟩;refine cQ ?_;refine dZ rfl rfl (dH 5 (n:=.slice ad j.cS.length G)) ?_;refine cC ?_;refine dZ rfl rfl (dH 0 (n:=.slice ak j.cS.length ae)) ?_;refine df ?_;refine dZ rfl rfl (dH 5 (n:=.slice af o.length L)) ?_;refine cC ?_;refine dZ rfl rfl (dH 0 (n:=.slice al s.length ag)) ?_;refine N [15,18,111] ?_;refine eL ?_;refine I (dH 5 (n:=.slice ad j.cS.length G)) ?_;refine K4 [15,18,114,115] ?_;refine dB (λq m H w'=>∃k:Nat,m=[(15,Z D),(18,Z E),(114,F j.cS.length),(115,F k)]/\H=[cF E [.slice ak j.cS.length ae,.slice al s.length ag,vS g2 7 K] 34,row (.slice ak j.cS.length ae) 57 3 j.cS.length (j.cS.flatMap fH),row (.slice al s.length ag) 45 7 s.length (s.flatMap fm),cz (s.flatMap jw),row (vS g2 7 K) 23 1 7 (dF (nE j.vs)),cF D [.slice ad j.cS.length G,.slice af o.length L,vS g1 7 B] 34,row (.slice ad j.cS.length G) 57 3 j.cS.length (j.cS.flatMap fH),row (.slice af o.length L) 45 7 o.length (o.flatMap fm),cz (o.flatMap jw),row (vS g1 7 B) 23 1 7 (dF (nE j.vs))]/\q+k=j.cS.length) j.cS.length ⟨0,rfl,rfl,rfl⟩ ?_;rintro q2 _ _ ct ⟨k,rfl,rfl,cb⟩;refine cZ (λbe=>?_) λbe=>?_
   .obtain⟨y,hy⟩:∃y,j.cS[k]? =some y:=⟨_,dr (by omega)⟩;refine eQ λg=>?_;obtain⟨a6,_,e⟩:=fs g (q:=1) rfl;injection e with ap _ aq;subst ap;subst aq;obtain⟨a5,_,e⟩:=fs g (q:=6) rfl;injection e with ap _ aq;subst ap;subst aq;clear g;refine N [15,18,21,114,115] ?_;refine Y ?_;refine eO 11 [] [_,_,_,_,_,_,_,_,_,_] [] (ik _) λbS=>?_;refine Y ?_;refine cN rfl (dH 5 (n:=vS a5 j.cS.length G)) ?_;refine Y ?_;refine cN rfl (cR (ab:=k)) ?_;refine cN rfl (je 6 (b:=fH y) (hv:=by rw[dU];exact oQ Cp hy)) ?_;refine Y ?_;refine cN rfl (dH 0 (n:=vS a6 j.cS.length ae)) ?_;refine Y ?_;refine cN rfl (cR (ab:=k)) ?_;refine cN rfl (je 1 (b:=fH y) (hv:=by rw[dU];exact oQ Cp hy)) ?_;refine cN rfl (oN rfl rfl (λz=>run_eqGuard_agg z _ _ _ _ _ _ (by kernel_rfl)) (λz=>DF.adU _ _ _ z)) ?_;refine ir [15,18,114,115] ?_;exact⟨q2-1,by omega,k+1,rfl,rfl,by omega⟩
   .refine dI ?_;refine cL ?_;refine I (dH 5 (n:=.slice af o.length L)) ?_;refine K4 [15,18,132,133] ?_;refine dB (λq m H w'=>∃k:Nat,m=[(15,Z D),(18,Z E),(132,F o.length),(133,F k)]/\H=[cF E [.slice ak j.cS.length ae,.slice al s.length ag,vS g2 7 K] 34,row (.slice ak j.cS.length ae) 57 3 j.cS.length (j.cS.flatMap fH),row (.slice al s.length ag) 45 7 s.length (s.flatMap fm),cz (s.flatMap jw),row (vS g2 7 K) 23 1 7 (dF (nE j.vs)),cF D [.slice ad j.cS.length G,.slice af o.length L,vS g1 7 B] 34,row (.slice ad j.cS.length G) 57 3 j.cS.length (j.cS.flatMap fH),row (.slice af o.length L) 45 7 o.length (o.flatMap fm),cz (o.flatMap jw),row (vS g1 7 B) 23 1 7 (dF (nE j.vs))]/\q+k=o.length) o.length ⟨0,rfl,rfl,rfl⟩ ?_;rintro q3 _ _ cu ⟨k,rfl,rfl,cc⟩;refine cZ (λbf=>?_) λbf=>?_
    .obtain⟨x1,aw⟩:∃y,o[k]? =some y:=⟨_,dr (by omega)⟩;obtain⟨x2,aJ⟩:∃y,s[k]? =some y:=⟨_,dr (by omega)⟩;have aQ:x2.R=x1.R:=by have h:=dq (λl:C jg=>l[k]?) aC;simp only[eK,aw,aJ,tK,ln]at h;exact h
     obtain⟨a8,a9⟩:=aA.rp x1.R (by rw[<-aB];exact gu (eH aw));obtain⟨aF,aG⟩:=zU aw;obtain⟨aH,aI⟩:=zU aJ;obtain⟨R1,aZ,a1,aV,aX⟩:=x1;obtain⟨R2,a0,a2,aW,aY⟩:=x2;dsimp only at aQ a8 a9 aF aG aH aI;subst aQ;refine eQ λg=>?_;obtain⟨yh,_,e⟩:=fs g (q:=2) rfl;injection e with ap _ aq;subst ap;subst aq;obtain⟨a7,_,e⟩:=fs g (q:=7) rfl;injection e with ap _ aq;subst ap;subst aq;clear g;refine N [15,18,22,132,133] ?_;refine Y ?_;refine eO 12 [10] [_,_,_,_,_,_,_,_,_,_] [] (ik _) λbT=>?_;refine Y ?_;refine cN rfl (dH 5 (n:=vS a7 o.length L)) ?_;refine Y ?_;refine cN rfl (cR (ab:=k)) ?_;refine cN rfl (je 7 (b:=fm ⟨R2,aZ,a1,aV,aX⟩) (hv:=by rw[dU];exact oQ yB aw)) ?_;refine Y ?_;refine cN rfl (dH 0 (n:=vS yh s.length ag)) ?_;refine Y ?_;refine cN rfl (cR (ab:=k)) ?_;refine cN rfl (je 2 (b:=fm ⟨R2,a0,a2,aW,aY⟩) (hv:=by rw[dU];exact oQ yB aJ)) ?_;refine eh rfl (eB func19 (λz g=>ai0 R2 (by omega) (by omega) (Rd.qD g (n:=8) rfl aF) (Rd.qD g (n:=3) rfl aH) (Rd.qD g (n:=8) rfl aG) (Rd.qD g (n:=3) rfl aI))) ?_;rintro _ _ bB ⟨_,rfl,rfl,rfl⟩;refine⟨_,jQ _ _ _,?_⟩;refine ir [15,18,132,133] ?_;exact⟨q3-1,by omega,k+1,rfl,rfl,by omega⟩
    .refine dI ?_;refine Ku func14 (λz g=>Bw z) ?_;rintro _ _ bJ ⟨rfl,rfl⟩;refine N [10] ?_;refine gT results6 ?_;rfl
open Go.RowKit Go.WideShapes Go.ChangeShapes
set_option maxRecDepth 100000 in
theorem azq (i:Os)(b:i.Started)(R:Type)(enc:dk×M->R):ReturnsInHanded {} checked i 6 .any (Rows.systemSchedulesSpec.pre6 enc prog f6 Rows.systemSchedulesRow.domain false) (Rows.systemSchedulesSpec.post enc prog f6 false true false false):=by
 refine Eb (f:=checked) (tb:=4) Tryz.own b (by kernel_rfl) func6 (ChangeSpec.witness6 (enc:=enc) (C:=checked) false ⟨#[],#[.slice none 0 0,.slice none 0 0,.slice none 0 0,.slice none 0 0,.slice none 0 0],[]⟩ 8 (by kernel_rfl) (by kernel_rfl) (by kernel_rfl) (by kernel_rfl)) rfl (λc D=>?_) Tryz.laidOut (by kernel_rfl) (by kernel_rfl) underlying4 (λW args E=>?_)
 .have:c.length=5:=D.trans (by kernel_rfl)
  match c,this with
  |[_,_,_,_,_],_=>rfl
 .have a:sU enc prog W f6.params.toList args:=E;rw[params6]at a;clear E;obtain⟨S,_,rfl,h0,a⟩:=pt a;obtain⟨T,_,rfl,y,a⟩:=pt a;obtain⟨X,_,rfl,z,a⟩:=pt a;obtain⟨v3,_,rfl,A,a⟩:=pt a;obtain⟨v4,_,rfl,B,a⟩:=pt a;obtain rfl:=Ep a;obtain⟨j,t,o,rfl,d,G,_⟩:=pr h0;obtain⟨k,u,p,rfl,e,H,_⟩:=pr y;obtain⟨l,v,q,rfl,f,K,_⟩:=pr z;obtain⟨m,w,r,rfl,g,L,_⟩:=pr A;obtain⟨n,x,s,rfl,h,Q,_⟩:=pr B;exact akz W j t o d (by omega) k u p e (by omega) l v q f (by omega) m w r g (by omega) n x s h (by omega)
theorem azr {a b:Bool}(c:a=true)(d:b=true):(a&&b)=true:=by rw[c,d];rfl
theorem ayU:(Rows.systemSchedulesRow.wf (OpenSpec.ofChange Rows.systemSchedulesSpec))=true:=by kernel_rfl
theorem ayV:(laidOutB prog)=true:=by kernel_rfl
theorem ay6:(mapsRowed prog)=true:=by kernel_rfl
theorem azh:(f6.params.all (prog.readableRec ·))=true:=by kernel_rfl
theorem azk:(namedTie prog Rows.systemSchedulesRow.named Rows.systemSchedulesSpec.vars)=true:=by kernel_rfl
theorem azl:((Rows.systemSchedulesRow.stops==[]))=true:=by kernel_rfl
theorem azm:((prog.stops==[]))=true:=by kernel_rfl
theorem azn:((Rows.systemSchedulesRow.knobs==[]))=true:=by kernel_rfl
theorem azo:((prog.stopKnobs==[]))=true:=by kernel_rfl
theorem azp:((Rows.systemSchedulesRow.inPlace==prog.inPlace 6))=true:=by kernel_rfl
theorem ayW:((Rows.systemSchedulesRow.unfollowed==prog.unfollowed 6))=true:=by kernel_rfl
theorem ayX:((Rows.systemSchedulesRow.recurses==prog.recurses 6))=true:=by kernel_rfl
theorem ayY:((Rows.systemSchedulesRow.named==prog.varsNamed 6))=true:=by kernel_rfl
theorem ayZ:((Rows.systemSchedulesRow.maps==(f6.params.toList++Rows.systemSchedulesSpec.plain.varTypes prog).any (prog.mapsRec ·)))=true:=by kernel_rfl
theorem ay0:((Rows.systemSchedulesRow.ifaces==(f6.params.toList++Rows.systemSchedulesSpec.plain.varTypes prog).any (prog.ifacesRec ·)))=true:=by kernel_rfl
theorem ay1:((Rows.systemSchedulesRow.mapsOut==prog.mapsAmong f6.resultTypes.toList))=true:=by kernel_rfl
theorem ay2:((Rows.systemSchedulesRow.loops==(f6.params.toList++Rows.systemSchedulesSpec.plain.varTypes prog).any (prog.loopsFrom ·)))=true:=by kernel_rfl
theorem ay3:((Rows.systemSchedulesRow.wideKeys==(f6.params.toList++Rows.systemSchedulesSpec.plain.varTypes prog++f6.resultTypes.toList).any (prog.wideKeysFrom ·)))=true:=by kernel_rfl
theorem ay4:(Rows.systemSchedulesSpec.vars.all (prog.varReadable ·))=true:=by kernel_rfl
theorem ay5:(f6.resultTypes.all (λa=>prog.readableRec a&&decide (a<prog.types.size)))=true:=by kernel_rfl
theorem ay7:((Rows.systemSchedulesRow.ifacesOut==f6.resultTypes.toList.any (prog.ifacesRec ·)))=true:=by kernel_rfl
theorem ay8:((Rows.systemSchedulesRow.loopsOut==f6.resultTypes.toList.any (prog.loopsFrom ·)))=true:=by kernel_rfl
theorem ay9:((Rows.systemSchedulesRow.plainKeys==prog.plainKeys))=true:=by kernel_rfl
theorem aza:(Rows.systemSchedulesRow.shortTexts.isNone)=true:=by kernel_rfl
theorem azb:(prog.stopsHeard)=true:=by kernel_rfl
theorem azc:(prog.mayEnter)=true:=by kernel_rfl
theorem azd:((Rows.systemSchedulesRow.lifted==prog.liftsFinal))=true:=by kernel_rfl
theorem aze:((prog.make==some Rows.systemSchedulesRow.make))=true:=by kernel_rfl
theorem azf:((Rows.systemSchedulesRow.kinds==(if Rows.systemSchedulesRow.domain.isEmpty then[]else f6.params.toList.map λb=>match prog.underlying b with|some (.int a)=>some a|_=>none)))=true:=by kernel_rfl
theorem azg:((Rows.systemSchedulesRow.pinned==Rows.systemSchedulesRow.pinnedBy))=true:=by kernel_rfl
theorem azi:((Rows.systemSchedulesRow.veiled==(f6.params.toList++Rows.systemSchedulesSpec.plain.varTypes prog++f6.resultTypes.toList).any (prog.veiledRec ·)))=true:=by kernel_rfl
theorem azj:(Rows.systemSchedulesRow.veiledFits prog f6.params.toList (f6.params.toList++Rows.systemSchedulesSpec.plain.varTypes prog++f6.resultTypes.toList))=true:=by kernel_rfl
set_option maxRecDepth 100000 in
theorem ayS:joinedFacts prog 6 f6 Rows.systemSchedulesSpec Rows.systemSchedulesRow=true:=azr (azr (azr (azr (azr (azr (azr (azr (azr (azr (azr (azr (azr (azr (azr (azr (azr (azr (azr (azr (azr (azr (azr (azr (azr (azr (azr (azr (azr (azr (azr ayU ayV) ay6) azh) azk) azl) azm) azn) azo) azp) ayW) ayX) ayY) ayZ) ay0) ay1) ay2) ay3) ay4) ay5) ay7) ay8) ay9) aza) azb) azc) azd) aze) azf) azg) azi) azj
theorem systemSchedules_holds:Rows.SystemSchedulesSaid:=OpenClaim.holds_of_wide 6 f6 rfl rfl rfl rfl rfl rfl rfl ⟨rfl,rfl,rfl,rfl,rfl⟩ rfl rfl rfl rfl rfl (by kernel_rfl) func6 ayS (nr (by kernel_rfl)) (by unfold Func.isWrapper;first|(rw[cM (by decide+kernel)];kernel_rfl)|(rw[cJ (by decide+kernel)];exact⟨rfl,rfl⟩)) (λb a c enc _=>azq b a c enc)
end Go.Proofs.YtdlpoonfcdoiiaaGreat
