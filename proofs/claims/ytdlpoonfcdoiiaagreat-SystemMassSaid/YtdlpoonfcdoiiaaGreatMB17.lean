/- What the code does, step by step, and plain facts: part 17. They have no conditions. -/
import Derived.Test.YtdlpoonfcdoiiaaGreatMB16
namespace Go.Proofs.YtdlpoonfcdoiiaaGreat
open Go.RowKit Go.Proofs.Tryz
set_option maxHeartbeats 40000000
set_option linter.all false
def k0:U:=str [1,97,0]
def R0:jg:=⟨0,5,[(k0,5,5)],0,1,0,List.replicate 7 0⟩
def acR:k0≠ByteArray.empty:=λb=>by have a:k0.size=3:=mL _;rw[b]at a;cases a
def acS:k0.size=3:=mL _
def adO:sT prog 225 9 4 .string (.bool false):=⟨underlying225,underlying9,λa=>by kernel_rfl⟩
section
variable{c:O}{b a:M}
def aix (e:Rd c cW 3 b 1 (gM (k0,5,5))):Sn 106 [.agg (iD R0 b a).toArray,F 0] c λv t=>v=F 0/\t=[]:=by have k:=acR;have l:=acS;obtain⟨u,f,rfl,-⟩:=id e;obtain⟨d,g,rfl,r,d1⟩:=e.at_ (i:=0) (by omega);refine enter (g:=47) func106 rfl rfl [(0,.agg (iD R0 (.slice (some ⟨d,g,.none⟩) 1 f) a).toArray),(1,_)] rfl ⟨rfl,rfl,trivial⟩ hS ?_;refine Mf (f:=iD R0 (.slice (some ⟨d,g,.none⟩) 1 f) a) λh o=>?_;refine N [1,2] ?_;refine df ?_;refine I (cR (ab:=0)) ?_;refine I (kY (b:=gM (k0,5,5)) (hc:=λw x m=>by rw[qt,tJ];exact d1 _ _ m)) ?_;refine dj [vE,J 0,J 0] λj p=>?_;refine cO 0 (u:=gM (k0,5,5)) (H:=gM (k0,5,5)) (h1:=by simp[gM,Value.oneCell']) λq=>?_;refine cH [1,2,5] ?_;refine eL ?_;refine I (cU (oO rfl rfl) (z:=.bool false) (dq Value.bool (fL k))) ?_;refine N [1,2,5,11] ?_;refine eL ?_;refine I (cU (z:=.bool false) (gA rfl rfl) (dq Value.bool (fL (by rw[l];decide)))) ?_;refine N [1,2,5,15] ?_;refine N [1,2,5,20] ?_;refine cC ?_;refine eO 14 [10] [_,_] [] (ik _) λs=>?_;refine fh ?_;refine Y ?_;refine Am rfl rfl rfl ?_;refine N [33] ?_;refine N [4] ?_;refine gT results106 ?_;exact⟨rfl,rfl⟩
def ux (b a:M):C M:=[F 0,J 5,b,J 0,F 1,J 0,a]
def SZ (p:Rd c cW 3 b 1 (gM (k0,5,5)))(s:Rd c cW 1 a 7 (dF (List.replicate 7 0))):Sn 64 [.agg (iD R0 b a).toArray] c λW y=>W=F 0/\y=[]:=by
 obtain⟨S,f,rfl,-⟩:=id p;obtain⟨R,j,rfl,-⟩:=id s;obtain⟨e,g,rfl,K,d1⟩:=p.at_ (i:=0) (by omega);obtain⟨i,m,rfl,L,d2⟩:=s.at_ (i:=0) (by omega);refine enter (g:=109) func64 rfl rfl [(0,.agg (ux (.slice (some ⟨e,g,.none⟩) 1 f) (.slice (some ⟨i,m,.none⟩) 7 j)).toArray)] rfl ⟨rfl,trivial⟩ hS ?_;refine Mf (f:=ux (.slice (some ⟨e,g,.none⟩) 1 f) (.slice (some ⟨i,m,.none⟩) 7 j)) λh D=>?_;refine cB ?_;refine dw (DJ (g:=.string) (a:=(Value.string:U->M)) (d:=Value.bool)) ?_;rintro _ _ P ⟨t,rfl,rfl⟩;refine K4 [1,3,50,51,52] ?_;refine dB (λB T y X=>∃q:Nat,T=[(1,Z h),(3,.map (some t)),(50,.slice (some ⟨e,g,.none⟩) 1 f),(51,F 1),(52,F q)]/\y=[mp .string (Value.string:U->M) Value.bool t (if q=0 then[]else[(k0,true)]),cF h (ux (.slice (some ⟨e,g,.none⟩) 1 f) (.slice (some ⟨i,m,.none⟩) 7 j)) 45]/\B+q=1) 1 ⟨0,rfl,rfl,rfl⟩ ?_;rintro B _ _ ab ⟨q,rfl,rfl,Q⟩;refine cZ (λr=>?_) λr=>?_
 .obtain rfl:q=0:=by omega
  refine eL ?_;refine I (cR (ab:=0)) ?_;refine I (kY (b:=gM (k0,5,5)) (hc:=λk u A=>by rw[qt,tJ];exact d1 _ _ A)) ?_;refine dj [vE,J 0,J 0] λz E=>?_;refine KW 0 (t:=gM (k0,5,5)) (G:=gM (k0,5,5)) (h1:=by simp[gM,Value.oneCell']) λG=>?_;refine K3 2 (f:=ux (.slice (some ⟨e,g,.none⟩) 1 f) (.slice (some ⟨i,m,.none⟩) 7 j)) ?_;refine Ku func106 (λc o=>aix (b:=.slice (some ⟨e,g,.none⟩) 1 f) (a:=.slice (some ⟨i,m,.none⟩) 7 j) (p.dx o)) ?_;rintro _ _ H ⟨rfl,rfl⟩;refine N [1,3,5,6,50,51,52] ?_;refine N [1,3,5,6,50,51,52,61] ?_;refine df ?_;refine I (dH 0 (n:=.string k0)) ?_;refine iQ (DI (b:=U) (e:=Bool) (z:=true) (f:=k0) 1 adO vp rfl rfl rfl rfl) ?_;rintro w _ x rfl;refine fu [1,1] ?_;refine ir [1,3,50,51,52] ?_;exact⟨B-1,by omega,1,rfl,rfl,by omega⟩
 .obtain rfl:q=1:=by omega
  refine dI ?_;refine cL ?_;refine I (PR (a:=(Value.string:U->M)) (d:=Value.bool) 0 underlying225 rfl rfl) ?_;refine cB ?_;refine dd func107 (λc o=>RC (a:=[(k0,5,5)]) (by exact p.dx o) (by decide) (by decide)) ?_;rintro _ _ w7 ⟨rfl,rfl⟩;rw[show(fk [(k0,5,5)]:Nat)=5 from rfl];refine cB ?_;refine dd func88 (λc o=>qL 5 0 c (by decide) (by decide)) ?_;rintro _ _ w8 ⟨rfl,rfl⟩;rw[cM (by decide),show decide (5+0<18446744073709551616)=true from rfl];refine N [1,8,9,10] ?_;refine N [1,97] ?_;refine fh ?_;refine cQ ?_;refine dZ rfl rfl (cR (ab:=0)) ?_;refine dZ rfl rfl (jd (n:=J 0) (hc:=by rw[qt,tJ];exact d2 0 _ rfl)) ?_;refine N [108] ?_;refine N [2] ?_;refine gT results64 ?_;exact⟨rfl,rfl⟩
end
def j1:C Nat:=[0,5,0,1,0,0,0,0,0,0,0,1,3,1,97,0,5,0]
def adn (b c d e f:Int)(a:O):(Instr.buildSlice 25 5 [(0,J b),(1,J c),(2,J d),(3,J e),(4,J f)].toArray).run prog a=.ok (vS a.heap.size 5 5) (a.alloc (.cells [J b,J c,J d,J e,J f].toArray 23)):=by kernel_rfl
def adm (b c:Int)(a:O):(Instr.buildSlice 25 2 [(0,J b),(1,J c)].toArray).run prog a=.ok (vS a.heap.size 2 2) (a.alloc (.cells [J b,J c].toArray 23)):=by kernel_rfl
def XU (a:O):(Instr.build 321 #[]).run prog a=.ok (PE [vN]) a:=by kernel_rfl
section
variable{a:O}{c b:M}
def aiL (w:Rd a cW 3 c 1 (gM (k0,5,5)))(q:Rd a cW 1 b 7 (dF (List.replicate 7 0))):Sn 143 [.agg (iD R0 c b).toArray] a λr K=>∃T,r=PF [T,F 0]/\K=[row T 5 1 j1.length (DF.bv j1)]:=by
 obtain⟨lA,j,rfl,-⟩:=id w;obtain⟨jA,s,rfl,-,an,-⟩:=id q;obtain⟨i,o,rfl,al,d1⟩:=w.at_ (i:=0) (by omega);obtain⟨p,t,rfl,am,d2⟩:=q.at_ (i:=0) (by omega);have v:=q.cut (b:=1) (f:=7) (by omega) (by omega);have z:Lib.strCells k0=DF.bv [1,97,0]:=by have h:=DF.Ez k0;rw[h,show DF.sb k0=[1,97,0]from DF.S9 (by decide)]
 refine enter (g:=79) func143 rfl rfl [(0,.agg (ux (.slice (some ⟨i,o,.none⟩) 1 j) (.slice (some ⟨p,t,.none⟩) 7 s)).toArray)] rfl ⟨rfl,trivial⟩ hS ?_;refine Mf (f:=ux (.slice (some ⟨i,o,.none⟩) 1 j) (.slice (some ⟨p,t,.none⟩) 7 s)) λu ae=>?_;refine K3 0 (f:=ux (.slice (some ⟨i,o,.none⟩) 1 j) (.slice (some ⟨p,t,.none⟩) 7 s)) ?_;refine dd func64 (λa g=>SZ (w.dx g) (q.dx g)) ?_;rintro _ _ ah ⟨rfl,rfl⟩;refine cB ?_;refine I (ee (λa=>XU a)) ?_;refine dK λd ai=>?_;refine N [1,5] ?_;refine Y ?_;refine gh 5 1 ?_;refine cK [1,0,0] ?_;refine dG [_,_] ?_;refine eO 17 [15,16] [_] [_] (de [1] _ rfl) λaq=>?_;refine fh ?_;refine eL ?_;refine eh rfl (vg (g:=23) (b:=1) rfl (λa=>adn _ _ _ _ _ a) rfl (by decide)) ?_;rintro _ _ H ⟨D,rfl,rfl⟩;refine⟨_,eg.symm,?_⟩;refine eh rfl (ft ((q8 d vN [])) [_,_] func185 ((c8 2 rfl)) (λa g f=>Dt (d:=[0,5,0,1,0]) (by decide) (by decide) (by decide) (Rd.D5 g (c8 2 rfl) (.tail _ (.head _))) f)) ?_;rintro _ _ w5 ⟨_,rfl,W,rfl⟩;refine⟨_,de [1] _ rfl,?_⟩;refine iK [1,5] ?_;refine Y ?_;refine cK [0,0] ?_;refine eO 7 [6] [_] [_] (cD _) λar=>?_;refine df ?_;refine cN rfl (qB 1 (w:=1) (x:=7) rfl underlying25 (by kernel_rfl) ⟨_,rfl⟩ rfl) ?_;refine eh rfl (ft ((q8 d W ([]++[0,5,0,1,0].flatMap DF.er))) [_] func185 ((c8 1 rfl)) (λa g f=>Dt (d:=List.replicate 6 0) (by decide) (by decide) (by decide) (v.fg g (c8 1 rfl)) f)) ?_;rintro _ _ w6 ⟨_,rfl,X,rfl⟩;refine⟨_,de [1] _ rfl,?_⟩;refine iK [1,5] ?_;refine Y ?_;refine eO 9 [7,8] [_] [_] (cD _) λau=>?_;refine fw ?_;refine eh rfl (qi qe) ?_;rintro _ _ aj ⟨Q,rfl,rfl⟩;refine⟨_,eg.symm,?_⟩;refine eh rfl (ft ((q8 d X ([]++[0,5,0,1,0].flatMap DF.er++(List.replicate 6 0).flatMap DF.er))) [_,_] func185 ((c8 2 rfl)) (λa g f=>Dt (d:=[1]) (by decide) (by decide) (by decide) (Rd.D5 g (c8 2 rfl) (.tail _ (.head _))) f)) ?_;rintro _ _ w7 ⟨_,rfl,P,rfl⟩;refine⟨_,de [1] _ rfl,?_⟩;refine iK [1,5] ?_;refine cC ?_;refine cK [0,0] ?_;rw[show[]++[0,5,0,1,0].flatMap DF.er++(List.replicate 6 0).flatMap DF.er++[1].flatMap DF.er=j1.take 12 by decide];refine K4 [5,49,50,51] ?_;refine dB (λS m K w'=>∃(x:Nat)(A:M),m=[(5,Z d),(49,.slice (some ⟨i,o,.none⟩) 1 j),(50,F 1),(51,F x)]/\K=[cF u (ux (.slice (some ⟨i,o,.none⟩) 1 j) (.slice (some ⟨p,t,.none⟩) 7 s)) 45,q8 d A (if x=0 then j1.take 12 else j1)]/\S+x=1) 1 ⟨0,P,rfl,rfl,rfl⟩ ?_;rintro S _ _ w8 ⟨x,A,rfl,rfl,hq⟩;refine cZ (λy=>?_) λy=>?_
 .obtain rfl:x=0:=by omega
  rw[cM rfl];refine df ?_;refine I (cR (ab:=0)) ?_;refine I (kY (b:=gM (k0,5,5)) (hc:=λk T R=>by rw[qt,tJ];exact d1 _ _ R)) ?_;refine dj [vE,J 0,J 0] λB E=>?_;refine cO 0 (u:=gM (k0,5,5)) (H:=gM (k0,5,5)) (h1:=by simp[gM,Value.oneCell']) λG=>?_;refine cH [5,7,49,50,51] ?_;refine Y ?_;refine eO 6 [5] [_,_] [_] (cD _) λaf=>?_;refine cL ?_;refine cN rfl (dH 0 (n:=.string k0)) ?_;refine eh rfl (ft ((q8 d A (j1.take 12))) [_,_] func186 ((c8 2 rfl)) (λa g f=>XJ (b:=[1,97,0]) (by decide) z (by decide) f)) ?_;rintro _ _ w9 ⟨_,rfl,ab,rfl⟩;refine⟨_,de [1,1] _ rfl,?_⟩;refine iK [5,7,49,50,51] ?_;refine eO 12 [10,11] [_,_] [_] (cD _) λag=>?_;refine cL ?_;refine cN rfl (dH 0 (n:=J 5)) ?_;refine Y ?_;refine cN rfl (dH 0 (n:=J 5)) ?_;refine Y ?_;refine cN rfl (dH 0 (n:=J 5)) ?_;refine cN rfl (cU (z:=J 0) (BT rfl rfl) rfl) ?_;refine eh rfl (vg (g:=23) (b:=1) rfl (λa=>adm _ _ a) rfl (by decide)) ?_;rintro _ _ ao ⟨ak,rfl,rfl⟩;refine⟨_,de [1,1] _ rfl,?_⟩;refine eh rfl (ft ((q8 d ab (j1.take 12++DF.er [1,97,0].length++[1,97,0]))) [_,_,_] func185 ((c8 3 rfl)) (λa g f=>Dt (d:=[5,0]) (by decide) (by decide) (by decide) (Rd.D5 g (c8 3 rfl) (.tail _ (.tail _ (.head _)))) f)) ?_;rintro _ _ ap ⟨_,rfl,ad,rfl⟩;refine⟨_,de [1,1] _ rfl,?_⟩;refine iK [5,49,50,51] ?_;refine cK [1,1] ?_;refine N [5,49,50,51] ?_;refine⟨S-1,by omega,1,ad,rfl,?_,by omega⟩;rw[cJ (by omega),show j1.take 12++DF.er [1,97,0].length++[1,97,0]++[5,0].flatMap DF.er=j1 by decide]
 .obtain rfl:x=1:=by omega
  rw[cJ (by omega)];refine cK [1] ?_;refine eu [_,_] ?_;refine dI ?_;refine eL ?_;refine I (dH 0 (n:=A)) ?_;refine N [2,3] ?_;refine cK [1] ?_;refine dP results143 ?_;exact⟨A,rfl,rfl⟩
end
def aib {b:Nat}(e:b<128)(a:C Nat):DF.gC (b::a)=(b,1,0):=by
 have c:=DF.HK b a (by omega);have d:DF.er b=[b]:=by unfold DF.er;rw[DF.Gq 10 b e]
 rw[d]at c;exact c
def Nx (d:M)(a:C Nat)(c:M)(b:C Nat):Prop:=∀(W:O)(G:Nat->Prop),Rd W G 1 d a.length (DF.bv a)->Rd W G 1 c b.length (DF.bv b)
def Nx.trans {h a b:M}{c d e:C Nat}(i:Nx h c a d)(f:Nx a d b e):Nx h c b e:=λW G g=>f W G (i W G g)
def R7 {e:cG Addr}{m f:Nat}(d:Nat){a b:C Nat}(i:m=(a++b).length)(k:d=a.length):Nx (.slice e m f) (a++b) (.slice (if f=d then e else e.map (·.add (d*1))) (m-d) (f-d)) b:=λW G j=>by
 subst i;subst k;have h:=j.cut (b:=a.length) (f:=(a++b).length) (by rw[cX];omega) (dT _);have c:(a++b).length-a.length=b.length:=by rw[cX];omega
 have g:((DF.bv (a++b)).drop (a.length*1)).take (((a++b).length-a.length)*1)=DF.bv b:=by rw[fT,fT,c,DF.tR,AQ (by simp[DF.bv]),gS (by simp[DF.bv])]
 rw[g]at h;rw[c]at h|-;exact h
def ju (a:Nat)(b:M):V:=cF a [b,F 0] 153
section
variable{a:O}
def Eu {h d c:Nat}{k:M}{f:Int}{b:C Nat}(s:d<128)(z:d<=c)(v:c<18446744073709551616)(p:∀t∈b,t<256)(y:b.length<=100000)(j:Rd a (ju h k).fq 1 k (d::b).length (DF.bv (d::b)))(h0:Hl a (ju h k)):Sr 61 [Z h,J c,F f] a (ju h k) λA x=>A=J d/\∃m,Nx k (d::b) m b/\x=[ju h m]:=by unfold ju at*;obtain⟨g,i,rfl,-,q,-⟩:=id j;refine hJ func61 h0 ?_;refine N [0,1,2] ?_;refine N [0,1,2,14] ?_;refine fw ?_;refine I (dH 0 (n:=.slice g (d::b).length i)) ?_;refine dd func78 (λa r=>DF.Cs _ (d::b) a (j.dx r) (by simp;omega) (λt e=>by rcases dh.1 e with rfl|e;omega;exact p t e)) ?_;rintro _ _ B ⟨rfl,rfl⟩;rw[aib s];refine N [0,1,2,7,8,9] ?_;refine Y ?_;refine mm 15 [11,14] [(_,some 11)] [] (cD _) λw=>?_;refine eL ?_;refine ew rfl (dH 0 (n:=.slice g (d::b).length i)) ?_;refine Y ?_;refine ew rfl (qB 1 (w:=1) (x:=(d::b).length) rfl underlying74 (by kernel_rfl) ⟨_,rfl⟩ rfl (by simp) q) ?_;refine cC ?_;refine jC rfl (gD 0 (y:=[.slice g (d::b).length i,F 0])) ?_;rintro _ _ n rfl;refine⟨_,cD _,?_⟩;refine cC ?_;refine jC rfl (gD 0 (y:=[.slice (if i=1 then g else g.map (·.add (1*1))) ((d::b).length-1) (i-1),F 0])) ?_;rintro _ _ o rfl;refine⟨_,cD _,?_⟩;refine db results61 ?_;exact⟨rfl,_,R7 (a:=[d]) 1 rfl rfl,rfl⟩
def Cu {c h:Nat}{d:M}{b:C Nat}(m:h<128)(i:∀r∈b,r<256)(k:b.length<=100000)(l:Rd a (ju c d).fq 1 d (h::b).length (DF.bv (h::b)))(h0:Hl a (ju c d)):Sr 62 [Z c] a (ju c d) λp o=>p=J h/\∃g,Nx d (h::b) g b/\o=[ju c g]:=by refine dS func62 h0 ?_;refine cB ?_;refine cY ((ju c d)) [] func61 (cD _) (λa j f=>Eu (c:=18446744073709551615) m (by omega) (by omega) i k (l.fg j (cD _)) f) ?_;rintro _ _ q ⟨rfl,n,e,rfl⟩;refine db results62 ?_;exact⟨rfl,n,e,rfl⟩
def aiy {k:Nat}{t:M}{b:C Nat}(s:∀m∈b,m<256)(hl:b.length<=10000)(z:Rd a (ju k t).fq 1 t (3::1::97::0::5::0::b).length (DF.bv (3::1::97::0::5::0::b)))(h0:Hl a (ju k t)):Sr 63 [Z k] a (ju k t) λr H=>r=.agg (gM (k0,5,5)).toArray/\∃B,Nx t (3::1::97::0::5::0::b) B b/\H=[ju k B]:=by
 have v:∀m∈(0::b),m<256:=λm g=>by rcases dh.1 g with rfl|g;omega;exact s m g
 have w:∀m∈(1::97::0::5::0::b),m<256:=λm g=>by
  simp only[dh]at g;rcases g with rfl|rfl|rfl|rfl|rfl|g
  iterate 5 omega
  exact s m g
 refine dS func63 h0 ?_;refine NV [vE,J 0,J 0] λL T=>?_;refine cB ?_;refine cY ((ju k t)) [_] func61 ((c8 1 rfl)) (λa e f=>Eu (d:=3) (c:=255) (by omega) (by omega) (by omega) w (by simp;omega) (z.fg e (c8 1 rfl)) f) ?_;rintro _ _ w1 ⟨rfl,v1,p,rfl⟩;have i:=p _ _ z;obtain⟨c,d,rfl,-,o,-⟩:=id i;unfold ju;refine N [0,2,3] ?_;refine fh ?_;refine cQ ?_;refine dZ rfl rfl (dH 0 (n:=.slice c (1::97::0::5::0::b).length d)) ?_;refine cC ?_;refine dZ rfl rfl (cU (z:=.bool false) (gN rfl rfl) (dq Value.bool (fL (by simp;omega)))) ?_;refine N [0,2,3,24] ?_;refine N [0,2,3,32] ?_;refine fw ?_;refine I (dH 0 (n:=.slice c (1::97::0::5::0::b).length d)) ?_;refine Y ?_;refine I (qB 1 (w:=0) (x:=3) rfl underlying74 (by kernel_rfl) rfl ⟨_,rfl⟩ (by omega) (by simp at o;omega)) ?_;refine I (yd (A:=[1,97,0]) rfl underlying74 underlying5 underlying9 (λa e=>(i.dx e).cut (b:=0) (f:=3) (by omega) (by simp))) ?_;refine I (ee (λa=>by kernel_rfl) (n:=PE [.string (str [1,97,0]),J 0,J 0])) ?_;refine dj [vE,J 0,J 0] λQ W=>?_;refine cO 0 (H:=[.string k0,J 0,J 0]) λX=>?_;refine cH [0,2,3,4] ?_;refine eL ?_;refine I (dH 1 (n:=.slice c (1::97::0::5::0::b).length d)) ?_;refine Y ?_;refine I (qB 1 (w:=3) (x:=(1::97::0::5::0::b).length) rfl underlying74 (by kernel_rfl) ⟨_,rfl⟩ rfl (by simp) o) ?_;refine KW 1 (G:=[.slice (if d=3 then c else c.map (·.add (3*1))) ((1::97::0::5::0::b).length-3) (d-3),F 0]) λP=>?_;refine cH [0,2,4] ?_;refine Y ?_;have h:Nx (.slice c (1::97::0::5::0::b).length d) (1::97::0::5::0::b) (.slice (if d=3 then c else c.map (·.add (3*1))) ((1::97::0::5::0::b).length-3) (d-3)) (5::0::b):=R7 (a:=[1,97,0]) 3 rfl rfl;have j:=h _ _ i;generalize(.slice (if d=3 then c else c.map (·.add (3*1))) ((1::97::0::5::0::b).length-3) (d-3):M)=D at h j|-;refine cC ?_;refine cY ((ju k D)) [_,_] func62 ((c8 1 rfl)) (λa e f=>Cu (h:=5) (by omega) v (by simp;omega) (j.fg (h:=ju k D) e (c8 1 rfl)) f) ?_;rintro _ _ w2 ⟨rfl,E,q,rfl⟩;have A:=q _ _ j;refine KW 1 (G:=[.string k0,J 5,J 0]) λab=>?_;refine cB ?_;refine cY ((ju k E)) [_,_] func62 (cD _) (λa e f=>Cu (h:=0) (by omega) s (by omega) (A.fg (h:=ju k E) e (cD _)) f) ?_;rintro _ _ w3 ⟨rfl,S,y,rfl⟩;unfold ju;refine N [0,2,4,5] ?_;refine cQ ?_;refine I (dH 1 (n:=J 5)) ?_;refine Y ?_;refine dd func88 (λa e=>qL 5 0 a (by decide) (by decide)) ?_;rintro _ _ w8 ⟨rfl,rfl⟩;rw[cM (by decide),show decide (5+0<18446744073709551616)=true from rfl];refine KW 1 (G:=gM (k0,5,5)) λG=>?_;refine K3 1 (f:=gM (k0,5,5)) ?_;refine cO 2 (u:=gM (k0,5,5)) (H:=gM (k0,5,5)) (h1:=by simp[gM,Value.oneCell']) λK=>?_;refine cH [2] ?_;refine cK [2,0] ?_;refine eM ?_;refine⟨_,_,λn R e=>eW results63 (eX (e4 0 rfl underlying48 rfl (by kernel_rfl) rfl) eY) n R _ e,fO _ _,?_⟩;exact⟨rfl,S,p.trans (h.trans (q.trans y)),rfl⟩
end
def Yq (a:cG Addr)(c b:Nat)(d:O):(Instr.build 153 [(0,.slice a c b)].toArray).run prog d=.ok (PE [.slice a c b,F 0]) d:=by kernel_rfl
def aaq {a:Nat}(b:1<=a)(c:a<=6):j1.drop (a+4)=0::j1.drop (a+5)/\(∀d∈j1.drop (a+5),d<256)/\(j1.drop (a+5)).length<=100000:=by
 have:a=1\/a=2\/a=3\/a=4\/a=5\/a=6:=by omega
 rcases this with rfl|rfl|rfl|rfl|rfl|rfl<;>exact⟨rfl,by decide,by decide⟩
section
variable{a:O}{b:M}
def aiK (j:Rd a cW 1 b j1.length (DF.bv j1)):Sn 32 [b] a λr T=>∃lv jv,r=PF [.agg (iD R0 lv jv).toArray,F 0]/\T=[row lv 48 3 1 (gM (k0,5,5)),row jv 23 1 7 (dF (List.replicate 7 0))]:=by
 obtain⟨A0,c0,rfl,-⟩:=id j;refine dS func32 hS ?_;refine NV [F 0,J 0,vN,J 0,F 0,J 0,vN] λk av=>?_;refine cB ?_;refine I (ee (λa=>Yq _ _ _ a)) ?_;refine dK λc ay=>?_;refine NV [F 0,J 0,vN,J 0,F 0,J 0,vN] λn az=>?_;refine cH [2,4,5] ?_;refine Y ?_;obtain⟨u,al⟩:∃u:M,u=.slice A0 j1.length c0:=⟨_,rfl⟩;rw[<-al]at j|-;have j:Rd a cW 1 u j1.length (DF.bv j1):=j;refine cC ?_;refine cY ((ju c u)) [_,_] func61 ((c8 1 rfl)) (λa f g=>Eu (d:=0) (c:=1099511627776) (b:=(j1.drop 1)) (by omega) (by omega) (by omega) (by decide) (by decide) (j.fg (h:=ju c u) f (c8 1 rfl)) g) ?_;rintro _ _ aA ⟨rfl,v1,H,rfl⟩;have z:=H _ _ j;refine KW 1 (G:=[F 0,J 0,vN,J 0,F 0,J 0,vN]) λaB=>?_;refine cB ?_;refine cY ((ju c v1)) [_,_] func62 (cD _) (λa f g=>Cu (h:=5) (b:=(j1.drop 2)) (by omega) (by decide) (by decide) (z.fg (h:=ju c v1) f (cD _)) g) ?_;rintro _ _ aC ⟨rfl,v2,K,rfl⟩;have A:=K _ _ z;refine KW 1 (G:=[F 0,J 5,vN,J 0,F 0,J 0,vN]) λaD=>?_;refine cB ?_;refine cY ((ju c v2)) [_,_] func62 (cD _) (λa f g=>Cu (h:=0) (b:=(j1.drop 3)) (by omega) (by decide) (by decide) (A.fg (h:=ju c v2) f (cD _)) g) ?_;rintro _ _ aE ⟨rfl,v3,L,rfl⟩;have B:=L _ _ A;refine KW 1 (G:=[F 0,J 5,vN,J 0,F 0,J 0,vN]) λaF=>?_;refine cB ?_;refine cY ((ju c v3)) [_,_] func61 (cD _) (λa f g=>Eu (d:=1) (c:=1099511627776) (b:=(j1.drop 4)) (by omega) (by omega) (by omega) (by decide) (by decide) (B.fg (h:=ju c v3) f (cD _)) g) ?_;rintro _ _ aG ⟨rfl,v4,Q,rfl⟩;have D:=Q _ _ B;refine KW 1 (G:=[F 0,J 5,vN,J 0,F 1,J 0,vN]) λaH=>?_;refine cB ?_;refine cY ((ju c v4)) [_,_] func62 (cD _) (λa f g=>Cu (h:=0) (b:=(j1.drop 5)) (by omega) (by decide) (by decide) (D.fg (h:=ju c v4) f (cD _)) g) ?_;rintro _ _ aI ⟨rfl,v5,R,rfl⟩;have ai:=R _ _ D;refine KW 1 (G:=[F 0,J 5,vN,J 0,F 1,J 0,vN]) λaJ=>?_;refine cB ?_;refine dw (qy (y:=7) (B:=dF (List.replicate 7 0)) rfl rfl qe (by omega) (by omega) (zM 7).symm) ?_;rintro _ _ aK ⟨d,rfl,rfl⟩;refine KW 2 (G:=[F 0,J 5,vN,J 0,F 1,J 0,vS d 7 7]) λaL=>?_;refine cH [2,4,5] ?_;refine N [2,4,5,6] ?_;refine Y ?_;refine cK [2,1,0,0] ?_;refine dB (λS m T w'=>∃(q:Nat)(p:M),m=[(2,Z k),(4,Z c),(5,Z n),(6,F q)]/\T=[cF n [F 0,J 5,vN,J 0,F 1,J 0,vS d 7 7] 45,ju c p,row (vS d 7 7) 23 1 7 (dF (List.replicate 7 0)),cF k [F 0,J 0,vN,J 0,F 0,J 0,vN] 45]/\S+q=7/\1<=q/\Rd a cW 1 p (j1.drop (q+4)).length (DF.bv (j1.drop (q+4)))) 6 ⟨1,v5,rfl,rfl,rfl,dT _,ai⟩ ?_;rintro S _ _ w9 ⟨q,p,rfl,rfl,hq,ad,i⟩;refine cZ (λP=>?_) λP=>?_
 .obtain⟨ej,W,X⟩:=aaq ad (by omega);rw[ej]at i;refine cQ ?_;refine eO 7 [4,6] [_] [_,_,_] (cD _) λaw=>?_;refine Y ?_;refine cN rfl (dH 0 (n:=vS d 7 7)) ?_;refine cC ?_;refine eh rfl (ft ((ju c p)) [_,_,_] func62 (List.Perm.swap ..) (λa f g=>Cu (h:=0) (by omega) W X (i.fg (h:=ju c p) f (c8 1 rfl)) g)) ?_;rintro _ _ aM ⟨_,rfl,rfl,v',ae,rfl⟩;have ah:=ae _ _ i;refine⟨_,de [1] _ rfl,?_⟩;refine cN rfl (cR (ab:=q)) ?_;refine jW rfl (fK 2 (y:=dF (List.replicate 7 0)) (hl:=by show 0+q*1+1<=_;rw[yK,o3];omega) (ae:=by have h:=EL (a:=List.replicate 7 0) 0 (b:=q) (by rw[o3];omega);rw[List.set_replicate_self]at h;exact h)) ?_;rintro _ _ an rfl;refine⟨_,cD _,?_⟩;refine ir [2,4,5,6] ?_;exact⟨S-1,by omega,q+1,v',rfl,rfl,by omega,by omega,by rw[show q+1+4=q+5 by omega];exact ah⟩
 .obtain rfl:q=7:=by omega
  have i:Rd a cW 1 p (1::j1.drop 12).length (DF.bv (1::j1.drop 12)):=i;refine dI ?_;refine cL ?_;refine cY ((ju c p)) [_,_,_] func61 ((c8 1 rfl)) (λa f g=>Eu (d:=1) (c:=64) (b:=j1.drop 12) (by omega) (by omega) (by omega) (by decide) (by decide) (i.fg (h:=ju c p) f (c8 1 rfl)) g) ?_;rintro _ _ aN ⟨rfl,v6,af,rfl⟩;have aj:=af _ _ i;refine N [2,4,5,40,41] ?_;refine Y ?_;refine gh 48 3 ?_;refine cK [2,1,0,0,0] ?_;refine dB (λS m T w'=>∃(t:Nat)(p:M)(v:cG Addr)(o:Nat),m=[(2,Z k),(4,Z c),(5,Z n),(40,J 1),(41,J t)]/\T=[cF n [F 0,J 5,.slice v t o,J 0,F 1,J 0,vS d 7 7] 45,ju c p,row (.slice v t o) 48 3 t (if t=0 then[]else gM (k0,5,5)),row (vS d 7 7) 23 1 7 (dF (List.replicate 7 0)),cF k [F 0,J 0,vN,J 0,F 0,J 0,vN] 45]/\S+t=1/\Rd a cW 1 p (if t=0 then j1.drop 12 else[]).length (DF.bv (if t=0 then j1.drop 12 else[]))) 1 ⟨0,v6,.none,0,rfl,rfl,rfl,aj⟩ ?_;rintro S _ _ aO ⟨t,p,v,o,rfl,rfl,hq,i⟩;refine cZ (λab=>?_) λab=>?_
  .obtain rfl:t=0:=by omega
   have i:Rd a cW 1 p (3::1::97::0::5::0::[]).length (DF.bv (3::1::97::0::5::0::[])):=i;rw[cM rfl];refine cQ ?_;refine mm 8 [3,4,5,7] [(_,some 7)] [_,_,_,_] (cD _) λax=>?_;refine Y ?_;refine ew rfl (dH 0 (n:=.slice v 0 o)) ?_;refine Y ?_;refine gY rfl (ft ((ju c p)) [_,_,_,_] func63 (List.Perm.swap ..) (λa f g=>aiy (b:=[]) (λy hy=>(nomatch hy)) (by simp) (i.fg (h:=ju c p) f (c8 1 rfl)) g)) ?_;rintro _ _ aP ⟨_,rfl,rfl,v7,ag,rfl⟩;have ak:=ag _ _ i;refine⟨_,de [1] _ rfl,?_⟩;refine gY rfl (qi yF (b:=gM (k0,5,5))) ?_;rintro _ _ ao ⟨am,rfl,rfl⟩;refine⟨_,eg.symm,?_⟩;refine gY rfl (jo 3 yF (hr:=λa f=>Rd.dM f (l:=1) rfl) (h1:=by simp[gM,Value.oneCell'])) ?_;rintro _ _ aQ ⟨⟨E,G,rfl⟩,rfl⟩;refine⟨_,cD _,?_⟩;refine Y ?_;refine jC rfl (gD 0 (y:=[F 0,J 5,.slice E (0+1) G,J 0,F 1,J 0,vS d 7 7])) ?_;rintro _ _ ap rfl;refine⟨_,cD _,?_⟩;refine ui [2,4,5,40,41] rfl ?_;refine cK [0,1,1,1,1] ?_;refine N [2,4,5,40,41] ?_;exact⟨S-1,by omega,1,v7,E,G,rfl,rfl,by omega,ak⟩
  .obtain rfl:t=1:=by omega
   rw[cJ (by omega)];have i:Rd a cW 1 p ([]:C Nat).length (DF.bv []):=i;obtain⟨vA,vc,rfl,-⟩:=id i;refine eQ λf=>?_;obtain⟨s,cl,e⟩:=fs f (q:=2) rfl;injection e with e1 _ e3;subst e1;subst e3;clear f;unfold ju;refine dI ?_;refine K3 0 (f:=[F 0,J 5,vS s 1 o,J 0,F 1,J 0,vS d 7 7]) ?_;refine dd func64 (λa f=>SZ (b:=vS s 1 o) (a:=vS d 7 7) (Rd.dM f (l:=2) rfl) (Rd.dM f (l:=3) rfl)) ?_;rintro _ _ aq ⟨rfl,rfl⟩;refine KW 1 λar=>?_;refine K3 0 (f:=[F 0,J 5,vS s 1 o,J 0,F 1,J 0,vS d 7 7]) ?_;refine cO 4 (u:=[F 0,J 5,vS s 1 o,J 0,F 1,J 0,vS d 7 7]) (H:=[F 0,J 5,vS s 1 o,J 0,F 1,J 0,vS d 7 7]) λau=>?_;refine N [2,3] ?_;refine cK [4,2,2] ?_;refine eM ?_;refine⟨_,_,λw ha f=>eW results32 (eX (e4 0 rfl underlying45 rfl (by kernel_rfl) rfl) (gg rfl eY)) w ha _ f,fO _ _,?_⟩;exact⟨_,_,rfl,rfl⟩
end
def j4 (b a:M):C M:=[b,a,.bool false,J 0,J 0,.bool false,J 0,F 0]
def Uo:fB prog 94 74 1 24 vN:=.mk' underlying94 (by kernel_rfl) rfl (by decide)
def uu (b a:M):C V:=[row b 74 1 1 [a],row a 5 1 j1.length (DF.bv j1)]
section
variable{b:PC}{l:C Nat}{a c:M}{i:O}{f e d:V}{g:CA}{k:C SS}{h:dg}{j:gP}
def aj9 (hR:(h.tick b 5).2=[R0])(ai:g.wm<=1099511627776)(hc:b.Ok)(ag:∃j n b,a=.slice j n b)(hI:jr b l a c (b.low h.wm) g k f e h)(hA:jx b h j){rs:C jg}(ae:s3 b (b.low h.wm) j rs)(h0:Hl i (cz (dO b a c g k f e d))):Sr 103 [Z g.k,.agg (j2 2 vN 5).toArray] i (cz (dO b a c g k f e d)) λu H=>∃ak aj l' z' r s A,u=.agg (j4 vN (.slice r 1 s)).toArray/\H=cz (dO b a c z' l' ak aj d)::uu (.slice r 1 s) A/\z'.k=g.k:=by
 refine enter (g:=45) func103 rfl rfl [(0,_),(1,.agg (j2 2 vN 5).toArray)] rfl ⟨rfl,rfl,trivial⟩ h0 ?_;refine Mf (f:=j2 2 vN 5) λT ap=>?_;refine dj [vN,vN,.bool false,J 0,J 0,.bool false,J 0,F 0] λB aq=>?_;refine cB ?_;refine cY ((cz (dO b a c g k f e d))) [_,_] func29 ((c8 2 rfl)) (λi p ah=>J1 (m:=[]) 5 (by omega) ai hc ag hI hA ae (Rd.nil i _ 1) (by simp) (λx hx=>(nomatch hx)) ah) ?_;rintro _ _ w1 ⟨S,Q,l1,ul,RL,rfl,rfl,D,-,-⟩;rw[hR]at D;obtain⟨x,rfl⟩:∃x,RL=[x]:=Jj.1 (by have:=dq List.length D;simpa using this);obtain⟨xR,y,z,t,w⟩:=x;obtain rfl:xR=R0:=by simpa using D
 unfold zT;refine KW 3 (G:=j4 vN vN) λar=>?_;refine cH [4,5] ?_;refine cC ?_;refine eQ λp=>?_;obtain⟨P,W,G⟩:=fs p (q:=0) rfl (by show 0<1;omega);subst G;clear p;refine N [4,22,23,24] ?_;refine Y ?_;refine sL ?_;refine gh 74 1 ?_;refine dB (λq m H w'=>∃(o:Nat)(r:cG Addr)(s:Nat)(al:C M)(X:C V),m=[(4,Z B),(22,vS P 1 W),(23,F 1),(24,F o)]/\H=[row (.slice r o s) 74 1 o al,cz X,row (vS P 1 W) 45 7 1 (iD R0 (.slice y 1 z) (.slice t 7 w)),cz [row (.slice y 1 z) 48 3 1 (gM (k0,5,5)),row (.slice t 7 w) 23 1 7 (dF (List.replicate 7 0))],cz (dO b a c (g.at 5) l1 S Q d),cF B (j4 vN (.slice r o s)) 100,cF T (j2 2 vN 5) 92]/\q+o=1/\(o=0->al=[]/\X=[])/\(o=1->∃A,al=[A]/\X=[row A 5 1 j1.length (DF.bv j1)])) 1 ⟨0,.none,0,[],[],rfl,rfl,rfl,λ_=>⟨rfl,rfl⟩,λK=>by omega⟩ ?_;rintro q _ _ w2 ⟨o,r,s,al,X,rfl,rfl,hq,ab,ad⟩;refine cZ (λaf=>?_) λaf=>?_
 .obtain rfl:o=0:=by omega
  obtain⟨rfl,rfl⟩:=ab rfl;refine df ?_;refine I (cR (ab:=0)) ?_;refine I (je 2 (b:=iD R0 (.slice y 1 z) (.slice t 7 w))) ?_;refine dj [F 0,J 0,vN,J 0,F 0,J 0,vN] λan au=>?_;refine cO 0 (u:=iD R0 (.slice y 1 z) (.slice t 7 w)) (H:=iD R0 (.slice y 1 z) (.slice t 7 w)) (h1:=by simp[iD,Value.oneCell']) λav=>?_;refine K3 0 (f:=iD R0 (.slice y 1 z) (.slice t 7 w)) ?_;refine dd func143 (λi p=>aiL (c:=.slice y 1 z) (b:=.slice t 7 w) (Rd.qD p (n:=4) (o:=0) rfl rfl) (Rd.qD p (n:=4) (o:=1) rfl rfl)) ?_;rintro _ _ w3 ⟨A,rfl,rfl⟩;refine kq λp=>?_;obtain⟨uA,uc,rfl⟩:=fS p (p:=0) rfl;clear p;refine N [4,9,10,22,23,24] ?_;refine N [4,9,10,22,23,24,34] ?_;refine cL ?_;refine I (dH 7 (n:=.slice r 0 s)) ?_;refine Y ?_;refine gZ Uo λao aw=>?_;refine dw (jo 3 Uo) ?_;rintro _ _ w4 ⟨⟨L,R,rfl⟩,rfl⟩;refine KW 8 (G:=j4 vN (.slice L (0+1) R)) λax=>?_;refine cH [4,22,23,24] ?_;refine cK [4,1,2,2,2,2,2,2] ?_;refine Al ?_;refine cK [1,0,0,0,0,0,0] ?_;refine N [4,22,23,24] ?_;exact⟨q-1,by omega,1,L,R,_,_,rfl,rfl,by omega,λK=>by omega,λ_=>⟨.slice uA j1.length uc,rfl,rfl⟩⟩
 .obtain rfl:o=1:=by omega
  obtain⟨A,rfl,rfl⟩:=ad rfl;refine dI ?_;refine K3 5 (f:=j4 vN (.slice r 1 s)) ?_;refine cO 5 (u:=j4 vN (.slice r 1 s)) (H:=j4 vN (.slice r 1 s)) (h1:=by simp[j4,Value.oneCell']) λam=>?_;refine cH [4] ?_;refine cK [1,4,3,0] ?_;refine eu [_] ?_;refine cK [1,1,1,0] ?_;refine eM ?_;refine⟨_,_,λE ha p=>eW results103 (eX (e4 0 rfl underlying100 rfl (by kernel_rfl) rfl) eY) E ha _ p,fO _ _,?_⟩;exact⟨S,Q,l1,g.at 5,r,s,A,rfl,rfl,rfl⟩
end
section
variable{a:PC}{m:C Nat}{b c n:M}{j:O}{h g d:V}{f:CA}{k:C SS}{i:dg}{l:gP}{e:C gQ}
def ai3 {q:cG Addr}{s r:Nat}(L:1<=e.length)(Q:e.length<=7)(hE:∀x∈e,mg x)(hc:a.Ok)(hI:jr a m b c (a.low i.wm) f k h g i)(hA:jx a i l)(R:f.idle)(W:f.wm<=1099511627776)(K:l.length<=1000000)(S:qV i)(hd:Rd j (cz (dO a b c f k h g d)).fq 1 (.slice q s r) (gL (oL e)).length (DF.bv (gL (oL e))))(h0:Hl j (cz (dO a b c f k h g d))):Sr 60 [Z f.k,.agg (j2 1 (.slice q s r) 0).toArray] j (cz (dO a b c f k h g d)) λu P=>∃o p v t z,u=.agg (j4 (vS o e.length p) vN).toArray/\P=[cz (dO a b c f z v t d),row (vS o e.length p) 3 1 e.length (ec (i.feed a (jm a e)).2)]/\jr a m b c (a.low (i.feed a (jm a e)).1.wm) f z v t (i.feed a (jm a e)).1:=by
 refine enter (g:=66) func60 rfl rfl [(0,_),(1,.agg (j2 1 (.slice q s r) 0).toArray)] rfl ⟨rfl,rfl,trivial⟩ h0 ?_;refine Mf (f:=j2 1 (.slice q s r) 0) λab ae=>?_;refine dj [vN,vN,.bool false,J 0,J 0,.bool false,J 0,F 0] λw af=>?_;refine K3 1 (f:=j2 1 (.slice q s r) 0) ?_;refine dd func102 (λj D=>aln q s r 0) ?_;rintro _ _ ag ⟨rfl,rfl⟩;refine cH [0,4,15] ?_;refine eS (λG P w'=>∃o p v t z,G=[(4,Z w)]/\P=[cF w (j4 (vS o e.length p) vN) 100,cz (dO a b c f z v t d),row (vS o e.length p) 3 1 e.length (ec (i.feed a (jm a e)).2)]/\jr a m b c (a.low (i.feed a (jm a e)).1.wm) f z v t (i.feed a (jm a e)).1) ?_ ?_
 .refine cQ ?_;refine I (KH rfl (o:=PF [PE [.slice q s r],.bool true]) (λj=>by kernel_rfl)) ?_;refine NV [vN] λad ah=>?_;refine cO 0 (H:=[.slice q s r]) λai=>?_;refine cB ?_;refine cY ((cz (dO a b c f k h g d))) [_,_,_] func26 ((c8 3 rfl)) (λj D T=>On L Q hE hc hI hA R W K S (hd.fg D (c8 3 rfl)) T) ?_;rintro _ _ w1 ⟨o,p,B,A,H,rfl,rfl,y,-⟩;refine KW 3 (G:=j4 (vS o e.length p) vN) λaj=>?_;refine fu [3,0,0] ?_;refine cH [4] ?_;exact⟨o,p,B,A,H,rfl,rfl,y⟩
 .rintro _ _ w2 ⟨o,p,B,A,H,rfl,rfl,y⟩;refine K3 0 (f:=j4 (vS o e.length p) vN) ?_;refine cO 0 (u:=j4 (vS o e.length p) vN) (H:=j4 (vS o e.length p) vN) (h1:=by simp[j4,Value.oneCell']) λX=>?_;refine cH [4] ?_;refine eM ?_;refine⟨_,_,λE ha D=>eW results60 (eX (e4 0 rfl underlying100 rfl (by kernel_rfl) rfl) eY) E ha _ D,fO _ _,?_⟩;exact⟨o,p,B,A,H,rfl,rfl,y⟩
def ai4 (hR:(i.tick a 5).2=[R0])(T:f.wm<=1099511627776)(hc:a.Ok)(R:∃l D a,b=.slice l D a)(hI:jr a m b c (a.low i.wm) f k h g i)(hA:jx a i l){rs:C jg}(Q:s3 a (a.low i.wm) l rs)(h0:Hl j (cz (dO a b c f k h g d))):Sr 60 [Z f.k,.agg (j2 2 vN 5).toArray] j (cz (dO a b c f k h g d)) λu H=>∃y w G A o p r,u=.agg (j4 vN (.slice o 1 p)).toArray/\H=cz (dO a b c A G y w d)::uu (.slice o 1 p) r/\A.k=f.k:=by
 refine enter (g:=66) func60 rfl rfl [(0,_),(1,.agg (j2 2 vN 5).toArray)] rfl ⟨rfl,rfl,trivial⟩ h0 ?_;refine Mf (f:=j2 2 vN 5) λae af=>?_;refine dj [vN,vN,.bool false,J 0,J 0,.bool false,J 0,F 0] λs ag=>?_;refine K3 1 (f:=j2 2 vN 5) ?_;refine dd func102 (λj t=>alo .none 0 0 5) ?_;rintro _ _ ah ⟨rfl,rfl⟩;refine cH [0,4,15] ?_;refine eS (λB H w'=>∃y w G A o p r,B=[(4,Z s)]/\H=cF s (j4 vN (.slice o 1 p)) 100::cz (dO a b c A G y w d)::uu (.slice o 1 p) r/\A.k=f.k) ?_ ?_
 .refine cQ ?_;refine I (KH rfl (o:=PF [PE [vN],.bool false]) (λj=>by kernel_rfl)) ?_;refine cB ?_;refine I (KH rfl (o:=PF [.agg (j2 2 vN 5).toArray,.bool true]) (λj=>by kernel_rfl)) ?_;refine NV [F 0,vN,F 0,F 0,vE,vN] λW X=>?_;refine cO 0 (u:=j2 2 vN 5) (H:=j2 2 vN 5) (h1:=by simp[j2,Value.oneCell']) λP=>?_;refine K3 0 (f:=j2 2 vN 5) ?_;refine cY ((cz (dO a b c f k h g d))) [_,_,_] func103 ((c8 3 rfl)) (λj t S=>aj9 hR T hc R hI hA Q S) ?_;rintro _ _ w1 ⟨z,x,K,L,o,p,r,rfl,rfl,v⟩;unfold uu;refine cO 4 (u:=j4 vN (.slice o 1 p)) (H:=j4 vN (.slice o 1 p)) (h1:=by simp[j4,Value.oneCell']) λab=>?_;refine cH [4] ?_;refine cK [4,0,0,0] ?_;refine eM ?_;refine⟨_,_,λq E t=>eW results60 (eX (e4 0 rfl underlying100 rfl (by kernel_rfl) rfl) eY) q E _ t,fO _ _,?_⟩;exact⟨z,x,K,L,o,p,r,rfl,rfl,v⟩
 .rintro _ _ w2 ⟨z,x,K,L,o,p,r,rfl,rfl,v⟩;unfold uu;refine K3 0 (f:=j4 vN (.slice o 1 p)) ?_;refine cO 0 (u:=j4 vN (.slice o 1 p)) (H:=j4 vN (.slice o 1 p)) (h1:=by simp[j4,Value.oneCell']) λad=>?_;refine cH [4] ?_;refine eM ?_;refine⟨_,_,λq E t=>eW results60 (eX (e4 0 rfl underlying100 rfl (by kernel_rfl) rfl) eY) q E _ t,fO _ _,?_⟩;exact⟨z,x,K,L,o,p,r,rfl,rfl,v⟩
end
def tc (a:M):C gQ:=[(a,[(⟨#[97]⟩,ByteArray.empty)],0,5)]
def K1 (a:M):dg:=((dg.new jH).feed jH (jm jH (tc a))).1
def V5 (a:M):((K1 a).tick jH 5).2=[R0]:=by kernel_rfl
def Kt (e:M):∀d∈tc e,mg d:=λd b=>by
 rw[tc,fI]at b;subst b;refine⟨⟨(by show 1<=3;decide),λc a=>?_⟩,⟨DF.iJ (⟨#[97]⟩,ByteArray.empty),λc a=>?_⟩,(by show(0:Int)<=0;decide),(by show(0:Int)<=1060;decide),(by show 5<18446744073709551616;decide)⟩
 .have a:c∈[((⟨#[97]⟩:U),ByteArray.empty)]:=a;rw[fI]at a;subst a;exact⟨by decide,by decide⟩
 .have a:c∈[((⟨#[97]⟩:U),ByteArray.empty)]:=a;rw[fI]at a;subst a;exact .inr rfl
def Un:fB prog 88 100 8 96 (.agg (j4 vN vN).toArray):=.mk' underlying88 (by kernel_rfl) rfl (by decide)
def OY (a:M)(b:Nat):M:=if b=0 then a else vN
def tI (a:Nat):Nat:=if a=0 then 0 else 5
def xb (b:M)(a:Nat):C M:=j2 (a+1) (OY b a) (tI a)
def ahl (a:M)(b:Nat):(xb a b).length=6:=rfl
section
variable{i:C Nat}{a b f:M}{h:O}{d c:V}{e:CA}{g:C SS}
def JA (i:C Nat)(a b f:M)(j:Nat)(e:CA)(g:C SS)(d c:V):Prop:=match j with
 |0=>jr jH i a b (jH.low 0) e g d c (dg.new jH)/\e.idle/\e.wm=0
 |1=>jr jH i a b (jH.low (K1 f).wm) e g d c (K1 f)/\e.wm<=1099511627776
 |_=>True
def Jv (k:Nat)(m l:M)(r:C V):Prop:=match k with
 |0=>(∃q j,m=.slice q 1 j)/\l=vN
 |_=>m=vN/\∃o p n,l=.slice o 1 p/\r=uu l n
def Jv.sl {k:Nat}{n m:M}{u:C V}(l:Jv k n m u):∀t∈j4 n m,t.oneCell'=true:=λt p=>by
 have s:(∃o q j,n=.slice o q j)/\∃o q j,m=.slice o q j:=by
  cases k with
  |zero=>obtain⟨⟨o,j,rfl⟩,rfl⟩:=l;exact⟨⟨_,_,_,rfl⟩,_,_,_,rfl⟩
  |succ k=>obtain⟨rfl,o,j,v,rfl,-⟩:=l;exact⟨⟨_,_,_,rfl⟩,_,_,_,rfl⟩
 obtain⟨⟨o,q,j,rfl⟩,w,x,r,rfl⟩:=s;simp only[j4,dh,nn,o6]at p;rcases p with rfl|rfl|rfl|rfl|rfl|rfl|rfl|rfl<;>rfl
def QF {l h:O}{k:Nat->Prop}{n:V}{m:C V}(j:cI l k (n::m) h):cI l k [n,cz m] h:=by have o:cI l k (m++[n]) h:=j.perm (pK n m).symm;exact(cI.cz.1 o).perm (List.Perm.swap ..)
def ai5 {z:cG Addr}{D B j:Nat}(ad:j<2)(w:jH.Ok)(H:∃A n q,a=.slice A n q)(r:JA i a b f j e g d c)
 (ab:Rd h (cz (dO jH a b e g d c (cz []))).fq 1 (.slice z D B) (gL (oL (tc f))).length (DF.bv (gL (oL (tc f))))) (h0:Hl h (cz (dO jH a b e g d c (cz [])))):
 Sr 60 [Z e.k,.agg (xb (.slice z D B) j).toArray] h (cz (dO jH a b e g d c (cz []))) λu T=>∃p o m l R Q X,u=.agg (j4 R Q).toArray/\T=[cz (dO jH a b p o m l (cz [])),cz X]/\p.k=e.k/\JA i a b f (j+1) p o m l/\Jv j R Q X:=by
 match j,ad,r with
 |0,_,⟨v,L,t⟩=>have P:=jL.new jH;refine fz.conv (ai3 (e:=tc f) (l:=[]) (by decide:1<=1) (by decide:1<=7) (Kt f) w v P.inv L (by omega) (by decide) (λx ae=>by rw[uJ (show x∈List.replicate 7 0 from ae)];omega) ab h0) ?_;rintro u T ⟨S,cp,m,l,o,rfl,rfl,G⟩;exact⟨[cz (dO jH a b e o m l (cz [])),cz _],λw' y=>QF y,e,o,m,l,_,_,_,rfl,rfl,rfl,⟨G,by omega⟩,⟨_,_,rfl⟩,rfl⟩
 |1,_,⟨v,t⟩=>obtain⟨A1,s⟩:=(jL.new jH).feed w (jm jH (tc f)) (KP (Kt f));refine fz.conv (ai4 (i:=K1 f) (V5 f) t w H v s.inv s.rep h0) ?_;rintro u T ⟨m,l,o,p,rA,rc,W,rfl,rfl,af⟩;exact⟨[cz (dO jH a b p o m l (cz [])),cz _],λw' y=>QF y,p,o,m,l,_,_,_,rfl,rfl,af,trivial,rfl,rA,rc,W,rfl,rfl⟩
def ajZ {ae tv ov:M}{v:cG Addr}{x w:Nat}(hc:jH.Ok)(aj:lU i)(hr:Rd h cW 2 ae (fM jH i).length (lI (fM jH i)))(ht:Rd h cW 1 tv 16 (dF jH.table))(hd:Rd h cW 1 (.slice v x w) (gL (oL (tc f))).length (DF.bv (gL (oL (tc f)))))(ho:Rd h cW 6 ov 2 ([0,1].flatMap (xb (.slice v x w)))):Sn 31 [gV jH ae tv,ov] h λu H=>∃y z r s o p t,u=PF [.slice y 2 z,F 0]/\H=row (.slice y 2 z) 100 8 2 (j4 (.slice r 1 s) vN++j4 vN (.slice o 1 p))::uu (.slice o 1 p) t:=by
 obtain⟨av,ax,rfl,-⟩:=id ho;obtain⟨Q,S,rfl,-⟩:=id hr;obtain⟨R,d0,rfl,-⟩:=id ht;refine enter (g:=36) func31 rfl rfl [(0,.agg (cP jH (.slice Q (fM jH i).length S) (.slice R 16 d0)).toArray),(1,_)] rfl ⟨rfl,rfl,trivial⟩ hS ?_;refine Mf (f:=cP jH (.slice Q (fM jH i).length S) (.slice R 16 d0)) λaD aF=>?_;refine K3 0 (f:=cP jH (.slice Q (fM jH i).length S) (.slice R 16 d0)) ?_;refine dd func24 (λh D=>Oo hc aj (hr.dx D) (ht.dx D)) ?_;rintro _ _ w2 ⟨e,a,b,d,c,g,rfl,rfl,al,P,ai,hI⟩;refine N [1,6,7] ?_;refine N [1,6,7,17] ?_;refine N [1,6,21] ?_;refine N [1,6,8] ?_;refine N [6,8,22,23,24] ?_;refine Y ?_;refine sL ?_;refine gh 100 8 ?_;refine cK [2,0,0] ?_;obtain⟨G,L⟩:∃G,e.k=G:=⟨_,rfl⟩;rw[L];refine dB (λq m H w'=>∃(j:Nat)(y:cG Addr)(z:Nat)(ad:C M)(X:C V)(e:CA)(g:C SS)(d c:V),m=[(6,Z G),(8,.slice y j z),(22,.slice av 2 ax),(23,F 2),(24,F j)]/\H=[cz (dO jH a b e g d c (cz [])),row (.slice y j z) 100 8 j ad,cz X]/\q+j=2/\e.k=G/\JA i a b f j e g d c/\(j=0->ad=[])/\(j=1->∃r s,ad=j4 (.slice r 1 s) vN)/\(j=2->∃r s o p t,ad=j4 (.slice r 1 s) vN++j4 vN (.slice o 1 p)/\X=uu (.slice o 1 p) t)) 2 ⟨0,.none,0,[],[],e,g,d,c,rfl,rfl,rfl,L,⟨hI,al,P⟩,λ_=>rfl,λl=>by omega,λl=>by omega⟩ ?_;rintro q _ _ w3 ⟨j,y,z,ad,X,e,g,d,c,rfl,rfl,hq,ab,ar,af,ag,ah⟩;subst ab;refine cZ (λak=>?_) λak=>?_
 .have T:j<2:=by omega
  obtain⟨ob,oo,rfl,an,ao⟩:=ho.at_ T;have am:([0,1]:C Nat)[j]? =some j:=by
   have:j=0\/j=1:=by omega
   rcases this with rfl|rfl<;>rfl
  have ap:∀u∈xb (.slice v x w) j,u.oneCell'=true:=λu E=>by
   have:j=0\/j=1:=by omega
   rcases this with rfl|rfl<;>simp[xb,j2,OY,tI]at E<;>rcases E with rfl|rfl|rfl|rfl|rfl|rfl<;>rfl
  refine df ?_;refine I (cR (ab:=j) (ad:=T)) ?_;refine I (kY (b:=xb (.slice v x w) j) (hc:=λk u E=>by rw[ma];exact ao _ _ (qC (ahl _) am E)) (hF:=an)) ?_;refine dj [F 0,vN,F 0,F 0,vE,vN] λaE aG=>?_;refine cO 0 (u:=xb (.slice v x w) j) (H:=xb (.slice v x w) j) (h1:=ap) λaH=>?_;refine K3 0 (f:=xb (.slice v x w) j) ?_;refine cY ((cz (dO jH a b e g d c (cz [])))) [_,_,_] func60 ((c8 1 rfl)) (λh D aq=>ai5 T hc ai ar (hd.fg D (c8 1 rfl)) aq) ?_;rintro _ _ w4 ⟨z',l',aA,az,vv,rv,X',rfl,rfl,au,W,B⟩;refine gZ Un (l:=j4 vv rv) λaB aC=>?_;refine dw (jo 4 Un (h1:=B.sl)) ?_;rintro _ _ w5 ⟨⟨aw,ay,rfl⟩,rfl⟩;refine Y ?_;refine fu [1,3,1] ?_;refine ir [6,8,22,23,24] ?_;refine⟨q-1,by omega,j+1,aw,ay,ad++j4 vv rv,X',z',l',aA,az,rfl,rfl,by omega,au,W,λl=>by omega,λl=>?_,λl=>?_⟩
  .obtain rfl:j=0:=by omega
   obtain⟨⟨A,K,rfl⟩,rfl⟩:=B;rw[af rfl];exact⟨A,K,rfl⟩
  .obtain rfl:j=1:=by omega
   obtain⟨rfl,o,p,t,rfl,rfl⟩:=B;obtain⟨r,s,rfl⟩:=ag rfl;exact⟨r,s,o,p,t,rfl,rfl⟩
 .obtain rfl:j=2:=by omega
  obtain⟨r,s,o,p,t,rfl,rfl⟩:=ah rfl;refine cK [2,1] ?_;refine eu (uu (.slice o 1 p) t) ?_;unfold uu;refine dI ?_;refine N [4,5] ?_;refine cK [2,0,0] ?_;refine dP results31 ?_;exact⟨y,z,r,s,o,p,t,rfl,rfl⟩
end
def Yz (a:O):(Instr.build 87 [(0,.string ⟨#[97]⟩)].toArray).run prog a=.ok (PE [.string ⟨#[97]⟩,vE]) a:=by kernel_rfl
def XX (a:cG Addr)(c b:Nat)(d:O):(Instr.build 79 [(0,.slice a c b),(2,J 5)].toArray).run prog d=.ok (PE [.slice a c b,F 0,J 5]) d:=by kernel_rfl
def Yf (a:cG Addr)(c b:Nat)(d:O):(Instr.build 92 [(0,F 1),(1,.slice a c b)].toArray).run prog d=.ok (.agg (j2 1 (.slice a c b) 0).toArray) d:=by kernel_rfl
def Yg (a:O):(Instr.build 92 [(0,F 2),(2,F 5)].toArray).run prog a=.ok (.agg (j2 2 vN 5).toArray) a:=by kernel_rfl
def adl (b:cG Addr)(d c:Nat)(a:O):(Instr.buildSlice 93 2 [(0,.agg (j2 1 (.slice b d c) 0).toArray),(1,.agg (j2 2 vN 5).toArray)].toArray).run prog a=.ok (vS a.heap.size 2 2) (a.alloc (.cells (j2 1 (.slice b d c) 0++j2 2 vN 5).toArray 92)):=by kernel_rfl
def nf:fB prog 52 87 2 32 (PE [vE,vE]):=.mk' underlying52 (by kernel_rfl) rfl (by decide)
def Il:fB prog 73 79 3 40 (.agg #[vN,F 0,J 0]):=.mk' underlying73 (by kernel_rfl) rfl (by decide)
def Bw (e:O):fz prog 14 [] e cW λr H=>r=.bool true/\H=[]:=by
 refine enter (g:=93) func14 rfl rfl [] rfl trivial (cI.start _ _) ?_
 iterate 3 refine Y ?_
 refine kp [] rfl ?_
 iterate 2 refine Y ?_
 refine dw (DG rfl func8 (by kernel_rfl) (λe b=>xa .none 0 0 e)) ?_;rintro _ _ w1 ⟨_,rfl,n,rfl,rfl⟩;refine dw (nu ((du n (.slice .none 0 0) 0)) [] rfl func9 (by kernel_rfl) (cD _) (λe b t=>BB n _ [] 0 e ⟨Rd.nil e _ 1,by simp,dT _⟩ t)) ?_;rintro _ _ w2 ⟨_,rfl,c,S,cv,tv,p1,rfl,P,s,⟨K,ad,j,rfl⟩,⟨f,h,rfl⟩,rfl,-,ab⟩;obtain⟨rfl,rfl⟩:=ab rfl;unfold vd;refine dw (O1 [.int .i64 0,.int .i64 0,.int .i64 0,.int .i64 0,.int .i64 0,.int .i64 0,.int .i64 0,.int .i64 0,.int .i64 0,.int .u64 0,.int .i64 0,.int .i64 0,.int .i64 0,.int .i64 0,.slice .none 0 0,.slice .none 0 0,.int .u64 0] (by kernel_rfl)) ?_;rintro _ _ ag ⟨L,rfl,rfl⟩;refine iQ (Kh 0 (t:=cP jH (.slice K ad j) (.slice f 16 h)) (v:=cP jH (.slice K ad j) (.slice f 16 h)) rfl rfl rfl rfl (by kernel_rfl) (by simp[cP,Value.oneCell']) rfl rfl) ?_;rintro _ _ ah rfl;refine kp [1] rfl ?_
 iterate 2 refine Y ?_
 refine I (aaO rfl (λe=>Yz e)) ?_;refine dw (Kf (z:=[_,_]) nf rfl rfl rfl (by omega)) ?_;rintro _ _ ai ⟨g,rfl,rfl⟩;refine I (aaO rfl (λe=>XX _ _ _ e)) ?_;refine dw (Kf (z:=[_,_,_]) Il rfl rfl rfl (by omega)) ?_;rintro _ _ aj ⟨Q,rfl,rfl⟩;obtain⟨d,m⟩:∃d:M,d=.slice (some ⟨g,0,.none⟩) 1 1:=⟨_,rfl⟩;rw[<-m];refine dw (DG rfl func25 (by kernel_rfl) (λe b=>DF.Qo _ (tc d) e ⟨Rd.dM b (l:=0) rfl,λx w=>by
  rw[tc,fI]at w;subst w;refine⟨Rd.dM b (l:=1) rfl,?_,?_,?_⟩
  .show 1<=1000000;decide
  .show(-9223372036854775808:Int)<=0/\(0:Int)<=9223372036854775807;decide
  .show 5<18446744073709551616;decide⟩ (by show 1<=1000000;decide))) ?_
 rintro _ _ w3 ⟨_,rfl,u,rfl,rfl⟩;obtain⟨d1,d2,d3⟩:=J6 (b:=tc d) (by show 1<=1;decide) (by show 1<=7;decide) (Kt d);rw[d1];refine kq λb=>?_;obtain⟨uA,uc,rfl⟩:=fS b (p:=0) rfl;clear b
 iterate 5 refine Y ?_
 refine kp [1,2,3] rfl ?_
 iterate 2 refine Y ?_
 refine I (aa1 (D:=cP jH (.slice K ad j) (.slice f 16 h)) 3 rfl underlying27 rfl (by kernel_rfl) rfl rfl) ?_;refine Y ?_;refine I (aaO rfl (λe=>Yf _ _ _ e)) ?_;refine I (aaO rfl (λe=>Yg e)) ?_;refine dw (vg (g:=92) (b:=6) rfl (λe=>adl _ _ _ e) rfl (by decide)) ?_;rintro _ _ ak ⟨R,rfl,rfl⟩;refine dw (DG rfl func31 (by kernel_rfl) (λe b=>ajZ (i:=[8,24,32,80,256]) (f:=d) P s (Rd.dM b (l:=5) rfl) (Rd.dM b (l:=6) rfl) (Rd.dM b (l:=1) rfl) (Rd.dM b (l:=0) rfl))) ?_;rintro _ _ w4 ⟨_,rfl,oA,oc,ae,af,rA,A,T,rfl,rfl⟩;unfold uu
 iterate 5 refine Y ?_
 refine kp [3,4,5] rfl ?_
 iterate 2 refine Y ?_
 refine eQ λb=>?_;obtain⟨go,co,W⟩:=fs b (q:=0) rfl (by omega);injection W with k _ l;subst k;subst l;obtain⟨q,cr,W⟩:=fs b (q:=1) rfl (by omega);injection W with k _ l;subst k;subst l;clear b
 iterate 14 refine Y ?_
 refine dZ rfl rfl (Kz 8 (w:=0) rfl rfl underlying88 (by kernel_rfl) rfl (by omega)) ?_;refine Y ?_;refine dZ rfl rfl (DU (k:=.slice ae 1 af) 0 rfl underlying22 rfl rfl rfl) ?_
 iterate 5 refine Y ?_
 refine dZ rfl rfl (Kz 8 (w:=1) rfl rfl underlying88 (by kernel_rfl) rfl (by omega)) ?_;refine Y ?_;refine dZ rfl rfl (DU (k:=.slice (some ⟨q,0,.none⟩) 1 A) 0 rfl underlying94 rfl rfl rfl) ?_
 iterate 3 refine Y ?_
 refine kp [4,53] rfl ?_;refine as4 rfl ?_
 iterate 4 refine Y ?_
 refine I (Kz 8 (w:=1) rfl rfl underlying88 (by kernel_rfl) rfl (by omega)) ?_;refine Y ?_;refine I (DU (k:=.slice (some ⟨q,0,.none⟩) 1 A) 0 rfl underlying94 rfl rfl rfl) ?_;refine I (Kz 1 (w:=0) rfl rfl underlying94 (by kernel_rfl) rfl (by omega)) ?_;refine I (DU (k:=T) 1 rfl underlying74 rfl rfl rfl) ?_;refine dw (DG rfl func32 (by kernel_rfl) (λe b=>aiK (Rd.dM b (l:=2) rfl))) ?_;rintro _ _ w5 ⟨_,rfl,lv,jv,rfl,rfl⟩;refine kq λb=>?_;obtain⟨p,o,rfl⟩:=fs b (q:=0) rfl (by omega);obtain⟨y,z,rfl⟩:=fS b (p:=1) rfl;clear b
 iterate 3 refine Y ?_
 refine dw (O1 [.int .i64 0,.int .u64 0,.slice .none 0 0,.int .u64 0,.int .i64 0,.int .u64 0,.slice .none 0 0] (by kernel_rfl)) ?_;rintro _ _ D ⟨B,rfl,rfl⟩;refine iQ (Kh 0 (t:=ux (.slice (some ⟨p,0,.none⟩) 1 o) (.slice y 7 z)) (v:=ux (.slice (some ⟨p,0,.none⟩) 1 o) (.slice y 7 z)) rfl rfl rfl rfl (by kernel_rfl) (by simp[ux,Value.oneCell']) rfl rfl) ?_;rintro _ _ G rfl;refine Y ?_;refine kp [6,7] rfl ?_
 iterate 18 refine Y ?_
 refine dZ rfl rfl (Kz 3 (w:=0) rfl rfl underlying43 (by kernel_rfl) rfl (by omega)) ?_;refine Y ?_;refine dZ rfl rfl (DU (k:=.int .u64 5) 1 rfl underlying23 rfl rfl rfl) ?_
 iterate 5 refine Y ?_
 refine dZ rfl rfl (Kz 3 (w:=0) rfl rfl underlying43 (by kernel_rfl) rfl (by omega)) ?_;refine Y ?_;refine dZ rfl rfl (DU (k:=.int .u64 5) 1 rfl underlying23 rfl rfl rfl) ?_
 iterate 3 refine Y ?_
 refine kp [0] rfl ?_;refine eM ?_;refine⟨_,_,λa X b=>im results14 rfl a X _,iw _,?_⟩;exact⟨rfl,rfl⟩
def l0 {B s:O}{t:Nat->Prop}{k:C V}{a:C (M×C gQ)}{d:C Nat}{b:C (M×C Int)}{l q r:M}(c:cI B t k s){E G H K L:Nat}(u:k[E]? =some (row l 73 1 a.length (a.map Prod.fst)))(v:k[G]? =some (cz (a.map GB)))(w:k[H]? =some (row q 3 1 d.length (ec d)))(x:k[K]? =some (row r 22 1 b.length (b.map Prod.fst)))(y:k[L]? =some (cz (b.map Er)))(n:wB a d b):Jz s a d b l q r:=by
 refine⟨Rd.dM c u,λi e=>?_,Rd.dM c w,Rd.dM c x,λi e=>?_⟩
 .obtain⟨z,h⟩:=CY e;have o:yy [row i.1 79 3 i.2.length (DF.fp i.2),cz (i.2.map DF.yI)] s:=c.okB v (k:=z) (by rw[eK,h];rfl);have hE:=(n.f i e).2.2;refine⟨xe (um o (f:=0) rfl),λD g=>⟨?_,by have:=(hE D g).1.1;omega,by have:=(hE D g).2.2;omega,(hE D g).2.2.2.2⟩⟩;obtain⟨A,m⟩:=CY g;have p:yy (i.2.map DF.yI) s:=um o (f:=1) rfl;exact xe (um p (f:=A) (by rw[eK,m];rfl))
 .obtain⟨z,h⟩:=CY e;exact Rd.qD c y (o:=z) (by rw[eK,h];rfl)
section
variable{a:PC}{d:C Nat}{c:O}
def rH {t A u x y:M}{m:C (M×C gQ)}{n:C Nat}{q:C (M×C Int)}{s:cG Addr}{z:Nat}{r:C Int}(L:a.Ok)(hS:lU d)(S:Rd c cW 2 t (fM a d).length (lI (fM a d)))(T:Rd c cW 1 A 16 (dF a.table))(Q:Jz c m n q u x y)(w:wB m n q)(K:Rd c cW 1 (.slice s r.length z) r.length (oT r))(v:r.length<=140737488355328):Sn 10 [gV a t A,PE [u,x,y],.slice s r.length z] c λX W=>∃(e:jf)(b:C RV)(f:cG Addr)(g:Nat)(k:cG Addr)(l:Nat)(h:cG Addr)(j:Nat)(p:M),X=PF [PE [.slice f e.cS.length g,.slice k b.length l,.slice h 7 j],p,.bool true]/\W=pk e b (.slice f e.cS.length g) (.slice k b.length l) (.slice h 7 j)/\b.map RV.R=e.rs/\l9 a (([],some 1099511627776)::(qK a m n).reverse) e/\e.cS.length<=100/\e.vs.length<=100/\e.rs.length<=100:=by refine(ahh L hS S T Q w K v).held.mono ?_;rintro X W ⟨⟨e,b,iv,rv,jv,p,rfl,rfl,B,D,E,G,H⟩,w1,w2,o⟩;obtain⟨f,g,rfl⟩:=fS o (p:=0) rfl;obtain⟨k,l,rfl⟩:=fS o (p:=1) rfl;obtain⟨h,j,rfl⟩:=fS o (p:=3) rfl;exact⟨e,b,f,g,k,l,h,j,p,rfl,rfl,B,D,E,G,H⟩
def Ou (f:a.Ok){h:jg}:∀(g:C Nat)(e:dg),h∈(e.jR a g).2->h.lines.length<=6/\h.pC=e.fN
 |[],_,b=>(nomatch b)
 |c::g,e,b=>by
  have b:h∈(e.close a c).2::((e.close a c).1.jR a g).2:=b;rcases dh.1 b with rfl|b
  .refine⟨?_,rfl⟩;show(List.take a.top _).length<=6;have:=f.top;rw[eD];omega
  .have i:=Ou f g (e.close a c).1 b;exact i
def l9.Me (e:a.Ok){o:jg}:∀{n:C (C kr×cG Nat)}{l:jf},E2 n->l9 a n l->o∈l.rs->o.lines.length<=6/\o.pC.length=7
 |[],l,_,g,b=>by have g:l=jf.new a:=g;subst g;cases b
 |p::n,l,h,g,b=>by
  obtain⟨m,j,h0,rfl⟩:=g;have f:E2 n:=λy v=>h y (dN _ v);obtain⟨z,u⟩:=l9.LS e f h0;obtain⟨w,s⟩:=u.feed e p.1 (h p (dQ ..));have t:=Ie j s;unfold jf.frame at b;cases i:p.2 with
  |none=>rw[i]at b;exact l9.Me e f h0 b
  |some x=>
   rw[i]at b;rcases dV.1 (show o∈m.rs++((pE j (m.k.feed a p.1).1).tick a x).2 from b)with b|b
   .exact l9.Me e f h0 b
   .obtain⟨q,r⟩:=Ou e _ _ b;refine⟨q,?_⟩;rw[r];exact t.inv.fN
structure xw (a:PC)(e:jf)(f:C RV)(h:gP):Prop where
 o:jL a e.k e.rs e.cS h
 t:∀g∈e.cS,g.time<=2000
 k:∀g∈e.cS,(DF.rP g.key).2=0/\g.key.size<=255
 il:e.cS.length<=100
 rl:f.length<=100
 r:f.map RV.R=e.rs
 lo:2000<a.low e.k.wm
 b:∀r∈e.rs,r.eP<=1099511627776
 rp:∀r∈e.rs,r.lines.length<=6/\r.pC.length=7
def sD {o:C (M×C gQ)}{p:C Nat}{A:C (M×C Int)}{f:jf}{l:C RV}(h:a.Ok)(e:wB o p A)(t:l.map RV.R=f.rs)(r:l9 a (([],some 1099511627776)::(qK a o p).reverse) f)(H:f.cS.length<=100)(i:f.rs.length<=100):∃z,xw a f l z:=by
 obtain⟨z,s⟩:=l9.LS h (S3 e) r;have X:1099511627776<=f.k.wm:=by obtain⟨T,Q,-,rfl⟩:=r;show 1099511627776<=((pE Q (T.k.feed a []).1).tick a 1099511627776).1.wm;rw[ak7];exact Nat.le_max_right _ _
 have w:∀g∈f.cS,g.time<=2000:=λg b=>by obtain⟨y,n,rfl,-⟩:=S4 e r b;exact acH n
 have m:∀g∈f.cS,a.gx g.time<=2000:=λg b=>gF (C9 ..) (w g b);have W:l.length=f.rs.length:=by rw[<-t,dL]
 have D:=h.length;have P:=h.late;refine⟨z,s,w,λg b=>?_,H,by omega,t,?_,λS i=>?_,λS i=>l9.Me h (S3 e) r i⟩
 .obtain⟨y,n,rfl,h0⟩:=S4 e r b;obtain⟨x,B,-⟩:=G0 n h0;have G:(nx y).key=str (DF.iL y.2.1).1:=by unfold nx;rw[x]
  rw[G,(DF.ajU B).1];exact⟨rfl,by rw[mL];exact DF.Lq y.2.1⟩
 .unfold PC.low;rw[Nat.lt_div_iff_mul_lt (by omega)];have:2000*a.length<=2000*20:=Bd _ D.2;rw[ze];omega
 .have K:=s.pos i;have j:seen a f.cS S.eP≠[]:=λx=>K (by rw[x];rfl);unfold seen ez at j;obtain⟨x,E⟩:=List.exists_mem_of_ne_nil _ j;obtain⟨q,L,rfl⟩:=dz.1 E;obtain⟨u,v⟩:=kE.1 L;obtain⟨g,b,rfl⟩:=dz.1 u;have:a.gx g.time=S.eP:=nr v;have:=m g b;omega
end
end Go.Proofs.YtdlpoonfcdoiiaaGreat
